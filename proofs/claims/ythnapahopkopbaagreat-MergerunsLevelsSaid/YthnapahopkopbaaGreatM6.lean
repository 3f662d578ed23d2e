/-
  Parts of a proof.
-/
import Derived.Test.YthnapahopkopbaaGreatM3
import Derived.Test.YthnapahopkopbaaGreatM5
set_option linter.unusedSimpArgs false
set_option linter.unusedVariables false
section
namespace Go.Am
set_option linter.unusedVariables false
set_option maxRecDepth 20000
set_option maxHeartbeats 1000000
section
variable {B S:Int} {l l':List J2} {n:Int} {fr:List T_api_Frame} {lk lk' rows rows':List T_api_Row} {f f':T_api_Frame} {i:Int} {k k':J5}
theorem Rel.note{e:J2}{p:Int}(h:Rel l n fr lk rows)(he: ¬(e.2.1=1\/e.2.1=2))(j:e.2.2.2.2.2.1<=J0y l p)(h1: ∀q,q≠p->idx rows' q=idx rows q)(h2: ∀r,idx rows' p=some r-> ∃r0,idx rows p=some r0/\r.1=J1o r0.1 e.2.2.2.2.2.1):Rel (l++[e]) n fr lk rows':=by
 have g: ∀p,J0y (l++[e]) p=J0y l p:=λp=>J6k λh=>he h.1;refine⟨h.rng,h.one,h.apt,λx hx=>?_,by simpa only[g]using h.lak,λq r hr=>?_⟩
 ·rw[g];refine⟨(h.hot x hx).1,λc r hr=>?_⟩;by_cases hq:x.1.1=p
  ·rw[hq]at hr⊢;obtain⟨r0,e0,e1⟩:=h2 r hr;have:=(h.hot x hx).2 c r0 (by rw[hq];exact e0);rw[hq]at this;have:=J5P r0.1 e.2.2.2.2.2.1;omega
  ·rw[h1 _ hq]at hr;exact(h.hot x hx).2 c r hr
 ·rw[g];by_cases hq:q=p
  ·subst hq;obtain⟨r0,e0,e1⟩:=h2 r hr;obtain⟨q1,q2⟩:=h.row q r0 e0;have:=J5P r0.1 e.2.2.2.2.2.1;exact⟨by omega,λa b=>by have:=q2 a b;omega⟩
  ·rw[h1 _ hq]at hr;exact h.row q r hr
theorem JnK.inv{e:J2}{y:J6Z}(h:JnK k e y)(hi:JC k)(he: ¬(e.2.1=1\/e.2.1=2))(x:e.2.1=7->e.2.2.2.2.2.1<=J0y k.2.2.1.2.1 (pgE e)):JC y.1:=by
 obtain⟨hv,e',a1,a2,a3,a4,A,q,w,v,r,a9,j,n⟩:=h;obtain⟨C,B,o⟩:=hi;have g: ¬(e'.2.1=1\/e'.2.1=2):=by rw[a1];exact he
 refine⟨w,by rw[q];exact a9,?_⟩;rw[A,q,v,r];by_cases c:e.2.1=7
 ·obtain⟨b1,b2⟩:=n c;have hr:e'.2.2.2.2.2.1=e.2.2.2.2.2.1:=congrArg (λz:Int×T_api_Change×List UInt8=>z.1) a2;exact o.note g (by rw[hr];exact x c) b1 (by rw[hr];exact b2)
 ·rw[j c];exact o.ent g
theorem JmS{m:Int}(e:J1v (k,m)=some k'):k'.1=k.1/\(J6S k.2.2.1->J6S k'.2.2.1)/\k'.2.2.1.2.1=k.2.2.1.2.1/\k'.2.2.2=k.2.2.2:=by
 have g:Par (J1v (k,m)) λk'=>k'.1=k.1/\(J6S k.2.2.1->J6S k'.2.2.1)/\k'.2.2.1.2.1=k.2.2.1.2.1/\k'.2.2.2=k.2.2.2:=by unfold J1v;refine .bind λ_ _=>.bind λh h3=>.eq (λc=>.some ?_) λ_=>.some ⟨rfl,id,rfl,rfl⟩;obtain⟨q1,q2⟩:=JdT h3 c;exact⟨rfl,q2,q1,rfl⟩
 exact g _ e
theorem JC.same(h:JC k)(e1:k'.1=k.1)(e2:J6S k.2.2.1->J6S k'.2.2.1)(g:k'.2.2.1.2.1=k.2.2.1.2.1)(n:k'.2.2.2.1.2.1=k.2.2.2.1.2.1)(e:k'.2.2.2.2.2.2.2=k.2.2.2.2.2.2.2)(j:k'.2.2.2.2.2.2.1=k.2.2.2.2.2.2.1):JC k':=by unfold JC;rw[e1,g,n,e,j];exact⟨e2 h.1,h.2⟩
theorem JC.force{m:Int}(h:JC k)(e:J1v (k,m)=some k'):JC k':=by obtain⟨e1,e2,j,g⟩:=JmS e;exact h.same e1 e2 j (by rw[g]) (by rw[g]) (by rw[g])
theorem JDV{p:JF}{x:JS}{y:J6c}(e:J4c (p,x)=some y)(c:y.2=0): ∃i f r,idx p.2.1 i=some f/\f.1.1=x.1/\y.1=(p.1,p.2.1.set i.toNat (x,true,r,true),p.2.2):=by
 have j:Par (J4c (p,x)) λy=>y.2=0-> ∃i f r,idx p.2.1 i=some f/\f.1.1=x.1/\y.1=(p.1,p.2.1.set i.toNat (x,true,r,true),p.2.2):=by
  unfold J4c;refine .bind λ_ _=>.not (λ_=>.some nofun) λ_=>.bind λk _=>.ne (λc=>.some λh=>absurd h c) λ_=>.bind λi hi=>.lt (λ_=>.some nofun) λn=>.bind λf hf=>.le (λ_=>.some nofun) λ_=>.not (λ_=>.bind λq hq=>.some λ_=>?_) λ_=>.bind λq hq=>.some λ_=>?_
  all_goals
   obtain⟨g,g1,g2⟩:=(J7S hi).2.1 (by omega);have:g=f:=by rw[show idx p.2.1 i=some f from hf]at g1;injection g1 with g1;exact g1.symm
   subst this;exact⟨i,g,_,g1,g2,Jip hq⟩
 exact j _ e c
theorem JB4{e:J2}{y:J1E}(h:J4f (k,e)=some y)(hi:JC k)(hk:e.2.1=1\/e.2.1=2)(hf: ∃f∈k.2.2.2.1.2.1,f.1.1=pgE e):JC y.1:=by
 have C:Par (J4f (k,e)) λy=>JC y.1:=by
  unfold J4f;dsimp only;have L:e.2.1≠7:=by omega
  have K:e.2.1≠6:=by omega
  refine .bind λj h2=>.ne (λ_=>.some hi) λI=>.bind λo h3=>.bind λ_ _=>.bind λ_ _=>.bind λJ N=>.ne (λ_=>.some hi) λO=>.some ?_;obtain⟨f,hf,v⟩:=hf;have D:=hi.2.2.rng f hf;rw[v]at D;obtain⟨hv,e',a1,a2,a3,a4,H,E,G,S,F,a9,A,R⟩:=Jsy h2 I hi (λ_=>D) (λc=>absurd c L) (λc=>absurd c K);obtain⟨i,g,r,g1,g2,P⟩:=JDV N O;have hx: ∃g∈k.2.2.2.1.2.1,g.1=o.1/\g.1.1=pgE e:=by
   cases c3:o.2 with
   |true=>exact(JaS h3).1 c3
   |false=>exact absurd v ((JaS h3).2 c3 (Jbd hv) f hf)
  obtain⟨g',Q,B,x⟩:=hx;have w:o.1.1=pgE e:=by rw[<-B];exact x
  have n:pgE e'=pgE e:=congrArg (λz:Int×T_api_Change×List UInt8=>z.2.1.1) a2;have hc:e'.2.1=1\/e'.2.1=2:=by rw[a1];exact hk
  have g2:g.1.1=pgE e:=g2.trans w;have M:=hi.2.2.upd (l':=k.2.2.1.2.1++[e']) (rows':=k.2.2.2.2.2.2.1) (f':=((o.1.1,j.2.1,Jgc o.1.2.2 (Int.toNat e.2.2.2.2.2.2.1.2.1) e.2.2.2.2.2.2.1.2.2.2),true,r,true)) g1 (w.trans g2.symm)
   (λq hq=>J6k λh=>hq (by rw[<-h.2,n,g2])) (λ_ _=>rfl) (by
    rw[J70,if_pos ⟨hc,by rw[n,g2]⟩];exact a4) nofun (λr hr=>by
    rw[J70,if_pos ⟨hc,by rw[n,g2]⟩];have q:=(hi.2.2.row _ r hr).1;have b:=Jpa hi.2.1 (g.1.1);omega)
  refine⟨G,by show J2L j.1.2.2.1.2.1;rw[E];exact a9,?_⟩;show Rel j.1.2.2.1.2.1 j.1.1 J.1.2.1 j.1.2.2.2.2.2.2.2 j.1.2.2.2.2.2.2.1;rw[E,H,P,F,A (by omega)];exact M
 exact C _ h
end
end Go.Am
end
section
namespace Go.Am
set_option linter.unusedVariables false
set_option maxRecDepth 20000
set_option maxHeartbeats 1000000
section
variable {B S:Int} {l l':List J2} {n:Int} {fr:List T_api_Frame} {lk lk' rows rows':List T_api_Row} {f f':T_api_Frame} {i:Int} {k k':J5}
theorem JK7{p:JF}{x:JS}{y:Int×Int×Int×List T_api_Frame}(e:J3C (p,x)=some y)(c:y.2.2.1=0):y.2.2.2=p.2.1++[(x,false,0,true)]/\ ∀f∈p.2.1,f.1.1≠x.1:=by
 have g:Par (J3C (p,x)) λy=>y.2.2.1=0->y.2.2.2=p.2.1++[(x,false,0,true)]/\ ∀f∈p.2.1,f.1.1≠x.1:=by unfold J3C;refine .bind λ_ _=>.not (λ_=>.some nofun) λ_=>.bind λn _=>.ne (λc=>.some λh=>absurd h c) λ_=>.bind λi hi=>.ge (λ_=>.some nofun) λo=>.eq (λ_=>.some nofun) λ_=>.bind λq h5=>.bind λk j=>.some λ_=>⟨?_,(J7S hi).2.2 (by omega)⟩;rw[J3t j,JhC h5]
 exact g _ e c
theorem JGa{p:JF}{id j:Int}{y:J6c}(e:J4L (p,id,j)=some y)(c:y.2=0): ∃i f,idx p.2.1 i=some f/\f.1.1=id/\j<=f.1.2.1/\(y.1.2.1=p.2.1\/ ∃f',f'.1=f.1/\(f'.2.1=false->f.2.1=false\/f.1.2.1=j)/\y.1.2.1=p.2.1.set i.toNat f'):=by
 have n:Par (J4L (p,id,j)) λy=>y.2=0-> ∃i f,idx p.2.1 i=some f/\f.1.1=id/\j<=f.1.2.1/\(y.1.2.1=p.2.1\/ ∃f',f'.1=f.1/\(f'.2.1=false->f.2.1=false\/f.1.2.1=j)/\y.1.2.1=p.2.1.set i.toNat f'):=by
  unfold J4L;refine .bind λ_ _=>.not (λ_=>.some nofun) λ_=>.bind λi hi=>.lt (λ_=>.some nofun) λr=>.bind λf hf=>.gt (λ_=>.some nofun) λk=>?_;obtain⟨g,g1,g2⟩:=(J7S hi).2.1 (by omega);have:g=f:=by rw[show idx p.2.1 i=some f from hf]at g1;injection g1 with g1;exact g1.symm
  subst this;have k:j<=g.1.2.1:=Int.not_lt.1 k;have go: ∀{f':T_api_Frame} {q:JF},f'.1=g.1->(f'.2.1=false->g.2.1=false\/g.1.2.1=j)->J1s (p,i,f')=some q-> ∃i f,idx p.2.1 i=some f/\f.1.1=id/\j<=f.1.2.1/\(q.2.1=p.2.1\/ ∃f',f'.1=f.1/\(f'.2.1=false->f.2.1=false\/f.1.2.1=j)/\q.2.1=p.2.1.set i.toNat f'):=fun{f' q} h1 h2 hq=>⟨i,g,g1,g2,k,.inr ⟨f',h1,h2,by rw[Jip hq]⟩⟩;refine .not (λ_=>.some λ_=>⟨i,g,g1,g2,k,.inl rfl⟩) λ_=>.eq (λo=>.bind λq hq=>.some λ_=>go (f':=(g.1,false,0,g.2.2.2)) rfl (λ_=>.inr o) hq) λ_=>.le (λ_=>.bind λq hq=>.some λ_=>go (f':=(g.1,g.2.1,J1 .i64 j 1,g.2.2.2)) rfl (λh=>.inl h) hq) λ_=>.bind λq hq=>.some λ_=>go (f':=(g.1,g.2)) rfl (λh=>.inl h) hq
 exact n _ e c
theorem JD8{p:JF}(e:JL p=some true):J0 p.2.1<=64:=by
 have g:Par (JL p) λy=>y=true->J0 p.2.1<=64:=by unfold JL;exact .ltf (λ_=>.gtf (λ_=>.gtf (λ_=>λ_ _ _=>by omega) λ_=>.some nofun) λ_=>.some nofun) λ_=>.some nofun
 exact g _ e rfl
theorem JDT{x:JS}{y:J1E}(e:J2D (k,x)=some y)(c:y.2=0)(hi:JC k):JC y.1:=by
 have K:Par (J2D (k,x)) λy=>y.2=0->JC y.1:=by
  unfold J2D;dsimp only;refine .bind λv hv=>.not (λ_=>.some nofun) λP=>.ltf (λc0=>.ge (λ_=>.some nofun) λc1=>.bind λZ h3=>.lt (λ_=>.some nofun) λc3=>.bind λy4 h4=>.gt (λ_=>.some nofun) λc4=>.bind λS h5=>.ne (λc=>.some λh=>absurd h c) λT=>.bind λJ V=>?_) λ_=>.some nofun;subst P;obtain⟨O,I,F⟩:=id hi;have hx:x.2.1=J0y k.2.2.1.2.1 x.1:=by have q1:=Jm4 h3 hv hi (by omega) (by omega);have q2:=Jm4 h4 hv hi (by omega) (by omega);omega
  have L:0<=x.1/\x.1<k.1:=⟨by omega,by omega⟩;obtain⟨D,C⟩:=JK7 h5 T;have B:=Jca V;refine .ite (λG=>.bind λ_ _=>.bind λy8 A=>.bind λ_ _=>.bind λW h10=>?_) λG=>.some λ_=>⟨O,I,?_⟩
  ·have hlen: ∀z:T_api_Frame,(JI .i64 (J0 (k.2.2.2.1.2.1++[z])) 1).toNat=k.2.2.2.1.2.1.length:=λz=>by
    have o:=J0o (J0 (k.2.2.2.1.2.1++[z])) 1;have q:=JD8 (Jbd hv);have R:=J4 (l:=k.2.2.2.1.2.1);rw[J80,J5y]at*;unfold J0 at*;omega
   have st: ∀a b:T_api_Frame,(k.2.2.2.1.2.1++[a]).set k.2.2.2.1.2.1.length b=k.2.2.2.1.2.1++[b]:=λa b=>by simp
   have N: ∀a:T_api_Frame,(k.2.2.2.1.2.1++[a])[k.2.2.2.1.2.1.length]?=some a:=λa=>by simp
   unfold J0z lat at*;rw[D,hlen,N]at A;injection A with A;subst A;simp only[D,hlen,st,N]at h10⊢;injection h10 with h10;subst h10;refine .while (λz=>z.2.1=k/\z.2.2.1=x/\z.2.2.2.2.1=k.2.2.2.1.2.1++[(x,true,J.1.2.1,true)]/\z.1<=9223372036854775807/\(0<=z.1->z.2.2.2.2.2.2.2.2=(k.2.2.2.2.2.2.2.take z.1.toNat).filter λd=>d.1≠x.1)) ⟨rfl,rfl,rfl,show(0:Int)<=9223372036854775807 by decide,λ_=>rfl⟩ ?_;rintro⟨i,k2,U,k3,fr,u1,u2,u3,out⟩ ⟨rfl,rfl,n,Q,w⟩
   (try dsimp only at n Q w)
   unfold J74;dsimp only;have o:=Jb i 1;have step: ∀{d:T_api_Row},idx k2.2.2.2.2.2.2.2 i=some d->0<=i/\(0<=J1 .i64 i 1->k2.2.2.2.2.2.2.2.take (J1 .i64 i 1).toNat=k2.2.2.2.2.2.2.2.take i.toNat++[d]):=fun{d} hd=>by obtain⟨j,q1⟩:=J0G hd;exact⟨j,λh=>by rw[show(J1 .i64 i 1).toNat=i.toNat+1 by omega,List.take_add_one,q1];rfl⟩
   refine .lt (λc=>.bind λd hd=>.ne (λE=>.bind λY g=>.bind λM H=>.some ⟨rfl,rfl,n,by dsimp only;omega,λh=>?_⟩) λE=>.some ⟨rfl,rfl,n,by dsimp only;omega,λh=>?_⟩) λc=>.some λ_=>⟨O,I,?_⟩
   ·obtain⟨j,q1⟩:=step hd;rw[hd]at g;injection g with g;subst g
    show M=_;rw[J3t H,w j,q1 h,List.filter_append];simp[E]
   ·obtain⟨j,q1⟩:=step hd;show out=_;rw[w j,q1 h,List.filter_append];simp[E]
   ·show Rel k2.2.2.1.2.1 k2.1 fr out k2.2.2.2.2.2.2.1;have R:=J4 (l:=k2.2.2.2.2.2.2.2);rw[n,w (by omega),List.take_of_length_le (by unfold J0 at*;omega)];exact F.add (f:=(U,true,J.1.2.1,true)) C L hx nofun λd=>by simp
  ·show Rel _ _ S.2.2.2 _ _;rw[D];refine F.add (f:=(x,false,0,true)) C L hx (λ_ r hr=>?_) λd=>⟨λh=>⟨h,B.2 G d h⟩,λh=>h.1⟩;exact(F.row x.1 r hr).2 C (B.2 G)
 exact K _ e c
end
end Go.Am
end
section
namespace Go.Am
set_option linter.unusedVariables false
set_option maxRecDepth 20000
set_option maxHeartbeats 1000000
section
variable {k k':J5}
theorem JHI{y:JFl}(e:J3f k=some y)(c:y.2.2.2=0)(hi:JC k):JC y.1/\(y.2.2.1=true-> ∃f∈y.1.2.2.2.1.2.1,f.1=y.2.1):=by
 have w:Par (J3f k) λy=>y.2.2.2=0->JC y.1/\(y.2.2.1=true-> ∃f∈y.1.2.2.2.1.2.1,f.1=y.2.1):=by
  unfold J3f;refine .bind λ_ _=>.not (λ_=>.some nofun) λ_=>.lt (λ_=>.some λ_=>⟨hi,nofun⟩) λ_=>.bind λn h3=>.bind λK h4=>.bind λf hf=>?_;have v0:n.2.2=0:=by
   have H:Par (J39 k.2.2.2.1) λy=>y.2.2=0\/y.1=(0,[],0):=by unfold J39;refine .bind λ_ _=>.not (λ_=>.some (.inr rfl)) λ_=>.eq (λ_=>.some (.inr rfl)) λ_=>.while (λ_=>True) trivial λz _=>?_;unfold J75;exact .bind λx hx=>.ite (λ_=>.bind λy hy=>.bind λq hq=>.bind λ_ _=>.some trivial) λ_=>.map (.bind λ_ _=>.some (.inl rfl))
   rcases H _ h3 with h|h
   ·exact h
   ·rw[h]at hf;simp[idx]at hf
  have B:Rel k.2.2.1.2.1 k.1 n.1.2.1 k.2.2.2.2.2.2.2 k.2.2.2.2.2.2.1:=JE8 h3 hi.2.2 v0;refine .not (λI=>.bind λA C=>.some λ_=>⟨⟨hi.1,hi.2.1,?_⟩,nofun⟩) λ_=>.bind λM r=>.some λ_=>⟨JC.force (k:=(k.1,k.2.1,k.2.2.1,n.1,k.2.2.2.2)) ⟨hi.1,hi.2.1,B⟩ r,λ_=>⟨f,?_,rfl⟩⟩
  ·show Rel _ _ A.1.2.1 _ _;by_cases E:A.2=0
   ·exact JIe C E B
   ·refine absurd ?_ E;have L:Par (J0S (n.1,n.2.1)) λi=>0<=i->JL n.1=some true/\J15 (n.1,n.2.1)=some i:=by unfold J0S;exact .bind λv hv=>.not (λ_=>.some λh=>absurd h (by decide)) λG=>.bind λi hi=>.some λ_=>⟨by rw[<-G];exact hv,hi⟩
    obtain⟨o,_⟩:=J0G hf;obtain⟨v4,D⟩:=L _ h4 o;have J:Par (J3I (n.1,n.2.1)) λy=>y.2=0:=by
     unfold J3I;refine .bind λv hv=>.not (λc=>?_) λ_=>.bind λj hj=>?_
     ·rw[show JL n.1=some v from hv]at v4;injection v4 with v4;subst v4;cases c
     ·have:j=K:=by rw[show J15 (n.1,n.2.1)=some j from hj]at D;injection D
      subst this;refine .lt (λc=>absurd o (by omega)) λ_=>.bind λg F=>.ite (λc=>?_) λ_=>.bind λ_ _=>.bind λ_ _=>.bind λ_ _=>.bind λ_ _=>.lt (λ_=>.ge (λ_=>.some rfl) λ_=>.some rfl) λ_=>.ge (λ_=>.some rfl) λ_=>.some rfl;rw[show idx n.1.2.1 j=some g from F]at hf;injection hf with hf;subst hf
      exact absurd (c.symm.trans I) (by decide)
    exact J _ C
  ·rw[(JmS r).2.2.2];exact J57 hf
 exact w _ e c
theorem JDe{id:Int}{y:JFh}(e:J31 (k,id)=some y)(c:y.2.2=0)(hi:JC k):JC y.1/\ ∃f∈y.1.2.2.2.1.2.1,f.1=y.2.1:=by
 have g:Par (J31 (k,id)) λy=>y.2.2=0->JC y.1/\ ∃f∈y.1.2.2.2.1.2.1,f.1=y.2.1:=by unfold J31;refine .bind λ_ _=>.not (λ_=>.some nofun) λ_=>.bind λj h3=>.not (λ_=>.some nofun) λc3=>.bind λh h4=>.some λ_=>⟨hi.force h4,?_⟩;obtain⟨f,hf,e1,_⟩:=(JaS h3).1 c3;exact⟨f,by rw[(JmS h4).2.2.2];exact hf,e1⟩
 exact g _ e c
theorem JDp{id j:Int}{y:J1E}(e:J2i (k,id,j)=some y)(c:y.2=0)(hi:JC k)(hf: ∃f∈k.2.2.2.1.2.1,f.1.1=id/\f.1.2.1=j):JC y.1:=by
 have B:Par (J2i (k,id,j)) λy=>y.2=0->JC y.1:=by
  obtain⟨f,hf,e1,e2⟩:=hf;have hot:=(hi.2.2.hot f hf).1;rw[e1,e2]at hot;have I: ∀{g:J6Z},J0Q (k,0,7,0,0,0,j,(id,0,(false,[]),false,[]),[])=some g->g.2.2=0->JC g.1/\g.1.2.2.2.1=k.2.2.2.1/\g.1.1=k.1/\ ∀r,idx g.1.2.2.2.2.2.2.1 id=some r->r.1=J0y g.1.2.2.1.2.1 id:=by intro g w x;have q:=Jsy w x hi (λh=>absurd h (by show¬((7:Int)=1\/(7:Int)=2);decide)) (λ_=>Int.le_of_eq hot) (λh=>absurd h (by show¬(7:Int)=6;decide));refine⟨q.inv hi (by show¬((7:Int)=1\/(7:Int)=2);decide) (λ_=>Int.le_of_eq hot),?_⟩;obtain⟨hv,e',a1,a2,a3,a4,G,M,S,D,Q,a9,P,A⟩:=q;refine⟨D,G,λr hr=>?_⟩;obtain⟨r0,b1,b2⟩:=(A rfl).2 r hr;have E:=(hi.2.2.row id r0 b1).1;have o:=J5P r0.1 j;have b2:r.1=J1o r0.1 j:=b2;rw[M];show r.1=J0y (k.2.2.1.2.1++[e']) id;rw[J6k (by rw[a1];show¬(((7:Int)=1\/(7:Int)=2)/\_);omega)];omega
  unfold J2i;dsimp only;refine .bind λv hv=>.not (λ_=>.some nofun) λF=>.ltf (λ_=>.gef (λ_=>.ltf (λ_=>.bind λ_ _=>.gt (λ_=>.some nofun) λ_=>.bind λT h4=>.ge (λO=>.bind λH h5=>.ne (λc=>.some λh=>absurd h c) λL=>.bind λg w=>.ne (λc=>.some λh=>absurd h c) λx=>.some λ_=>?_) λO=>?_) λ_=>.some nofun) λ_=>.some nofun) λ_=>.some nofun
  ·obtain⟨g1,g2,U,J⟩:=I w x;obtain⟨i,N,b1,b2,E,o⟩:=JGa h5 L;refine⟨g1.1,g1.2.1,?_⟩;show Rel g.1.2.2.1.2.1 g.1.1 H.1.2.1 g.1.2.2.2.2.2.2.2 g.1.2.2.2.2.2.2.1;have n:=g1.2.2;rw[g2]at n;rcases o with o|⟨f',z,R,C⟩
   ·rw[o];exact n
   ·rw[C];have K:=n.hot N (J57 b1);refine n.upd b1 (by rw[z]) (λ_ _=>rfl) (λ_ _=>rfl) (by rw[z];exact K.1) (λ_ r hr=>?_) λr hr=>(n.row _ r hr).1;rw[b2]at hr⊢;exact J r hr
  ·refine absurd e1 ((Jku h4).2 (by omega) (Jbd ?_) f hf);rw[<-F];exact hv
 exact B _ e c
theorem JBW{y:J6Z}(e:J4K k=some y)(c:y.2.2=0)(hi:JC k):JC y.1:=by
 have g:Par (J4K k) λy=>y.2.2=0->JC y.1:=by unfold J4K;exact .bind λ_ _=>.not (λ_=>.some nofun) λ_=>.gt (λ_=>.some nofun) λ_=>.bind λ_ _=>.ne (λc=>.some λh=>absurd h c) λ_=>.some λ_=>hi
 exact g _ e c
theorem JEp{j:Int}{a:J2a}{y:J3V}(e:J2B (k,j,a)=some y)(hi:JC k):JC y.1:=by
 have h:Par (J2B (k,j,a)) λy=>JC y.1:=by unfold J2B;dsimp only;refine .bind λv h2=>.not (λ_=>.some hi) λn=>.eq (λ_=>.bind λr h3=>.bind λ_ _=>.bind λ_ _=>.some ⟨hi.1,hi.2.1,JJy h3 hi.2.2⟩) λ_=>.bind λ_ _=>.bind λq _=>?_;obtain⟨f,hf,_,e2⟩:=(JaS h2).1 n;exact .eq (λ_=>.bind λo g=>.ne (λ_=>.bind λ_ _=>.some hi) λ_=>.some (JB4 g hi (.inl rfl) ⟨f,hf,e2⟩)) λ_=>.bind λo g=>.ne (λ_=>.bind λ_ _=>.some hi) λ_=>.some (JB4 g hi (.inl rfl) ⟨f,hf,e2⟩)
 exact h _ e
theorem JkU{t m:Int}{y:J6Z}(e:J0Q (k,0,m,t,0,0,0,(0,0,(false,[]),false,[]),[])=some y)(c:y.2.2=0)(hi:JC k)(hm:m=3\/m=4\/m=5):JC y.1:=by have q:=Jsy e c hi (λh=>by(try dsimp only at h);omega) (λh=>by(try dsimp only at h);omega) (λh=>by(try dsimp only at h);omega);exact q.inv hi (λh=>by(try dsimp only at h);omega) (λh=>by(try dsimp only at h);omega)
theorem JEV{h:Int}{y:J3V}(e:J2F (k,h)=some y)(hi:JC k):JC y.1:=by
 have g:Par (J2F (k,h)) λy=>JC y.1:=by unfold J2F;exact .bind λ_ _=>.bind λ_ _=>.eq (λ_=>.bind λ_ _=>.bind λ_ _=>.some hi) λ_=>.bind λr j=>.ne (λ_=>.bind λ_ _=>.some hi) λo=>.bind λq n=>.bind λ_ _=>.some (show JC q from(JkU j o hi (.inl rfl)).force n)
 exact g _ e
theorem Jz9{h st:Int}{y:J3V}(e:J2w (k,h,st)=some y)(hi:JC k):JC y.1:=by
 have g:Par (J2w (k,h,st)) λy=>JC y.1:=by unfold J2w;refine .bind λ_ _=>.bind λ_ _=>.bind λ_ _=>.eq (λ_=>.bind λ_ _=>.bind λ_ _=>.some hi) λ_=>.bind λo n=>.ne (λ_=>.bind λ_ _=>.some hi) λj=>.while (λz=>JC z.2.2.2.2.2.2.2) (JkU (k:=(k.1,k.2.1,k.2.2.1,k.2.2.2.1,_,k.2.2.2.2.2)) n j hi (.inr (.inl rfl))) λz hz=>?_;unfold J7O;exact .lt (λ_=>.bind λ_ _=>.eq (λ_=>.bind λ_ _=>.bind λ_ _=>.not (λ_=>.bind λ_ _=>.bind λ_ _=>.some hz) λ_=>.some hz) λ_=>.some hz) λ_=>.some hz
 exact g _ e
theorem JIr{v:Int}{a:J2a}{y:J3V}(e:J4g (k,v,a)=some y)(hi:JC k):JC y.1:=by
 have r:Par (J4g (k,v,a)) λy=>JC y.1:=by unfold J4g;have g: ∀{o:Option (J2z)},Par (o.bind λj=>if neI j.2 0 then(Jr j.2).bind λw=>some (k,w)else some ((k.1,k.2.1,k.2.2.1,k.2.2.2.1,k.2.2.2.2.1,j.1,k.2.2.2.2.2.2),1,0,0,(false,[]),0)) λy=>JC y.1:=.bind λ_ _=>.ne (λ_=>.bind λ_ _=>.some hi) λ_=>.some hi;refine .bind λ_ _=>.ne (λ_=>.bind λ_ _=>.some hi) λ_=>.eq (λ_=>.bind λB h4=>.some (JEV h4 hi)) λ_=>.eq (λ_=>.bind λA h5=>.some (Jz9 h5 hi)) λ_=>.eq (λ_=>.bind λ_ _=>.eq (λ_=>g) λ_=>.ne (λ_=>.bind λ_ _=>.some hi) λ_=>.some hi) λ_=>.eq (λ_=>.bind λ_ _=>.eq (λ_=>g) λ_=>.ne (λ_=>.bind λ_ _=>.some hi) λ_=>.some hi) λ_=>.bind λ_ _=>.bind λh _=>.ne (λ_=>.bind λ_ _=>.some hi) λ_=>.ite (λ_=>.bind λx q=>.eq (λ_=>.some hi) λ_=>.some (JEp (k:=(k.1,k.2.1,k.2.2.1,k.2.2.2.1,h.1,k.2.2.2.2.2)) q hi)) λ_=>.bind λ_ _=>.gt (λ_=>.bind λz n=>.eq (λ_=>.some hi) λ_=>.some (Jz9 (k:=(k.1,k.2.1,k.2.2.1,k.2.2.2.1,h.1,k.2.2.2.2.2)) n hi)) λ_=>.bind λ_ _=>.some hi
 exact r _ e
theorem JCt{x:Jo}{e:J2}{y:J3V}(h:J0U (k,x,e)=some y)(hi:JC k):JC y.1:=by
 have j:Par (J0U (k,x,e)) λy=>JC y.1:=by
  unfold J0U;dsimp only;refine .bind λw h2=>.not (λ_=>.some hi) λo=>.bind λn h3=>.bind λ_ _=>.ne (λ_=>.bind λ_ _=>.some hi) λ_=>.bind λv q=>.ne (λ_=>.bind λ_ _=>.some hi) λ_=>?_;obtain⟨f,hf,_,e2⟩:=(JaS h2).1 o;have r:n.1=e.2.2.2.2.2.2.1.1:=by unfold J65 at h3;injection h3 with h3;subst h3;rfl
  have g:=JB4 q hi (.inr rfl) ⟨f,hf,e2.trans r.symm⟩;exact .eq (λ_=>.bind λ_ _=>.not (λ_=>.bind λ_ _=>.some g) λ_=>.some g) λ_=>.some g
 exact j _ h
end
section
variable {k k':J5}
theorem JFr{g:Int}{c:JK}{y:J3V}(h:J1V (k,g,c)=some y)(hi:JC k):JC y.1:=by
 have e:Par (J1V (k,g,c)) λy=>JC y.1:=by unfold J1V;exact .bind λ_ _=>.ne (λ_=>.bind λ_ _=>.some hi) λ_=>.ne (λ_=>.bind λ_ _=>.some hi) λ_=>.bind λ_ _=>.not (λ_=>.some hi) λ_=>.bind λn j=>.some (JCt j hi)
 exact e _ h
theorem Jtq{j:Int}{y:J3V}(h:J0L (k,j)=some y)(hi:JC k):JC y.1:=by
 have n:Par (J0L (k,j)) λy=>JC y.1:=by unfold J0L;have q: ∀x:Jo,Par ((J2T (k,j)).bind λe=>if Js e.2 then(Jr 14).bind λo=>some (k,o)else(J0U (k,x,e.1)).bind λg=>some (g.1,g.2)) λy=>JC y.1:=λx=>.bind λ_ _=>.not (λ_=>.bind λ_ _=>.some hi) λ_=>.bind λz r=>.some (JCt r hi);exact .bind λ_ _=>.ne (λ_=>.bind λ_ _=>.some hi) λ_=>.eq (λ_=>.eq (λ_=>.bind λv h4=>.ne (λ_=>.bind λ_ _=>.some hi) λw=>.bind λ_ _=>.some (show JC v.1 from JkU h4 w hi (.inr (.inr rfl)))) λ_=>q _) λ_=>q _
 exact n _ h
end
section
variable {k k':J5}
def Fl(r:J0f):Prop:=r.1=5->r.2.2.2.2≠0
theorem JBh{r:J0f}(h:r.1≠5):Fl r:=λe=>absurd e h
theorem Ji6{n:Int}{r:J0f}(h:Jr n=some r)(hn: ¬n=0):Fl r:=by unfold Jr at h;injection h with h;subst h;exact λ_=>hn
theorem JIl{x:Jo}{e:J2}{y:J3V}(h:J0U (k,x,e)=some y):Fl y.2:=by
 have g:Par (J0U (k,x,e)) λy=>Fl y.2:=by unfold J0U;have d:Fl (1,x.1,0,(false,[]),0):=JBh (show(1:Int)≠5 by decide);exact .bind λr h2=>.not (λ_=>.some (JBh (show(3:Int)≠5 by decide))) λj=>.bind λq h3=>.bind λ_ _=>.ne (λc=>.bind λ_ h=>.some (Ji6 h c)) λ_=>.bind λn o=>.ne (λc=>.bind λ_ h=>.some (Ji6 h c)) λ_=>.eq (λ_=>.bind λ_ _=>.not (λ_=>.bind λ_ _=>.some d) λ_=>.some d) λ_=>.some d
 exact g _ h
theorem JuN{j:Int}{y:J3V}(h:J0L (k,j)=some y):Fl y.2:=by
 have n:Par (J0L (k,j)) λy=>Fl y.2:=by unfold J0L;have q: ∀x:Jo,Par ((J2T (k,j)).bind λe=>if Js e.2 then(Jr 14).bind λo=>some (k,o)else(J0U (k,x,e.1)).bind λg=>some (g.1,g.2)) λy=>Fl y.2:=λx=>.bind λ_ _=>.not (λ_=>.bind λ_ h=>.some (Ji6 h (by decide))) λ_=>.bind λv r=>.some (JIl r);exact .bind λ_ _=>.ne (λc=>.bind λ_ h=>.some (Ji6 h c)) λ_=>.eq (λ_=>.eq (λ_=>.bind λw h4=>.ne (λc=>.bind λ_ h=>.some (Ji6 h c)) λz=>.bind λ_ _=>.some (JBh (show(1:Int)≠5 by decide))) λ_=>q _) λ_=>q _
 exact n _ h
end
end Go.Am
end
section
namespace Go.Am
set_option linter.unusedVariables false
set_option maxRecDepth 20000
set_option maxHeartbeats 1000000
section
variable {s:Jt}
theorem JyG{k:J5}{x:JS}{y:J2M}(e:J2t (s,k,x)=some y)(c:y.2=0)(hi:JC k)(hf: ∃f∈k.2.2.2.1.2.1,f.1=x):JC y.1.1:=by
 have g:Par (J2t (s,k,x)) λy=>y.2=0->JC y.1.1:=by unfold J2t;refine .bind λ_ _=>.bind λ_ _=>.ne (λc=>.some λh=>absurd h c) λ_=>.bind λn h4=>.ne (λc=>.some λh=>absurd h c) λj=>.some λ_=>JDp h4 j hi ?_;obtain⟨f,hf,e1⟩:=hf;exact⟨f,hf,by rw[e1],by rw[e1]⟩
 exact g _ e c
theorem JDi{id:Int}{y:J2M}(e:J4B (s,id)=some y)(c:y.2=0)(hi:JC s.1):JC y.1.1:=by
 have g:Par (J4B (s,id)) λy=>y.2=0->JC y.1.1:=by unfold J4B;refine .bind λn h2=>.ne (λc=>.some λh=>absurd h c) λj=>.bind λ_ _=>.bind λ_ _=>.not (λ_=>.some λ_=>hi) λ_=>.bind λo h5=>.some λk=>?_;obtain⟨g1,g2⟩:=JDe h2 j hi;exact JyG h5 k g1 g2
 exact g _ e c
theorem JHW{y:J2M}(e:J3g s=some y)(c:y.2=0)(hi:JC s.1):JC y.1.1:=by
 have g:Par (J3g s) λy=>y.2=0->JC y.1.1:=by unfold J3g;refine .while (λz=>JC z.1.1) hi λz hz=>?_;unfold J8y;refine .bind λk h3=>.ne (λc=>.some λh=>absurd h c) λc3=>?_;obtain⟨g1,g2⟩:=JHI h3 c3 hz;exact .not (λ_=>.some λ_=>g1) λc=>.bind λn h4=>.ne (λc=>.some λh=>absurd h c) λj=>.some (JyG h4 j g1 (g2 c))
 exact g _ e c
theorem JeY{id:Int}{y:J2M}(e:J1y (s,id)=some y)(c:y.2=0)(hi:JC s.1):JC y.1.1:=by
 have g:Par (J1y (s,id)) λy=>y.2=0->JC y.1.1:=by unfold J1y;exact .bind λ_ _=>.not (λ_=>.some nofun) λ_=>.ltf (λ_=>.ge (λ_=>.some nofun) λ_=>.bind λ_ _=>.ge (λ_=>.some λ_=>hi) λ_=>.bind λo h4=>.ne (λc=>.some λh=>absurd h c) λn=>.bind λ_ _=>.ne (λc=>.some λh=>absurd h c) λ_=>.bind λ_ _=>.bind λ_ _=>.ne (λc=>.some λh=>absurd h c) λ_=>.bind λ_ _=>.ne (λc=>.some λh=>absurd h c) λ_=>.bind λq k=>.ne (λc=>.some λh=>absurd h c) λj=>.some λ_=>JDT k j (JHW h4 n hi)) λ_=>.some nofun
 exact g _ e c
theorem JAU{j:Int}{y:J2M}(e:J1C (s,j)=some y)(c:y.2=0)(hi:JC s.1):JC y.1.1:=by
 have g:Par (J1C (s,j)) λy=>y.2=0->JC y.1.1:=by unfold J1C;refine .bind λ_ _=>.not (λ_=>.some nofun) λ_=>.bind λ_ _=>.lt (λ_=>.some nofun) λ_=>.while (λz=>JC z.2.1.1) hi λz hz=>?_;unfold J8h;exact .bind λ_ _=>.ite (λ_=>.bind λq k=>.eq (λc=>.some λh=>absurd h (JuN (by assumption) c)) λ_=>.eq (λ_=>.bind λr o=>.ne (λc=>.some λh=>absurd h c) λn=>.some (JeY o n hz)) λ_=>.some (Jtq k hz)) λ_=>.some λ_=>hz
 exact g _ e c
theorem JJh{q:Int}{a:J2a}{y:TQ79}(e:J6O (s,q,a)=some y)(hi:JC s.1):JC y.1.1:=by
 have n:Par (J6O (s,q,a)) λy=>JC y.1.1:=by
  unfold J6O;refine .while (λz=>JC z.2.1.1) hi λz hz=>?_;unfold Jcp;refine .bind λj h3=>?_;have g:=JIr h3 hz;have rb: ∀{Q:(TQ25)⊕(TQ79)->Prop},(∀y,JC y.1.1->Q (.inr y))->Par ((J2O ((j.1,z.2.1.2),z.1)).bind λw=>if w then(J1C ((j.1,z.2.1.2),z.1)).bind λk=>if neI k.2 0 then(Jr k.2).bind λo=>some (.inr ((j.1,z.2.1.2),o))else some (.inr (k.1,j.2))else some (.inr ((j.1,z.2.1.2),j.2))) Q:=
   λh=>.bind λ_ _=>.ite (λ_=>.bind λA v=>.ne (λ_=>.bind λ_ _=>.some (h _ g)) λr=>.some (h _ (JAU (s:=(j.1,z.2.1.2)) v r g))) λ_=>.some (h _ g)
  exact .eq (λ_=>.bind λB h4=>.ne (λ_=>.bind λ_ _=>.some g) λx=>.some (JeY (s:=(j.1,z.2.1.2)) h4 x g)) λ_=>.eqf (λ_=>.eq (λ_=>.eqf (λ_=>.eq (λ_=>rb λ_ h=>h) λ_=>.some g) λ_=>rb λ_ h=>h) λ_=>.some g) λ_=>rb λ_ h=>h
 exact n _ e
theorem Jpf{y:Jew}(e:J4w s=some y)(c:y.2.2=0)(hi:JC s.1):JC y.1.1:=by
 have g:Par (J4w s) λy=>y.2.2=0->JC y.1.1:=by unfold J4w;exact .bind λk h2=>.ne (λc=>.some λh=>absurd h c) λj=>.some λ_=>JBW h2 j hi
 exact g _ e c
theorem JjE{h:Int}{l:JK}{y:Jew}(e:J5E (s,h,l)=some y)(hi:JC s.1):JC y.1.1:=by
 have g:Par (J5E (s,h,l)) λy=>JC y.1.1:=by unfold J5E;refine .while (λz=>JC z.2.2.1.1) hi λz hz=>?_;unfold JaV;exact .bind λn h3=>.eq (λ_=>.some hz) λ_=>.eq (λ_=>.bind λk h4=>.ne (λ_=>.some hz) λj=>.some (JeY h4 j hz)) λ_=>.eq (λ_=>.some hz) λ_=>.some (JFr h3 hz)
 exact g _ e
theorem JuD{j:Int}{a:J2a}{y:TQ79}(e:J79 (s,j,a)=some y)(hi:JC s.1):JC y.1.1:=by
 have h:Par (J79 (s,j,a)) λy=>JC y.1.1:=by unfold J79;refine .while (λz=>JC z.2.1.1) hi λz hz=>?_;unfold Jcu;refine .bind λk h3=>?_;have g:=JJh h3 hz;exact .ne (λ_=>.some g) λ_=>.bind λ_ _=>.not (λ_=>.some g) λ_=>.bind λn h5=>.ne (λ_=>.bind λ_ _=>.some (JjE h5 g)) λ_=>.eq (λ_=>.some (JjE h5 g)) λ_=>.some (JjE h5 g)
 exact h _ e
theorem JIx{y:JDA}(e:J5A s=some y)(c:y.2.2=0)(hi:JC s.1):JC y.1.1:=by
 have g:Par (J5A s) λy=>y.2.2=0->JC y.1.1:=by unfold J5A;refine .bind λ_ _=>.not (λ_=>.some nofun) λ_=>.gt (λ_=>.bind λ_ _=>.bind λq h4=>.some λo=>JeY h4 o hi) λ_=>.bind λ_ _=>.eq (λ_=>.some λ_=>hi) λ_=>.while (λz=>JC z.2.1.1) hi λz hz=>?_;unfold JaA;exact .bind λ_ _=>.bind λv n=>.eq (λc=>.some λh=>absurd h (JuN (by assumption) c)) λ_=>.ne (λ_=>.some λ_=>Jtq n hz) λ_=>.bind λr k=>.ne (λc=>.some λh=>absurd h c) λj=>.some (JeY k j hz)
 exact g _ e c
end
end Go.Am
end
section
namespace Go.Am
set_option linter.unusedVariables false
set_option maxRecDepth 20000
set_option maxHeartbeats 1000000
section
theorem Jnh{n:Int}(h1:0<=n)(h2:n<18446744073709551616):IntKind.u64.wrap n=n:=by simp[IntKind.wrap,IntKind.bits,IntKind.signed];omega
theorem JIs{n:Int}(h1: -9223372036854775808<=n)(h2:n<=9223372036854775807):IntKind.i64.wrap n=n:=by simp[IntKind.wrap,IntKind.bits,IntKind.signed];omega
theorem JJX{l:List UInt8}{k:Nat}(h:k<l.length):Jex l (k:Int)=some ((l[k]).toNat:Int):=by simp[Jex,h]
theorem JIM{x b j:Nat}(hj:j<=7)(hx:x<2^(8*j))(hb:b<256):
  orI .u64 (x:Int) (IntKind.wrap .u64 (((b:Nat):Int)*2^(8*j)))=((x+b*2^(8*j):Nat):Int):=by
 have g:(2:Nat)^(8*j)*256<=2^64:=by rw[show(256:Nat)=2^8 by rfl,<-Nat.pow_add];exact Joz (by omega) (by omega)
 have h:b*2^(8*j)+2^(8*j)<=2^64:=by have:(b+1)*2^(8*j)<=256*2^(8*j):=zQ4 _ (by omega);rw[zQ8,Nat.one_mul]at this;omega
 have w:IntKind.wrap .u64 (((b:Nat):Int)*2^(8*j))=((b*2^(8*j):Nat):Int):=by
  have e:(((b:Nat):Int)*2^(8*j))=((b*2^(8*j):Nat):Int):=by simp
  rw[e,Jnh (by omega) (by omega)]
 rw[w];have e1: ∀y:Nat,y<2^64->(BitVec.ofInt 64 (y:Int)).toNat=y:=by intro y hy;rw[BitVec.toNat_ofInt];omega
 show IntKind.wrap .u64 (((BitVec.ofInt 64 (x:Int)|||BitVec.ofInt 64 ((b*2^(8*j):Nat):Int)).toNat:Nat):Int)=_;rw[BitVec.toNat_or,e1 x (by omega),e1 _ (by omega)];have e2:x|||b*2^(8*j)=x+b*2^(8*j):=by rw[Nat.or_comm,Nat.mul_comm b,<-Nat.two_pow_add_eq_or_of_lt hx,Nat.add_comm]
 rw[e2,Jnh (by omega) (by omega)]
theorem JzD{n i:Nat}(hn:n<2^64):J8Y (n:Int) i=((n/2^(8*i)%256:Nat):Int):=by show((IntKind.wrap .u64 (n:Int)).fdiv (2^(8*i)))%256=_;rw[Int.fdiv_eq_ediv_of_nonneg _ (Int.le_of_lt (Int.pow_pos (by decide))),Jnh (by omega) (by omega)];simp
theorem JE2{n:Int}{k i:Nat}(h:i<k):(J0W n k)[i]?=some (UInt8.ofNat (J8Y n i).toNat):=by simp[J0W,toStr,h]
theorem J3c{s r:List UInt8}{n:Int}{k:Nat}(h1:1<=k)(C:k<=8)(h:JN (s,n,(k:Int))=some r):r=s++J0W n k:=by
 have g:Par (JN (s,n,(k:Int))) λr=>r=s++J0W n k:=by
  unfold JN;refine .ltf (λ_=>.gt (λc=>by(try dsimp only at c);omega) λ_=>?_) λc=>by(try dsimp only at c);omega
  refine .while (λz=>z.2.1=n/\z.2.2.1=(k:Int)/\ ∃j:Nat,z.2.2.2=(j:Int)/\j<=k/\z.1=s++J0W n j) ⟨rfl,rfl,0,rfl,zQ2 _,by simp[J0W,toStr]⟩ ?_;rintro⟨o,q,k',y⟩ ⟨rfl,rfl,j,rfl,hj,e⟩
  (try dsimp only at e)
  subst e;unfold Jbn;dsimp only;have B:=Jb (j:Int) 1;have A:=JkQ 8 (j:Int);refine .lt (λc=>.bind λv h3=>.bind λD h4=>.some ⟨rfl,rfl,j+1,by dsimp only;omega,by omega,?_⟩) λc=>.some (by rw[show j=k by omega]);have x:cvI .u8 v=J8Y q j:=by
   have w:cvI .u64 (J2r .i64 8 (j:Int))=((8*j:Nat):Int):=by unfold cvI;rw[Jnh (by omega) (by omega)];omega
   rw[w]at h3;simp only[JfI]at h3;rw[if_neg (by omega)]at h3;injection h3 with h3;rw[<-h3];have:min (((8*j:Nat):Int)).toNat IntKind.u64.bits=8*j:=by simp only[Int.toNat_natCast];exact Nat.min_eq_left (by show 8*j<=64;omega)
   rw[this];rfl
  rw[x]at h4;dsimp only;unfold J5s at h4;split at h4
  ·injection h4 with h4;rw[<-h4,JD4,J8H];rfl
  ·cases h4
 exact g _ h
def At(s w:List UInt8)(p:Int):Prop:= ∃pre e,s=pre++(w++e)/\(pre.length:Int)=p
theorem At.left{s a b:List UInt8}{p:Int}(h:At s (a++b) p):At s a p:=by obtain⟨pre,g,e,h⟩:=h;exact⟨pre,b++g,by rw[e];simp,h⟩
theorem At.right{s a b:List UInt8}{p:Int}(h:At s (a++b) p):At s b (p+a.length):=by obtain⟨pre,g,e,h⟩:=h;exact⟨pre++a,g,by rw[e];simp,by rw[J4G];omega⟩
theorem At.bnd{s w:List UInt8}{p:Int}(h:At s w p):0<=p/\p+w.length<=s.length:=by obtain⟨pre,g,e,h⟩:=h;subst e;simp only[J4G];omega
theorem At.slc{s w r:List UInt8}{p q:Int}(h:At s w p)(hq:q=p+w.length)(e:J0D s (some p) (some q)=some r):r=w:=by
 obtain⟨pre,g,rfl,rfl⟩:=h;obtain⟨r',e',d,_⟩:=Jhs (l:=pre++(w++g)) (j:=pre.length) (k:=q) (by omega) (by omega) (by unfold J0;simp only[J4G];omega);rw[e']at e;injection e with e;subst e
 rw[d,show(q-(pre.length:Int)).toNat=w.length by omega];simp
theorem At.all{s:List UInt8}:At s s 0:=⟨[],[],by simp,rfl⟩
theorem JiB{s:List UInt8}{p:Int}{n k:Nat}(h:At s (J0W n k) p)(h1:1<=k)(I:k<=8)(hn:n<2^(8*k))(D:n<2^63)(hl:s.length<=4611686018427387904):
  J08 (s,p,(k:Int))=some ((n:Int),0):=by
 have hb:=h.bnd;rw[JR]at hb;obtain⟨pre,B,hs,rfl⟩:=h;have r:Tot (J08 (s,(pre.length:Int),(k:Int))) λy=>y=((n:Int),0):=by
  unfold J08;have o:=J0o (J0 s) (pre.length:Int);have E:J0 s=(s.length:Int):=rfl;refine .ltf (λ_=>.gtf (λ_=>.lt (λc=>by(try dsimp only at c);omega) λ_=>.gtf (λ_=>.lt (λc=>by(try dsimp only at c);omega) λ_=>?_) λc=>by(try dsimp only at c);omega) λc=>by(try dsimp only at c);omega) λc=>by(try dsimp only at c);omega
  refine Jf (τ:=Nat) (λj=>(s,(pre.length:Int),(k:Int),((n%2^(8*j):Nat):Int),(j:Int))) (λj=>j<=k) (λj=>(k:Int)-j) ?_ 0 (by simp[Nat.mod_one]) (zQ2 _);intro j hj;unfold J96;dsimp only;have G:=Jb (j:Int) 1;have F:=JkQ 8 (j:Int);have H:=Jb (pre.length:Int) (j:Int);refine .lt (λc=>?_) λc=>.some ?_
  ·have e2:J1 .i64 (pre.length:Int) (j:Int)=((pre.length+j:Nat):Int):=by omega
   have g:pre.length+j<s.length:=by omega
   have hb:(s[pre.length+j]'g).toNat=n/2^(8*j)%256:=by
    have h5:s[pre.length+j]?=some (UInt8.ofNat (J8Y (n:Int) j).toNat):=by rw[hs,Jd3 (by omega),Nat.add_sub_cancel_left,Jkf (by rw[JR];omega),JE2 (by omega)]
    rw[zQ9 g]at h5;injection h5 with h5;have A:=JBo (n:Int) j;rw[<-h5,JzD (by omega)]at A;omega
   have v:n/2^(8*j)%256<256:=Nat.mod_lt _ (by omega);have z:cvI .u64 (J2r .i64 8 (j:Int))=((8*j:Nat):Int):=by unfold cvI;rw[Jnh (by omega) (by omega)];omega
   have C:Jgf .u64 (cvI .u64 (((s[pre.length+j]'g).toNat:Nat):Int)) ((8*j:Nat):Int)=some (IntKind.wrap .u64 (((n/2^(8*j)%256:Nat):Int)*2^(8*j))):=by
    unfold cvI;rw[hb,Jnh (by omega) (by omega)];simp only[Jgf];rw[if_neg (by omega)];have:min (((8*j:Nat):Int)).toNat IntKind.u64.bits=8*j:=by simp only[Int.toNat_natCast];exact Nat.min_eq_left (by show 8*j<=64;omega)
    rw[this]
   have q:=JIM (x:=n%2^(8*j)) (b:=n/2^(8*j)%256) (j:=j) (by omega) (Nat.mod_lt _ (Nat.two_pow_pos _)) v;have w:n%2^(8*j)+n/2^(8*j)%256*2^(8*j)=n%2^(8*(j+1)):=by rw[Nat.mul_add,Nat.pow_add,Nat.mod_mul,Nat.mul_comm (n/2^(8*j)%256)]
   rw[w]at q;rw[e2,JJX g,J06,z,C,J06,q];exact .some ⟨j+1,by rw[show J1 .i64 (j:Int) 1=((j+1:Nat):Int) by omega],by omega,by omega,by omega⟩
  ·rw[show j=k by omega,Nat.mod_eq_of_lt hn];unfold cvI;rw[JIs (by omega) (by omega)]
 obtain⟨y,e,d⟩:=r;rw[e,d]
end
end Go.Am
end
section
namespace Go.Am
set_option linter.unusedVariables false
set_option maxRecDepth 20000
set_option maxHeartbeats 1000000
section
def J7E(c:J1k):Prop:=J0 c.2<=12/\(c.1=false->c.2=[])
def EV(e:J2):Prop:=(1<=e.1/\e.1<=1099511627776)/\(0<=e.2.2.2.1/\e.2.2.2.1<e.1)/\(0<=e.2.2.2.2.1/\e.2.2.2.2.1<e.1)/\(0<=e.2.2.2.2.2.1/\e.2.2.2.2.2.1<e.1)/\(1<=e.2.1/\e.2.1<=8)/\(0<=e.2.2.1/\e.2.2.1<=1073741824)/\(0<=pgE e/\pgE e<64)/\(0<=e.2.2.2.2.2.2.1.2.1/\e.2.2.2.2.2.2.1.2.1<16)/\J7E e.2.2.2.2.2.2.1.2.2.1/\J7E e.2.2.2.2.2.2.1.2.2.2/\J0 e.2.2.2.2.2.2.2<=8192
theorem Jwi{c:J1k}(h:J0l c=some true):J7E c:=by
 have e:Par (J0l c) λy=>y=true->J7E c:=by
  unfold J0l;refine .ite (λj=>.itf (λg=>.some ?_) λg=>.some ?_) λj=>.some ?_
  all_goals grind [J7E,eqS,leI,J0]
 exact e _ h rfl
theorem EV.of{e:J2}(h:Jx e=some true):EV e:=by
 obtain⟨q1,q2,q3,B,A,x,⟨q,r,o,k⟩,g⟩:=e;have c3: ∀{c:T_api_Change} {b:Bool},J1e c=some b->b=true->(0<=c.1/\c.1<64)/\(0<=c.2.1/\c.2.1<16)/\J7E c.2.2.1/\J7E c.2.2.2:=fun{c b} hb F=>by
  have w:Par (J1e c) λy=>y=true->(0<=c.1/\c.1<64)/\(0<=c.2.1/\c.2.1<16)/\J7E c.2.2.1/\J7E c.2.2.2:=by unfold J1e;refine .ge (λE=>.lt (λG=>.ge (λc3=>.lt (λI=>.bind λa ha=>.ite (λD=>.bind λb hb=>.some λC=>?_) λ_=>.some nofun) λ_=>.some nofun) λ_=>.some nofun) λ_=>.some nofun) λ_=>.some nofun;subst D;subst C;exact⟨⟨E,G⟩,⟨c3,I⟩,Jwi ha,Jwi hb⟩
  exact w _ hb F
 have z:J7E (false,[]):=⟨show(0:Int)<=12 by decide,λ_=>rfl⟩;have k1:Par (J27 (q1,q2,q3,B,A,x,(q,r,o,k),g)) λy=>y.2=true->y.1=(q1,q2,q3,B,A,x,(q,r,o,k),g)->(1<=q2/\q2<=8)/\(0<=q3/\q3<=1073741824)/\(0<=q/\q<64)/\(0<=r/\r<16)/\J7E o/\J7E k/\J0 g<=8192:=by
  unfold J27;dsimp only
  repeat' first
   |refine .eq (λ_=>?_) λ_=>?_
   |refine .ge (λ_=>?_) λ_=>?_
   |refine .le (λ_=>?_) λ_=>?_
   |refine .gt (λ_=>?_) λ_=>?_
   |exact .some λh=>absurd h Bool.false_ne_true
   |refine .bind λv hv=>.ite (λj=>?_) λ_=>.some nofun
   |refine .bind λv hv=>.eq (λ_=>.ite (λj=>?_) λ_=>.some nofun) λ_=>.ite (λj=>?_) λ_=>.some nofun
  all_goals refine .some λc he=>?_
  all_goals simp only[Prod.mk.injEq,true_and,and_true]at he
  all_goals simp only[J1O,J4v,J8i]at c
  all_goals first
   |exact⟨by omega,by omega,(c3 hv j).1,(c3 hv j).2.1,(c3 hv j).2.2.1,(c3 hv j).2.2.2,by rw[<-he];exact(by decide:(0:Int)<=8192)⟩
   |exact⟨by omega,by omega,(c3 hv j).1,(c3 hv j).2.1,(c3 hv j).2.2.1,(c3 hv j).2.2.2,by rw[<-he.2];exact(by decide:(0:Int)<=8192)⟩
   |(have P:o=(false,[]):=by grind
     have K:k=(false,[]):=by grind
     have J:J0 g<=8192:=by
      first
       |exact c
       |(have:g=[]:=by grind
         rw[this];exact(by decide:(0:Int)<=8192))
     rw[P,K];exact⟨by omega,by omega,by omega,by omega,z,z,J⟩)
 have H: ∀{n l:Int} {b:Bool},J1N (n,l)=some b->b=true->0<=n/\n<l:=fun{n l b} hb F=>Jdw (by rw[<-F];exact hb);have w:Par (Jx (q1,q2,q3,B,A,x,(q,r,o,k),g)) λy=>y=true->EV (q1,q2,q3,B,A,x,(q,r,o,k),g):=by unfold Jx;exact .bind λa ha=>.ite (λE=>.ite (λG=>.ge (λc3=>.le (λI=>.bind λb1 M=>.ite (λD=>.bind λb2 L=>.ite (λC=>.bind λQ N=>.some λO=>⟨⟨c3,I⟩,H M D,H L C,H N O,k1 _ ha E (J1J.1 G)⟩) λ_=>.some nofun) λ_=>.some nofun) λ_=>.some nofun) λ_=>.some nofun) λ_=>.some nofun) λ_=>.some nofun
 exact w _ h rfl
end
end Go.Am
end
section
namespace Go.Am
set_option linter.unusedVariables false
set_option maxRecDepth 20000
set_option maxHeartbeats 1000000
section
def J94(c:J1k):List UInt8:=if c.1=false then J0W 255 1 else J0W (J0 c.2) 1++c.2
def Ja9(e:J2):List UInt8:=J0W e.1 8++(J0W e.2.1 1++(J0W e.2.2.1 4++(J0W e.2.2.2.1 8++(J0W e.2.2.2.2.1 8++(J0W e.2.2.2.2.2.1 8++(J0W (pgE e) 4++(J0W e.2.2.2.2.2.2.1.2.1 1++(J94 e.2.2.2.2.2.2.1.2.2.1++(J94 e.2.2.2.2.2.2.1.2.2.2++(J0W (J0 e.2.2.2.2.2.2.2) 4++e.2.2.2.2.2.2.2))))))))))
theorem J93{a b r:List UInt8}(h:J5s a b=some r):r=a++b:=by
 unfold J5s at h;split at h
 ·injection h with h;exact h.symm
 ·cases h
theorem JCQ{s r:List UInt8}{c:J1k}(h:J4m (s,c)=some r):r=s++J94 c:=by
 have e:Par (J4m (s,c)) λr=>r=s++J94 c:=by
  unfold J4m J94;refine .not (λd=>.bind λj h2=>.some ?_) λd=>.bind λg h3=>.bind λn h4=>.some ?_
  ·rw[J3c (k:=1) (by decide) (by decide) h2,if_pos d]
  ·rw[J93 h4,J3c (k:=1) (by decide) (by decide) h3,if_neg (by rw[show c.1=true from d];decide),J8H]
 exact e _ h
theorem JK1{e:J2}{y:List UInt8×Int}(h:J49 e=some y)(hv:Jx e=some true):y=(Ja9 e,0):=by
 have r:Par (J49 e) λy=>y=(Ja9 e,0):=by
  unfold J49;refine .bind λv g=>.not (λc=>?_) λ_=>.bind λH h3=>.bind λM h4=>.bind λJ h5=>.bind λK z=>.bind λG w=>.bind λI x=>.bind λL A=>.bind λB h10=>.bind λF q=>.bind λE o=>.bind λC j=>.bind λD n=>.some ?_
  ·rw[hv]at g;injection g with g;subst g;cases c
  ·rw[J93 n,J3c (k:=4) (by decide) (by decide) j,JCQ o,JCQ q,J3c (k:=1) (by decide) (by decide) h10,J3c (k:=4) (by decide) (by decide) A,J3c (k:=8) (by decide) (by decide) x,J3c (k:=8) (by decide) (by decide) w,J3c (k:=8) (by decide) (by decide) z,J3c (k:=4) (by decide) (by decide) h5,J3c (k:=1) (by decide) (by decide) h4,J3c (k:=8) (by decide) (by decide) h3];unfold Ja9;simp only[J8H,Jhp];rfl
 exact r _ h
variable {s:List UInt8} {p:Int}
theorem Jaf{n:Int}{k:Nat}(b:Nat)(h:At s (J0W n k) p)(hl:s.length<=1000000)(q:0<=n)(hn:n<b)(hb:b=2^(8*k):=by rfl)(h1:1<=k:=by decide)(j:k<=8:=by decide)(r:n<9223372036854775808:=by omega):JE ((k:Int),s,p,0)=some (n,s,p+k,0):=by have e:=h.bnd;rw[JR]at e;obtain⟨m,rfl⟩:=Int.eq_ofNat_of_zero_le q;have g:=JiB h h1 j (by omega) (by omega) (by omega);have o:=Jb p (k:Int);unfold JE;dsimp only;rw[if_neg (by decide),g];dsimp only[Option.bind_some];rw[if_neg (by decide),show J1 .i64 p (k:Int)=p+k by omega]
theorem JFY{w:List UInt8}(h:At s w p)(hl:s.length<=1000000):J1T (J0 w,s,p,0)=some (w,s,p+w.length,0):=by
 have hb:=h.bnd;have o:=Jb p (J0 w);have k:=J0o (J0 s) p;have j:=J0o (J1 .i64 p (J0 w)) (J0 w);have hw:J0 w=w.length:=rfl;have hs:J0 s=s.length:=rfl;have g:Tot (J1T (J0 w,s,p,0)) λy=>y=(w,s,p+w.length,0):=by unfold J1T;dsimp only;refine .ne (λc=>absurd rfl c) λ_=>.gt (λc=>by omega) λ_=>?_;rw[show JI .i64 (J1 .i64 p (J0 w)) (J0 w)=p by omega,show J1 .i64 p (J0 w)=p+w.length by omega];refine .bind (Jhs (l:=s) hb.1 (by omega) (by omega)).eqn λr hr=>.some ?_;rw[h.slc rfl hr.2]
 obtain⟨y,e,d⟩:=g;rw[e,d]
theorem JG3{c:J1k}(h:At s (J94 c) p)(hc:J7E c)(hl:s.length<=1000000):J2K (s,p,0)=some (c,s,p+(J94 c).length,0):=by
 unfold J94 at h⊢;unfold J2K;obtain⟨b,d⟩:=c;obtain⟨h1,h2⟩:=hc
 (try dsimp only at h h1 h2⊢)
 have e:=J4 (l:=d);cases b with
 |false=>rw[if_pos rfl]at h⊢;have g:=Jaf (k:=1) 256 h hl (by decide) (by decide);rw[show JE (1,s,p,0)=_ from g,h2 rfl];rfl
 |true=>rw[if_neg (by decide)]at h⊢;have g:=Jaf (k:=1) 256 h.left hl (by omega) (by omega);have g2:=JFY h.right hl;rw[show JE (1,s,p,0)=_ from g];dsimp only[Option.bind_some];rw[if_pos (by decide),if_neg (by rw[J59];omega),if_neg (by rw[J8i];omega)];rw[JR]at g2;rw[g2];dsimp only[Option.bind_some];rw[J4G,JR,Int.natCast_add,Int.add_assoc]
theorem JG5{e:J2}(hv:Jx e=some true):J5c (Ja9 e)=some (e,0)/\(Ja9 e).length<=8300:=by
 obtain⟨v1,v2,v3,v4,H,C,D,G,v9,g,B⟩:=EV.of hv;have h: ∀{c:J1k},J7E c->(J94 c).length<=13:=fun{c} hc=>by
  unfold J94;have:=hc.1;unfold J0 at this;split
  ·rw[JR];decide
  ·rw[J4G,JR];omega
 have E:=h v9;have F:=h g;have hl:(Ja9 e).length=46+(J94 e.2.2.2.2.2.2.1.2.2.1).length+(J94 e.2.2.2.2.2.2.1.2.2.2).length+e.2.2.2.2.2.2.2.length:=by unfold Ja9;simp only[J4G,JR];omega
 have A:J0 e.2.2.2.2.2.2.2=e.2.2.2.2.2.2.2.length:=rfl;refine⟨?_,by omega⟩;have hs:(Ja9 e).length<=1000000:=by omega
 generalize hx:Ja9 e=s at hl hs;have a0:At s (Ja9 e) 0:=by rw[hx];exact .all
 unfold Ja9 at a0;have g1:=Jaf (k:=8) 18446744073709551616 a0.left hs (by omega) (by omega);replace a0:=a0.right;simp only[JR]at a0;have g2:=Jaf (k:=1) 256 a0.left hs (by omega) (by omega);replace a0:=a0.right;simp only[JR]at a0;have z:=Jaf (k:=4) 4294967296 a0.left hs (by omega) (by omega);replace a0:=a0.right;simp only[JR]at a0;have x:=Jaf (k:=8) 18446744073709551616 a0.left hs (by omega) (by omega);replace a0:=a0.right;simp only[JR]at a0;have y:=Jaf (k:=8) 18446744073709551616 a0.left hs (by omega) (by omega);replace a0:=a0.right;simp only[JR]at a0;have q:=Jaf (k:=8) 18446744073709551616 a0.left hs (by omega) (by omega);replace a0:=a0.right;simp only[JR]at a0;have v:=Jaf (k:=4) 4294967296 a0.left hs (by omega) (by omega);replace a0:=a0.right;simp only[JR]at a0;have w:=Jaf (k:=1) 256 a0.left hs (by omega) (by omega);replace a0:=a0.right;simp only[JR]at a0;have r:=JG3 a0.left v9 hs;replace a0:=a0.right;have o:=JG3 a0.left g hs;replace a0:=a0.right;have j:=Jaf (k:=4) 4294967296 a0.left hs (by omega) (by omega);replace a0:=a0.right;simp only[JR]at a0;have n:=JFY a0 hs;unfold J5c;rw[show JE (8,s,0,0)=_ from g1,J06];rw[show JE (1,s,_,0)=_ from g2,J06];rw[show JE (4,s,_,0)=_ from z,J06];rw[show JE (8,s,_,0)=_ from x,J06];rw[show JE (8,s,_,0)=_ from y,J06];rw[show JE (8,s,_,0)=_ from q,J06];rw[show JE (4,s,_,0)=_ from v,J06];rw[show JE (1,s,_,0)=_ from w,J06];rw[r,J06];rw[o,J06];rw[show JE (4,s,_,0)=_ from j,J06];rw[n,J06];dsimp only;rw[if_neg (by decide),if_neg (by rw[JaM,Decidable.not_not];unfold J0;omega)];rw[show Jx (e.1,e.2.1,e.2.2.1,e.2.2.2.1,e.2.2.2.2.1,e.2.2.2.2.2.1,(pgE e,e.2.2.2.2.2.2.1.2.1,e.2.2.2.2.2.2.1.2.2.1,e.2.2.2.2.2.2.1.2.2.2),e.2.2.2.2.2.2.2)=some true from hv];rfl
end
end Go.Am
end
section
namespace Go.Am
set_option linter.unusedVariables false
set_option maxRecDepth 20000
set_option maxHeartbeats 1000000
section
variable {s r w:List UInt8} {p:Int}
theorem JFS{c:Int}(h:J3m s=some c):0<=c/\c<4294967296:=by
 have e:Par (J3m s) λc=>0<=c/\c<4294967296:=by
  unfold J3m;refine .while (λ_=>True) trivial λz _=>?_;unfold JbG;refine .lt (λ_=>.bind λ_ _=>.while (λ_=>True) trivial λz _=>?_) λ_=>.some ?_
  ·unfold Jbx;exact .lt (λ_=>.eq (λ_=>.bind λ_ _=>.some trivial) λ_=>.bind λ_ _=>.some trivial) λ_=>.some trivial
  ·exact⟨(J6z .u32 _).1,Int.lt_of_le_of_lt (J6z .u32 _).2 (by decide)⟩
 exact e _ h
def FrB(w r:List UInt8):Prop:=J0 w<=8392/\ ∃c,J3m (J0W (J0 w) 4++w)=some c/\r=(J0W (J0 w) 4++w)++J0W c 4
theorem JFP(h:J3U w=some r)(hl:J0 w<=8392):FrB w r:=by
 have e:Par (J3U w) λr=>FrB w r:=by
  unfold J3U;refine .gt (λc=>by omega) λ_=>.bind λo h2=>.bind λg h3=>.bind λc hc=>.bind λj h5=>.some ⟨hl,c,?_,?_⟩
  ·rw[J93 h3,J3c (k:=4) (by decide) (by decide) h2]at hc;exact hc
  ·obtain⟨n,q⟩:=JFS hc;rw[J3c (k:=4) (by decide) (by decide) h5,J93 h3,J3c (k:=4) (by decide) (by decide) h2];unfold cvI;rw[JIs (by omega) (by omega)];rfl
 exact e _ h
theorem FrB.len(h:FrB w r):(r.length:Int)=J0 w+8:=by obtain⟨_,c,_,rfl⟩:=h;simp only[J4G,JR];unfold J0;omega
theorem JFO(h:FrB w r)(ha:At s r p)(hl:s.length<=4611686018427387904):J1x (s,p)=some (w,p+r.length,0):=by
 have hb:=ha.bnd;have hr:=h.len;obtain⟨h1,c,hc,rfl⟩:=h;have v:=J4 (l:=w);obtain⟨m,hm⟩:=Int.eq_ofNat_of_zero_le v;obtain⟨x,G⟩:=JFS hc;obtain⟨j,rfl⟩:=Int.eq_ofNat_of_zero_le x;have g1:=JiB (n:=m) (by rw[<-hm];exact ha.left.left) (by decide:1<=4) (by decide) (by omega) (by omega) hl;have g2:=JiB ha.right (by decide:1<=4) (by decide) (by omega) (by omega) hl;rw[<-hm]at g1;have C:J0 s=s.length:=rfl;have B:J0 w=w.length:=rfl;simp only[J4G,JR]at hr g2;have e1:=Jb p 4;have e2:=Jb (J1 .i64 p 4) (J0 w);have K:=Jb p 8;have L:=Jb (J1 .i64 p 8) (J0 w);have D:=J0o (J0 s) p;have F:=Jb (J0 w) 8;simp only[J4G,JR]at hb;have q:J1 .i64 (J1 .i64 p 4) (J0 w)=p+((4+w.length:Nat):Int):=by omega
 have g:Tot (J1x (s,p)) λy=>y=(w,p+((4+w.length+4:Nat):Int),0):=by
  unfold J1x;dsimp only;refine .ltf (λ_=>.gt (λc=>by omega) λ_=>.bind (J0e g1) λM k=>?_) λc=>by omega
  subst k;dsimp only;refine .ne (λc=>absurd rfl c) λ_=>.gt (λc=>by omega) λ_=>.lt (λc=>by omega) λ_=>?_;rw[q];refine .bind (J0e g2) λE o=>.bind (Jhs (l:=s) hb.1 (by omega) (by omega)).eqn λJ h4=>?_;subst o;rw[ha.left.slc (by simp only[J4G,JR]) h4.2];refine .bind (J0e hc) λH z=>?_;subst z;refine .ne (λc=>absurd (by unfold cvI;rw[show IntKind.u32.wrap (j:Int)=(j:Int) by simp[IntKind.wrap,IntKind.bits,IntKind.signed];omega]) c) λ_=>?_;rw[show J1 .i64 p 4=p+((4:Nat):Int) by omega];refine .bind (Jhs (l:=s) (by omega) (by omega) (by omega)).eqn λI A=>.some ?_;have a1:=ha.left.right;rw[JR]at a1;rw[a1.slc (by omega) A.2,show J1 .i64 (J1 .i64 p 8) (J0 w)=p+((4+w.length+4:Nat):Int) by omega]
 obtain⟨y,e,d⟩:=g;rw[e,d];simp only[J4G,JR]
theorem JHd{m:Nat}(h:FrB w r)(ha:At s (r.take m) p)(hm:m<r.length)(he:p+m=s.length)(hl:s.length<=4611686018427387904):Par (J1x (s,p)) λy=>y.2.2≠0:=by
 have hb:=ha.bnd;have hr:=h.len;obtain⟨h1,c,hc,rfl⟩:=h;have q:J0 s=s.length:=rfl;have v:=J0o (J0 s) p;have x:=Jb (J0 w) 8;have k:=J4 (l:=w);unfold J1x;dsimp only;refine .ltf (λ_=>.gt (λ_=>.some (by decide)) λ_=>.bind λz h2=>.ne (λ_=>.some (by decide)) λo=>.gt (λ_=>.some (by decide)) λ_=>.lt (λ_=>.some (by decide)) λc3=>?_) λ_=>.some (by decide);exfalso;by_cases h4:m<4
 ·have g:Par (J08 (s,p,4)) λy=>y.2≠0:=by
   unfold J08;dsimp only;exact .ltf (λ_=>.gtf (λ_=>.lt (λ_=>.some (by decide)) λ_=>.gtf (λ_=>.lt (λ_=>.some (by decide)) λc=>by omega) λ_=>.some (by decide)) λ_=>.some (by decide)) λ_=>.some (by decide)
  exact g _ h2 o
 ·obtain⟨n,hn⟩:=Int.eq_ofNat_of_zero_le k;have a1:At s (J0W (J0 w) 4) p:=by obtain⟨pre,j,e,hp⟩:=ha;refine⟨pre,((w++J0W c 4).take (m-4))++j,?_,hp⟩;rw[e,J8H,List.take_append,JR,List.take_of_length_le (by rw[JR];omega),J8H]
  have g1:=JiB (n:=n) (by rw[<-hn];exact a1) (by decide:1<=4) (by decide) (by omega) (by omega) hl;have g1:=h2.symm.trans g1;injection g1 with g1;rw[g1]at c3
  (try dsimp only at c3)
  have:(m:Int)<J0 w+8:=by omega
  rw[<-hn]at c3;omega
end
end Go.Am
end
section
namespace Go.Am
set_option linter.unusedVariables false
set_option maxRecDepth 20000
set_option maxHeartbeats 1000000
section
variable {s:List UInt8} {l:JO}
noncomputable def Jcw(e:J2):List UInt8:=(J30 e).getD []
noncomputable def frs(l:List J2):List UInt8:=(l.map Jcw).flatten
theorem Jzb(a b:List J2):frs (a++b)=frs a++frs b:=by simp[frs]
theorem Jnd{e:J2}{r:List UInt8}(h:J30 e=some r)(hv:Jx e=some true):FrB (Ja9 e) r/\Jcw e=r:=by
 refine⟨?_,by unfold Jcw;rw[h];rfl⟩;have g:Par (J30 e) λr=>FrB (Ja9 e) r:=by unfold J30;refine .bind λk h2=>.bind λj h3=>.some ?_;rw[JK1 h2 hv]at h3;refine JFP h3 ?_;have:=(JG5 hv).2;unfold J0;omega
 exact g _ h
def hdB(h:List UInt8):Prop:=FrB ([80,77,76,71]++J0W 1 8) h
theorem JKj{r:List UInt8}(h:J5o 1=some r):hdB r:=by
 have e:Par (J5o 1) λr=>hdB r:=by unfold J5o;refine .bind λj h2=>.bind λg h3=>.some ?_;rw[J3c (k:=8) (by decide) (by decide) h2]at h3;refine JFP h3 ?_;unfold J0;rw[J4G,JR];decide
 exact e _ h
def Jvg(l:List J2):Prop:= ∀e∈l,FrB (Ja9 e) (Jcw e)/\Jx e=some true
theorem JHj{v:Int}(h:J1M (l,v)=some s)(hi:J6S l)(hc:J2L l.2.1):s=[]\/(Jvg l.2.1/\s.length<=4611686018427387904/\ ∃hd rest,hdB hd/\s=hd++rest/\rest<+:frs l.2.1):=by
 have I:Par (J1M (l,v)) λs=>s=[]\/(Jvg l.2.1/\s.length<=4611686018427387904/\ ∃hd rest,hdB hd/\s=hd++rest/\rest<+:frs l.2.1):=by
  obtain⟨P,R,S,T⟩:=hi;unfold J1M;refine .bind λ_ _=>.not (λ_=>.some (.inl rfl)) λ_=>.bind λhd w=>?_
  (try dsimp only at w)
  rw[P]at w;refine .while (λz=>z.2.2.2.2=l/\ ∃i:Nat,z.2.2.2.1=(i:Int)/\i<=l.2.1.length/\Jvg (l.2.1.take i)/\hd<+:z.2.1/\z.2.1++z.2.2.1=hd++frs (l.2.1.take i)/\((i:Int)<=l.2.2->z.2.2.1=[])) ⟨rfl,0,rfl,zQ2 _,λe h=>by simp at h,List.prefix_refl _,by simp[frs],λ_=>rfl⟩ ?_;rintro⟨t,a,b,U,l'⟩ ⟨C,i,B,hi,hf,hp,he,hb⟩
  (try dsimp only at C B hi hf hp he hb)
  subst C;subst B;unfold J9N;dsimp only;have o:=Jb (i:Int) 1;have M: ∀{e:J2},idx l'.2.1 (i:Int)=some e->l'.2.1.take (i+1)=l'.2.1.take i++[e]/\e.1=(i:Int)+1/\Jx e=some true/\i+1<=l'.2.1.length:=fun{e} he=>by obtain⟨_,q⟩:=J0G he;rw[Int.toNat_natCast]at q;have E:=(J2I.1 q).1;obtain⟨q1,q2,_⟩:=hc i e q;refine⟨by rw[List.take_add_one,q];rfl,?_,q2,E⟩;rw[q1];unfold J0;rw[J7w];omega
  have H: ∀{e:J2} {r:List UInt8},J30 e=some r->Jx e=some true->Jvg (l'.2.1.take i++[e]):=fun{e r} hr hv x hx=>by
   rcases J1U.1 hx with hx|hx
   ·exact hf x hx
   ·simp at hx;subst hx;obtain⟨q1,q2⟩:=Jnd hr hv;exact⟨by rw[q2];exact q1,hv⟩
  refine .lt (λc=>.bind λe k=>.le (λO=>.bind λe2 g=>.bind λN n=>.bind λy A=>.some ⟨rfl,i+1,?_⟩) λO=>.bind λe2 g=>.bind λN n=>.bind λy A=>.some ⟨rfl,i+1,?_⟩) λc=>.map (.bind λK F=>.bind λQ j=>.some (.inr ?_))
  ·rw[k]at g;injection g with g;subst g
   obtain⟨q1,q2,q3,D⟩:=M k;have J:=hb (by omega);subst J;refine⟨by dsimp only;omega,D,by rw[q1];exact H n q3,?_,?_,λ_=>rfl⟩
   ·show hd<+:y;rw[J93 A];exact hp.trans (List.prefix_append _ _)
   ·show y++[]=_;rw[J93 A,q1,Jzb,<-J8H,<-he];simp[frs,(Jnd n q3).2]
  ·rw[k]at g;injection g with g;subst g
   obtain⟨q1,q2,q3,D⟩:=M k;refine⟨by dsimp only;omega,D,by rw[q1];exact H n q3,hp,?_,λh=>by exfalso;omega⟩;show a++y=_;rw[J93 A,q1,Jzb,<-J8H (as:=hd),<-he];simp[frs,(Jnd n q3).2]
  ·have L:i=l'.2.1.length:=by unfold J0 at c;omega
   rw[L,List.take_length]at hf he;refine⟨hf,?_,hd,?_⟩
   ·unfold J5s at j;split at j
    ·injection j with j;rw[<-j,J4G];omega
    ·cases j
   ·obtain⟨G,rfl⟩:=hp;refine⟨G++K,JKj w,by rw[J93 j,J8H],?_⟩;rw[J8H]at he;have he:=List.append_cancel_left he;rw[<-he,(JCU F).2.2];exact List.prefix_append_right_inj G|>.2 (List.take_prefix _ _)
 exact I _ h
theorem JIW{E:List J2}{hd rest:List UInt8}{y:J6t}(h:J4n s=some y)(hf:Jvg E)(O:J2L E)(hl:s.length<=4611686018427387904)(P:hdB hd)(hs:s=hd++rest)(hr:rest<+:frs E):y.2=0-> ∃m,y.1=(1,E.take m,(m:Int))/\m<=E.length/\m<=4096:=by
 have q:Par (J4n s) λy=>y.2=0-> ∃m,y.1=(1,E.take m,(m:Int))/\m<=E.length/\m<=4096:=by
  have a0:At s hd 0:=⟨[],rest,by rw[hs];rfl,rfl⟩;have U:=JFO P a0 hl;unfold J4n;refine .bind λW h2=>.nef (λ_=>.nef (λ_=>.bind λy3 h3=>.ite (λ_=>.some nofun) λ_=>.bind λy4 h4=>.ltf (λ_=>.gt (λ_=>.some nofun) λ_=>?_) λ_=>.some nofun) λ_=>.some nofun) λ_=>.some nofun;rw[U]at h2;injection h2 with h2;subst h2
  (try dsimp only at h3 h4⊢)
  have S:At ([80,77,76,71]++J0W 1 8) (J0W ((1:Nat):Int) 8) 4:=⟨[80,77,76,71],[],by simp,rfl⟩;have Q:=JiB S (by decide) (by decide) (by decide) (by decide) (by rw[J4G,JR];decide);have h4:=h4.symm.trans Q;injection h4 with h4;subst h4;refine .while (λz=>z.1=s/\z.2.2.2.2.2.2.2.1=1/\ ∃m:Nat,m<=E.length/\m<=4096/\z.2.2.2.2.2.1=E.take m/\z.2.2.2.2.2.2.2.2=(m:Int)/\ ∃e,At s e z.2.1/\z.2.1+(e.length:Int)=(s.length:Int)/\e<+:frs (E.drop m)) ⟨rfl,rfl,0,zQ2 _,by decide,rfl,rfl,rest,⟨hd,[],by rw[hs];simp,by simp⟩,by rw[hs,J4G];show(0:Int)+hd.length+rest.length=((hd.length+rest.length:Nat):Int);omega,hr⟩ ?_;rintro⟨s',k,z1,z2,z3,es,z4,f,Z⟩ ⟨rfl,rfl,m,hm,F,rfl,rfl,e,ha,he,hp⟩
  (try dsimp only at ha he hp)
  unfold Jav;dsimp only;have fin: ∃r,((1,E.take m,(m:Int)):JO)=(1,E.take r,(r:Int))/\r<=E.length/\r<=4096:=⟨m,rfl,hm,F⟩;refine .lt (λc=>.bind λy6 B=>.ne (λ_=>.some λ_=>fin) λG=>.bind λy7 T=>.nef (λc7=>.ne (λ_=>.some λ_=>fin) λc8=>.bind λy8 R=>.some ⟨rfl,rfl,?_⟩) λ_=>.some λ_=>fin) λ_=>.some λ_=>fin;have hn:=ha.bnd;by_cases j:m<E.length
  ·have J:E.drop m=E[m]::E.drop (m+1):=List.drop_eq_getElem_cons j;have C:E[m]∈E:=J8L j;obtain⟨H,M⟩:=hf _ C;rw[J]at hp;have e2:frs (E[m]::E.drop (m+1))=Jcw E[m]++frs (E.drop (m+1)):=by unfold frs;rw[J1n,Jei]
   rw[e2]at hp;by_cases n:e.length<(Jcw E[m]).length
   ·have V:e=(Jcw E[m]).take e.length:=by
     obtain⟨t,v⟩:=hp;have:=congrArg (List.take e.length) v;rw[List.take_left',List.take_append_of_le_length (Nat.le_of_lt n)]at this
     ·exact this
     ·rfl
    exact absurd G (JHd H (by rw[<-V];exact ha) n he hl _ B)
   ·obtain⟨A,rfl⟩: ∃A,e=Jcw E[m]++A:=by
     obtain⟨t,v⟩:=hp;refine⟨e.drop (Jcw E[m]).length,?_⟩;have:=congrArg (List.take (Jcw E[m]).length) v;rw[List.take_append_of_le_length (by omega),List.take_left']at this
     ·conv=>lhs;rw[<-Joe (Jcw E[m]).length e,this]
     ·rfl
    have N:=JFO H ha.left hl;have x:=B.symm.trans N;injection x with x;subst x;have w:=T.symm.trans (JG5 M).1;injection w with w;subst w;have D:J0 (E.take m)=m:=by unfold J0;rw[J7w];omega
    rw[D]at c;obtain⟨q1,_⟩:=O m _ (zQ9 j);rw[D]at q1;have K:E.take (m+1)=E.take m++[E[m]]:=by rw[List.take_add_one,zQ9 j];rfl
    rw[J4G]at he;exact⟨m+1,j,by omega,by rw[K];exact J3t R,by dsimp only;omega,A,ha.right,by dsimp only;omega,(List.prefix_append_right_inj _).1 hp⟩
  ·have e0:E.drop m=[]:=List.drop_eq_nil_of_le (by omega);rw[e0]at hp;have I:e=[]:=by simpa[frs]using hp
   subst I;exfalso;have Y:J0 s'=s'.length:=rfl;have o:=J0o (J0 s') k;simp only[List.length_nil]at he hn;have q:Par (J1x (s',k)) λy=>y.2.2≠0:=by
    unfold J1x;dsimp only;refine .ltf (λ_=>.gt (λ_=>.some (by decide)) λ_=>.bind λW h2=>.ne (λ_=>.some (by decide)) λL=>?_) λ_=>.some (by decide);have g:Par (J08 (s',k,4)) λy=>y.2≠0:=by unfold J08;dsimp only;exact .ltf (λ_=>.gtf (λ_=>.lt (λ_=>.some (by decide)) λ_=>.gtf (λ_=>.lt (λ_=>.some (by decide)) λc=>by omega) λ_=>.some (by decide)) λ_=>.some (by decide)) λ_=>.some (by decide)
    exact absurd L (g _ h2)
   exact q _ B G
 exact q _ h
end
end Go.Am
end
section
namespace Go.Am
set_option linter.unusedVariables false
set_option maxRecDepth 20000
set_option maxHeartbeats 1000000
section
variable {lk lk' rows rows' out:List T_api_Row} {e:J2} {m:List J2} {n:Int}
def Chg(e:J2):Prop:=e.2.1=1\/e.2.1=2
theorem J7R{b:Bool}(h:Jz e=some b):(b=true->Chg e)/\(b=false-> ¬Chg e):=by
 have k1:Par (Jz e) λb=>(b=true->Chg e)/\(b=false-> ¬Chg e):=by unfold Jz;exact .eqf (λg=>.some ⟨λd=>.inr (J59.1 d),λd h=>by rcases h with h|h;exact g h;rw[J59.2 h]at d;cases d⟩) λc=>.some ⟨λ_=>.inl c,nofun⟩
 exact k1 _ h
def DG(lk:List T_api_Row)(e:J2)(d:T_api_Row):Prop:=(d.1=pgE e->(Chg e->d.2.2=e.1)/\(¬Chg e-> ∃g∈lk,g.1=pgE e/\d.2.2=g.2.2))/\(d.1≠pgE e->d∈lk)
def DQ(e:J2)(out:List T_api_Row)(d:T_api_Row):Prop:=(d.1≠pgE e->d∈out)/\(d.1=pgE e-> ¬Chg e->e.2.2.2.2.2.1<d.2.2-> ∃g∈out,g.1=pgE e)
def DI(lk:List T_api_Row)(e:J2)(i:Int)(dn:Bool)(out:List T_api_Row):Prop:=(∀d∈out,DG lk e d)/\upw (DQ e out) lk i/\(Chg e->dn=true-> ∃d∈out,d.1=pgE e)
def DF(lk:List T_api_Row)(e:J2)(out:List T_api_Row):Prop:=(∀d∈out,DG lk e d)/\(∀d∈lk,DQ e out d)/\(Chg e-> ∃d∈out,d.1=pgE e)
theorem DQ.app{d x:T_api_Row}(h:DQ e out d):DQ e (out++[x]) d:=by refine⟨λa=>by simp[h.1 a],λa b c=>?_⟩;obtain⟨g,h1,h2⟩:=h.2 a b c;exact⟨g,by simp[h1],h2⟩
theorem upw.mono{α:Type}{P Q:α->Prop}{l:List α}{i:Int}(h:upw P l i)(e: ∀x,P x->Q x):upw Q l i:=⟨h.1,λa=>⟨(h.2 a).1,λx hx=>e x ((h.2 a).2 x hx)⟩⟩
theorem DI.app{i:Int}{dn:Bool}{x:T_api_Row}(h:DI lk e i dn out)(hx:DG lk e x):DI lk e i dn (out++[x]):=by
 refine⟨λd hd=>?_,h.2.1.mono λ_ q=>q.app,λa b=>?_⟩
 ·rcases J1U.1 hd with hd|hd
  ·exact h.1 d hd
  ·simp at hd;subst hd;exact hx
 ·obtain⟨d,h1,h2⟩:=h.2.2 a b;exact⟨d,by simp[h1],h2⟩
theorem DI.new{i:Int}{dn:Bool}{t:Int}(h:DI lk e i dn out)(hc:Chg e):DI lk e i true (out++[(pgE e,t,e.1)]):=by have q:=h.app (x:=(pgE e,t,e.1)) ⟨λ_=>⟨λ_=>rfl,λh=>absurd hc h⟩,λh=>absurd rfl h⟩;exact⟨q.1,q.2.1,λ_ _=>⟨_,List.mem_append_right _ (J9K.2 rfl),rfl⟩⟩
theorem DI.next{i:Int}{dn g:Bool}{d:T_api_Row}(h:DI lk e i dn out)(hd:idx lk i=some d)(hq:DQ e out d)(j:g=true->Chg e-> ∃d∈out,d.1=pgE e):DI lk e (J1 .i64 i 1) g out:=
 ⟨h.1,J9u h.2.1 hd hq,λa b=>j b a⟩
theorem JHp{y:List T_api_Row}(h:J1l (lk,e)=some y):(Chg e\/e.2.1=7->DF lk e y)/\(¬(Chg e\/e.2.1=7)->y=lk):=by
 have lp:Par (Jg Ja5 (lk,false,0,e,[])) λy=>DF lk e y:=by
  refine .while (λz=>z.1=lk/\z.2.2.2.1=e/\DI lk e z.2.2.1 z.2.1 z.2.2.2.2) ⟨rfl,rfl,λd h=>by simp at h,JiL,nofun⟩ ?_;rintro⟨l,dn,i,e',out⟩ ⟨h1,h2,hi⟩
  (try dsimp only at h1 h2 hi)
  subst h1 h2;unfold Ja5;dsimp only
  have same: ∀{d:T_api_Row} {dn:Bool} {out:List T_api_Row},DI l e' i dn out->idx l i=some d->
    Par (if eqI d.1 e'.2.2.2.2.2.2.1.1 then
      (Jz e').bind λJ=>
      if J then
       (JA 24 out [(d.1,d.2.1,e'.1)]).bind λE=>
       some (.inl (l,true,J1 .i64 i 1,e',E))
      else
       if geI e'.2.2.2.2.2.1 d.2.2 then
        some (.inl (l,true,J1 .i64 i 1,e',out))
       else
        if geI e'.2.2.2.2.2.1 d.2.1 then
         (JA 24 out [(d.1,J1 .i64 e'.2.2.2.2.2.1 1,d.2.2)]).bind λk=>
         some (.inl (l,true,J1 .i64 i 1,e',k))
        else
         (JA 24 out [d]).bind λD=>
         some (.inl (l,true,J1 .i64 i 1,e',D))
     else
      (JA 24 out [d]).bind λw=>
      some (.inl (l,dn,J1 .i64 i 1,e',w))) λr:(TQ29)⊕(List T_api_Row)=> ∃z,r=.inl z/\z.1=l/\z.2.2.2.1=e'/\DI l e' z.2.2.1 z.2.1 z.2.2.2.2:=by
   intro d dn out hi hd;have hm:=J57 hd;have keep: ∀{t:Int} {k:List T_api_Row},d.1=pgE e'-> ¬Chg e'->JA 24 out [(d.1,t,d.2.2)]=some k->DI l e' (J1 .i64 i 1) true k:=fun{t k} v H n=>by rw[J3t n];refine(hi.app (x:=(d.1,t,d.2.2)) ⟨λ_=>⟨λa=>absurd a H,λ_=>⟨d,hm,v,rfl⟩⟩,λa=>absurd v a⟩).next hd ⟨λa=>absurd v a,λ_ _ _=>⟨(d.1,t,d.2.2),List.mem_append_right _ (J9K.2 rfl),v⟩⟩ λ_ a=>absurd a H
   refine .eq (λc=>.bind λb hb=>.ite (λg=>.bind λE M=>.some ⟨_,rfl,rfl,rfl,?_⟩) λg=>.ge (λG=>.some ⟨_,rfl,rfl,rfl,?_⟩) λG=>.ge (λ_=>.bind λk n=>.some ⟨_,rfl,rfl,rfl,keep c ((J7R hb).2 g) n⟩) λ_=>.bind λk n=>.some ⟨_,rfl,rfl,rfl,keep c ((J7R hb).2 g) n⟩) λc=>.bind λw F=>.some ⟨_,rfl,rfl,rfl,?_⟩
   ·have hc:=(J7R hb).1 g;dsimp only;rw[J3t M,show d.1=pgE e' from c];have q:=hi.new (t:=d.2.1) hc;exact q.next hd ⟨λa=>absurd c a,λ_ b=>absurd hc b⟩ λ_ a=>q.2.2 a rfl
   ·exact hi.next hd ⟨λa=>absurd c a,λ_ _ a=>absurd G (by omega)⟩ λ_ a=>absurd a ((J7R hb).2 g)
   ·dsimp only;rw[J3t F];have q:=hi.app (x:=d) ⟨λa=>absurd a c,λ_=>hm⟩;exact q.next hd ⟨λ_=>by simp,λa=>absurd a c⟩ λa b=>q.2.2 b a
  have j: ∀{d:T_api_Row} {dn:Bool} {out:List T_api_Row} {o:Option ((TQ29)⊕(List T_api_Row))} {Q:((TQ29)⊕(List T_api_Row))->Prop},(∀z,z.1=l/\z.2.2.2.1=e'/\DI l e' z.2.2.1 z.2.1 z.2.2.2.2->Q (.inl z))->Par o (λr=> ∃z,r=.inl z/\z.1=l/\z.2.2.2.1=e'/\DI l e' z.2.2.1 z.2.1 z.2.2.2.2)->Par o Q:=fun{d dn out o Q} h1 h2=>h2.mono λr ⟨z,hz,h⟩=>by rw[hz];exact h1 z h
  refine .lt (λ_=>.bind λd hd=>.gt (λ_=>.not (λ_=>.bind λb hb=>.ite (λg=>.bind λK C=>j (d:=d) (dn:=dn) (out:=out) (λz h=>h) (same (dn:=true) ?_ hd)) λ_=>j (d:=d) (dn:=dn) (out:=out) (λz h=>h) (same hi hd)) λ_=>j (d:=d) (dn:=dn) (out:=out) (λz h=>h) (same hi hd)) λ_=>j (d:=d) (dn:=dn) (out:=out) (λz h=>h) (same hi hd)) λc=>.map ?_
  ·rw[J3t C];exact hi.new ((J7R hb).1 g)
  ·have B:=Jcd hi.2.1 c;refine .not (λ_=>.bind λb hb=>.ite (λg=>.bind λK C=>.some ?_) λg=>.some ⟨hi.1,B,λa=>absurd a ((J7R hb).2 g)⟩) λL=>.some ⟨hi.1,B,λa=>hi.2.2 a L⟩;dsimp only;rw[J3t C];have q:=hi.new (t:=e'.1) ((J7R hb).1 g);exact⟨q.1,λd hd=>(B d hd).app,λa=>q.2.2 a rfl⟩
 have I:Par (J1l (lk,e)) λy=>(Chg e\/e.2.1=7->DF lk e y)/\(¬(Chg e\/e.2.1=7)->y=lk):=by
  unfold J1l;refine .bind λb hb=>.not (λg=>.ne (λA=>.some ⟨λh=>?_,λ_=>rfl⟩) λA=>Par.mono (P:=λy=>DF lk e y) lp λy hy=>⟨λ_=>hy,λh=>absurd (.inr A) h⟩) λg=>lp.mono λy hy=>⟨λ_=>hy,λh=>absurd (.inl ((J7R hb).1 g)) h⟩;rcases h with h|h
  ·exact absurd h ((J7R hb).2 g)
  ·exact absurd h A
 exact I _ h
end
end Go.Am
end
section
namespace Go.Am
set_option linter.unusedVariables false
set_option maxRecDepth 20000
set_option maxHeartbeats 1000000
section
variable {lk lk' rows rows' out:List T_api_Row} {e:J2} {m:List J2} {n:Int}
theorem Rel.noted(h:Rel m n [] lk rows)(hm:J2L m)(he:JsK m e)(hd:(Chg e\/e.2.1=7->DF lk e lk')/\(¬(Chg e\/e.2.1=7)->lk'=lk))(hr:(e.2.1≠7->rows'=rows)/\(e.2.1=7->(∀q,q≠pgE e->idx rows' q=idx rows q)/\ ∀r,idx rows' (pgE e)=some r-> ∃r0,idx rows (pgE e)=some r0/\r.1=J1o r0.1 e.2.2.2.2.2.1)):Rel (m++[e]) n [] lk' rows':=by
 obtain⟨e1,_,_,v,_⟩:=he;by_cases hc:Chg e
 ·have C:e.2.1≠7:=by rcases hc with h|h<;>omega
  obtain⟨g,k,y⟩:=hd.1 (.inl hc);rw[hr.1 C];refine⟨nofun,.nil,nofun,nofun,λd hd=>?_,λq r hq=>?_⟩
  ·by_cases c:d.1=pgE e
   ·rw[J70,if_pos ⟨hc,c.symm⟩];exact((g d hd).1 c).1 hc
   ·rw[J6k λh=>c h.2.symm];exact h.lak d ((g d hd).2 c)
  ·obtain⟨q1,q2⟩:=h.row q r hq;by_cases c:q=pgE e
   ·subst c;rw[J70,if_pos ⟨hc,rfl⟩];have:=Jpa hm (pgE e);refine⟨by omega,λ_ b=>?_⟩;obtain⟨d,hd,hp⟩:=y hc;exact absurd hp (b d hd)
   ·rw[J6k λh=>c h.2.symm];exact⟨q1,λa b=>q2 a λd hd hp=>b d ((k d hd).1 (by rw[hp];exact c)) hp⟩
 ·have x: ∀p,J0y (m++[e]) p=J0y m p:=λp=>J6k λh=>hc h.1;by_cases j:e.2.1=7
  ·obtain⟨g,k,_⟩:=hd.1 (.inr j);obtain⟨z,E⟩:=hr.2 j;have v:=v j;refine⟨nofun,.nil,nofun,nofun,λd hd=>?_,λq r hq=>?_⟩
   ·rw[x];by_cases c:d.1=pgE e
    ·obtain⟨B,o,h1,h2⟩:=((g d hd).1 c).2 hc;rw[h2,h.lak B o,h1,c]
    ·exact h.lak d ((g d hd).2 c)
   ·rw[x];by_cases c:q=pgE e
    ·subst c;obtain⟨r0,o,h1⟩:=E r hq;obtain⟨q1,q2⟩:=h.row _ r0 o;have mx:=J5P r0.1 e.2.2.2.2.2.1;refine⟨by omega,λ_ b=>?_⟩;by_cases w: ∀d∈lk,d.1≠pgE e
     ·have:=q2 nofun w;omega
     ·obtain⟨d,hd,hp⟩: ∃d,d∈lk/\d.1=pgE e:=by simpa using w
      have hl:=h.lak d hd;rw[hp]at hl;by_cases A:e.2.2.2.2.2.1<d.2.2
      ·obtain⟨D,h1,h2⟩:=(k d hd).2 hp hc A;exact absurd h2 (b D h1)
      ·omega
    ·rw[z _ c]at hq;obtain⟨q1,q2⟩:=h.row q r hq;exact⟨q1,λa b=>q2 a λd hd hp=>b d ((k d hd).1 (by rw[hp];exact c)) hp⟩
  ·rw[hd.2 (λh=>by rcases h with h|h;exact hc h;exact j h),hr.1 j];exact h.ent hc
theorem JHR{a:J1t}{y:JdL}(h:J5l (a,e)=some y)(c:y.2=0)(hr:Rel m a.1 [] a.2.2.2.2.2.1 a.2.2.2.2.2.2)(hm:J2L m)(he:JsK m e):y.1.1=a.1/\y.1.2.2.1=a.2.2.1/\Rel (m++[e]) y.1.1 [] y.1.2.2.2.2.2.1 y.1.2.2.2.2.2.2:=by
 have o:Par (J5l (a,e)) λy=>y.2=0->y.1.1=a.1/\y.1.2.2.1=a.2.2.1/\Rel (m++[e]) y.1.1 [] y.1.2.2.2.2.2.1 y.1.2.2.2.2.2.2:=by
  unfold J5l;have n: ∀{t:Int} {j l2:List Jo},Par ((J1q (a.2.2.2.2.2.2,e)).bind λg=>
   if neI g.2 0 then
    some ((a.1,t,a.2.2.1,j,a.2.2.2.2),g.2)
   else
    (Jz e).bind λv=>
    if v then
     if geI e.2.2.2.2.2.2.1.1 a.1 then
      some ((a.1,t,a.2.2.1,j,a.2.2.2.2.1,a.2.2.2.2.2.1,g.1),1)
     else
      (J1l (a.2.2.2.2.2.1,e)).bind λk=>
      some ((a.1,t,a.2.2.1,j,a.2.2.2.2.1,k,g.1),0)
    else
     (J1l (a.2.2.2.2.2.1,e)).bind λr=>
     some ((a.1,t,a.2.2.1,j,a.2.2.2.2.1,r,g.1),0)) λy=>y.2=0->y.1.1=a.1/\y.1.2.2.1=a.2.2.1/\Rel (m++[e]) y.1.1 [] y.1.2.2.2.2.2.1 y.1.2.2.2.2.2.2:=fun{t j l2}=>by
    refine .bind λg h5=>.ne (λc=>.some λh=>absurd h c) λw=>?_;have dn:Par ((J1l (a.2.2.2.2.2.1,e)).bind λk=>some ((a.1,t,a.2.2.1,j,a.2.2.2.2.1,k,g.1),(0:Int))) λy=>y.2=0->y.1.1=a.1/\y.1.2.2.1=a.2.2.1/\Rel (m++[e]) y.1.1 [] y.1.2.2.2.2.2.1 y.1.2.2.2.2.2.2:=.bind λk q=>.some λ_=>⟨rfl,rfl,hr.noted hm he (JHp q) (Jtm h5 w).2⟩;exact .bind λ_ _=>.ite (λ_=>.ge (λ_=>.some nofun) λ_=>dn) λ_=>dn
  refine .gt (λ_=>.bind λ_ _=>.lt (λ_=>.bind λ_ _=>.ne (λc=>.some λh=>absurd h c) λ_=>.bind λ_ _=>.ne (λc=>.some λh=>absurd h c) λ_=>n (l2:=[])) λ_=>.bind λ_ _=>.ne (λc=>.some λh=>absurd h c) λ_=>n (l2:=[])) λ_=>.bind λ_ _=>.ne (λc=>.some λh=>absurd h c) λ_=>n (l2:=[])
 exact o _ h c
variable {l:JO}
theorem JEn{y:JFH}(h:J43 l=some y)(hc:J2L l.2.1):y.2.2=true-> ∃(j:Nat),y.2.1=(j:Int)+1/\j+1<=l.2.1.length/\Rel (l.2.1.take (j+1)) y.1.1 [] y.1.2.2.2.1 y.1.2.2.2.2:=by
 have o:Par (J43 l) λy=>y.2.2=true-> ∃(j:Nat),y.2.1=(j:Int)+1/\j+1<=l.2.1.length/\Rel (l.2.1.take (j+1)) y.1.1 [] y.1.2.2.2.1 y.1.2.2.2.2:=by
  unfold J43;refine .bind λ_ _=>.not (λ_=>.some nofun) λ_=>.while (λz=>z.2.1=l) rfl ?_;rintro⟨i,l',z⟩ n
  (try dsimp only at n)
  subst n;unfold J9y;refine .ge (λ_=>.bind λF h4=>.ne (λ_=>.some rfl) λB=>.bind λD h5=>.bind λw x=>.eq (λA=>.bind λC e=>.some λ_=>?_) λ_=>.some rfl) λ_=>.some nofun;rw[h4]at h5 e;injection h5 with h5;injection e with e;subst h5;subst e
  obtain⟨v,q⟩:=J0G h4
  (try dsimp only at v q)
  obtain⟨E,_,_,_,r⟩:=hc _ _ q;have k:=(J2I.1 q).1;have hl:J0 (l'.2.1.take i.toNat)=i:=by unfold J0;rw[J7w];omega
  refine⟨i.toNat,by dsimp only;omega,k,?_⟩;have g:=r B w.1 (by rw[<-A];exact x);rw[List.take_add_one,q];exact g.ent (by omega)
 exact o _ h
theorem Jz2{n:Int}{y:JbO}(h:J55 n=some y): ∀r∈y.1,r.1=0:=by
 have e:Par (J55 n) λy=> ∀r∈y.1,r.1=0:=by
  unfold J55;refine .ltf (λ_=>.gt (λ_=>.some nofun) λ_=>.bind λy h=>.some λr hr=>?_) λ_=>.some nofun;unfold mkS at h;split at h
  ·injection h with h;subst h;rw[(List.mem_replicate.1 hr).2]
  ·cases h
 exact e _ h
theorem JGl{e:Int}{y:JdL}(h:J4y (l,e)=some y)(c:y.2=0)(hc:J2L l.2.1):y.1.1=e/\ ∃j:Nat,y.1.2.2.1=(j:Int)/\j<=l.2.1.length/\Rel (l.2.1.take j) y.1.1 [] y.1.2.2.2.2.2.1 y.1.2.2.2.2.2.2:=by
 have g:Par (J4y (l,e)) λy=>y.2=0->y.1.1=e/\ ∃j:Nat,y.1.2.2.1=(j:Int)/\j<=l.2.1.length/\Rel (l.2.1.take j) y.1.1 [] y.1.2.2.2.2.2.1 y.1.2.2.2.2.2.2:=by
  unfold J4y;refine .bind λn h2=>.not (λ_=>.gt (λ_=>.some nofun) λ_=>.bind λo h3=>.some λ_=>⟨rfl,0,rfl,zQ2 _,?_⟩) λk=>.ne (λ_=>.some nofun) λcp=>.some λ_=>?_
  ·refine⟨nofun,.nil,nofun,nofun,nofun,λp r hr=>?_⟩;have z:r.1=0:=Jz2 h3 r (J57 hr);rw[z];exact⟨J0C _,λ_ _=>rfl⟩
  ·obtain⟨j,h1,h3,h4⟩:=JEn h2 hc k;refine⟨rfl,j+1,by dsimp only;omega,h3,?_⟩;exact(show n.1.1=e from cp)▸h4
 exact g _ h c
theorem JCO{k:Int}{y:JdL}(h:J3D (l,k)=some y)(c:y.2=0)(hc:J2L l.2.1):y.1.1=k/\Rel l.2.1 k [] y.1.2.2.2.2.2.1 y.1.2.2.2.2.2.2:=by
 have A:Par (J3D (l,k)) λy=>y.2=0->y.1.1=k/\Rel l.2.1 k [] y.1.2.2.2.2.2.1 y.1.2.2.2.2.2.2:=by
  unfold J3D;refine .bind λ_ _=>.not (λ_=>.some nofun) λ_=>.ltf (λ_=>.gt (λ_=>.some nofun) λ_=>.bind λL h3=>.ne (λc=>.some λh=>absurd h c) λc3=>?_) λ_=>.some nofun;obtain⟨b1,j,b2,K,B⟩:=JGl h3 c3 hc;refine .while (λz=>z.2.1=l/\z.2.2.2.1=k/\z.2.2.2.2.2.1=(j:Int)/\z.1<=9223372036854775807/\(0<=z.1->Rel (l.2.1.take (max j z.1.toNat)) k [] z.2.2.2.2.2.2.2.2.1 z.2.2.2.2.2.2.2.2.2)) ⟨rfl,b1,b2,show(0:Int)<=9223372036854775807 by decide,λ_=>by rw[b1]at B;simpa using B⟩ ?_;rintro⟨i,l',a0,a⟩ ⟨h1,h2,h4,h5,r⟩
  (try dsimp only at h1 h2 h4 h5 r)
  subst h1;unfold J8N;dsimp only;have o:=Jb i 1;refine .lt (λ_=>.bind λe he=>.le (λF=>.some ⟨rfl,h2,h4,by dsimp only;omega,λhp=>?_⟩) λF=>.bind λe2 n=>.bind λI E=>.ne (λc=>.some λh=>absurd h c) λD=>.some ?_) λN=>.map (.while (λz=>z.2.2.2.1=a) rfl ?_)
  ·obtain⟨v,q⟩:=J0G he;have e1:=(hc _ _ q).1;have w:=(J2I.1 q).1;have hl:J0 (l'.2.1.take i.toNat)=i:=by unfold J0;rw[J7w];omega
   have g:=r v;show Rel _ _ _ _ _;rw[show max j (J1 .i64 i 1).toNat=max j i.toNat by omega];exact g
  ·rw[he]at n;injection n with n;subst n
   obtain⟨v,q⟩:=J0G he;have w:=(J2I.1 q).1;have C:=hc _ _ q;have hl:J0 (l'.2.1.take i.toNat)=i:=by unfold J0;rw[J7w];omega
   have e1:=C.1;have g:=r v;rw[show max j i.toNat=i.toNat by omega]at g;obtain⟨g1,g2,G⟩:=JHR E D (by rw[h2];exact g) (hc.take _) C;refine⟨rfl,g1.trans h2,g2.trans h4,by dsimp only;omega,λhp=>?_⟩
   (try dsimp only at hp⊢)
   rw[show max j (J1 .i64 i 1).toNat=i.toNat+1 by omega,List.take_add_one,q,<-h2,<-g1];exact G
  ·rintro⟨J,l2,H,a2,out⟩ x
   (try dsimp only at x)
   subst x;unfold J8O;refine .lt (λ_=>.bind λ_ _=>.gt (λ_=>.bind λ_ _=>.bind λ_ _=>.some rfl) λ_=>.some rfl) λ_=>.map (.bind λ_ _=>.ne (λc=>.some λh=>absurd h c) λ_=>.some λ_=>⟨h2,?_⟩);have M:=J4 (l:=l'.2.1);have g:=r (by omega);rw[List.take_of_length_le (by unfold J0 at*;omega)]at g;exact g
 exact A _ h c
theorem JGw{a:J1t}{e:Int}{y:J1E}(h:J4H (l,a,e)=some y)(c:y.2=0)(hl:J6S l)(hc:J2L l.2.1)(hr:Rel l.2.1 a.1 [] a.2.2.2.2.2.1 a.2.2.2.2.2.2):JC y.1:=by
 have g:Par (J4H (l,a,e)) λy=>y.2=0->JC y.1:=by
  unfold J4H;refine .bind λn h2=>.ne (λc=>.some λh=>absurd h (by decide)) λq=>.bind λ_ _=>.not (λ_=>.some nofun) λ_=>.while (λz=>JC z.2.2.2.2.2) ⟨hl,hc,?_⟩ ?_
  ·have k2:Par (J4d e) λy=>y.1.2.1=[]:=by
    unfold J4d;exact .ltf (λ_=>.gt (λ_=>.some rfl) λ_=>.some rfl) λ_=>.some rfl
   show Rel _ _ n.1.2.1 _ _;rw[k2 _ h2];exact hr
  ·intro z hz;unfold Jak;exact .lt (λ_=>.bind λ_ _=>.eq (λ_=>.some hz) λ_=>.bind λ_ _=>.bind λo k=>.ne (λc=>.some λh=>absurd h c) λj=>.some (JkU k j hz (.inr (.inl rfl)))) λ_=>.some λ_=>hz
 exact g _ h c
end
end Go.Am
end
section
namespace Go.Am
set_option linter.unusedVariables false
set_option maxRecDepth 20000
set_option maxHeartbeats 1000000
section
variable {s:List UInt8} {p:Int}
theorem J8T{n:Int}{k:Nat}(b:Nat)(h:At s (J0W n k) p)(hl:s.length<=4611686018427387904)(g:0<=n)(hn:n<b)(hb:b=2^(8*k):=by rfl)(h1:1<=k:=by decide)(e:k<=8:=by decide)(j:n<9223372036854775808:=by omega):J08 (s,p,(k:Int))=some (n,0):=by obtain⟨m,rfl⟩:=Int.eq_ofNat_of_zero_le g;exact JiB h h1 e (by omega) (by omega) hl
def Jht(r:T_api_Row):List UInt8:=J0W r.1 8++(J0W r.2.1 8++J0W r.2.2 8)
def J52(l:List T_api_Row):List UInt8:=(l.map Jht).flatten
def JvV(r:T_api_Row):Prop:=(0<=r.1/\r.1<=1099511627776)/\(0<=r.2.1/\r.2.1<=1099511627776)/\0<=r.2.2/\r.2.2<=1099511627776
def JhE(r:T_api_Row):List UInt8:=J0W r.1 1++(J0W r.2.1 8++J0W r.2.2 8)
def Jap(l:List T_api_Row):List UInt8:=(l.map JhE).flatten
def Juu(r:T_api_Row):Prop:=(0<=r.1/\r.1<64)/\(0<=r.2.1/\r.2.1<=1099511627776)/\0<=r.2.2/\r.2.2<=1099511627776
theorem JHm{l:List T_api_Row}(h:J0P l=some true):J0 l<=64/\ ∀r∈l,JvV r:=by
 have j: ∀{n:Int} {b:Bool},J32 n=some b->b=true->0<=n/\n<=1099511627776:=fun{n b} hb q=>by
  have k:Par (J32 n) λb=>b=true->0<=n/\n<=1099511627776:=by unfold J32;exact .ge (λc=>.some λd=>⟨c,J1O.1 d⟩) λ_=>.some nofun
  exact k _ hb q
 have o:Par (J0P l) λy=>y=true->J0 l<=64/\ ∀r∈l,JvV r:=by
  unfold J0P;refine .ltf (λ_=>.gt (λ_=>.some nofun) λc=>.while (λz=>z.2=l/\upw JvV l z.1) ⟨rfl,JiL⟩ ?_) λ_=>.some nofun;rintro⟨i,l'⟩ ⟨h1,hu⟩
  (try dsimp only at h1 hu)
  subst h1;unfold J9H;have go: ∀{r:T_api_Row} {a1 a2 a3:Bool},idx l' i=some r->J32 r.1=some a1->a1=true->J32 r.2.1=some a2->a2=true->J32 r.2.2=some a3->a3=true->upw JvV l' (J1 .i64 i 1):=λhr h1 e h2 g h3 c3=>J9u hu hr ⟨j h1 e,j h2 g,j h3 c3⟩;exact .lt (λ_=>.bind λr hr=>.bind λa1 h1=>.nof (λe=>.bind λa2 h2=>.nof (λg=>.bind λa3 h3=>.nof (λc3=>.eq (λ_=>.ne (λ_=>.some nofun) λ_=>.some ⟨rfl,go hr h1 e h2 g h3 c3⟩) λ_=>.some ⟨rfl,go hr h1 e h2 g h3 c3⟩) λ_=>.some nofun) λ_=>.some nofun) λ_=>.some nofun) λv=>.some λ_=>⟨Int.not_lt.1 c,Jcd hu v⟩
 exact o _ h rfl
theorem JJk{l:List T_api_Row}{n:Int}(h:J0O (l,n)=some true)(hn:n<=64):J0 l<=64/\ ∀r∈l,Juu r:=by
 have j:Par (J0O (l,n)) λy=>y=true->J0 l<=64/\ ∀r∈l,Juu r:=by
  unfold J0O;refine .while (λz=>z.1=l/\z.2.1=n/\upw Juu l z.2.2/\(0<=z.2.2->z.2.2<=J0 l/\z.2.2<=64/\ ∀r,idx l (z.2.2-1)=some r->z.2.2-1<=r.1)) ⟨rfl,rfl,JiL,λ_=>⟨J4,show(0:Int)<=64 by decide,λr hr=>absurd (J0G hr).1 (show¬(0:Int)<=0-1 by decide)⟩⟩ ?_;rintro⟨l',g,i⟩ ⟨h1,h2,hu,hi⟩
  (try dsimp only at h1 h2 hu hi)
  subst h1 h2;unfold J51;dsimp only;have o:=Jb i 1;have G:=J0o i 1;refine .lt (λK=>.bind λr hr=>.ltf (λH=>.gef (λI=>.ltf (λc3=>.gtf (λL=>.gtf (λJ=>?_) λ_=>.some nofun) λ_=>.some nofun) λ_=>.some nofun) λ_=>.some nofun) λ_=>.some nofun) λB=>.some λ_=>⟨?_,Jcd hu B⟩
  ·obtain⟨A,q⟩:=J0G hr;obtain⟨D,M,w⟩:=hi A;have x:Juu r:=⟨⟨by omega,by omega⟩,⟨by omega,by omega⟩,by omega,by omega⟩;have k:i<=r.1->(l'=l'/\g=g/\upw Juu l' (J1 .i64 i 1)/\(0<=J1 .i64 i 1->J1 .i64 i 1<=J0 l'/\J1 .i64 i 1<=64/\ ∀r,idx l' (J1 .i64 i 1-1)=some r->J1 .i64 i 1-1<=r.1)):=λv=>⟨rfl,rfl,J9u hu hr x,λhp=>⟨by omega,by omega,λr' e=>by rw[show J1 .i64 i 1-1=i by omega]at e⊢;rw[hr]at e;injection e with e;subst e;exact v⟩⟩
   refine .gt (λC=>.bind λr' e=>.ge (λ_=>.some nofun) λE=>.some (k ?_)) λC=>.some (k (by omega));rw[show JI .i64 i 1=i-1 by omega]at e;have:=w r' e;omega
  ·have F:=J4 (l:=l');have:=(hi (by omega)).2.1;omega
 exact j _ h rfl
theorem JK2{l:List T_api_Row}{y:List UInt8×Int}(h:J4a l=some y)(hv:J0P l=some true):y.1=J0W (J0 l) 2++J52 l:=by
 have n:Par (J4a l) λy=>y.1=J0W (J0 l) 2++J52 l:=by
  unfold J4a;refine .bind λv g=>.not (λc=>by rw[hv]at g;injection g with g;subst g;cases c) λ_=>.bind λD h3=>.while (λz=>z.2.2=l/\z.2.1<=9223372036854775807/\(0<=z.2.1->z.1=J0W (J0 l) 2++J52 (l.take z.2.1.toNat))) ⟨rfl,show(0:Int)<=9223372036854775807 by decide,λ_=>by rw[J3c (k:=2) (by decide) (by decide) h3];simp[J52]⟩ ?_;rintro⟨o,i,l'⟩ ⟨h1,h2,hi⟩
  (try dsimp only at h1 h2 hi)
  subst h1;unfold J9r;dsimp only;have oo:=Jb i 1;refine .lt (λ_=>.bind λr hr=>.bind λG A=>.bind λI e=>.bind λF x=>.bind λC j=>.bind λB h10=>.some ⟨rfl,by dsimp only;omega,λhp=>?_⟩) λH=>.some ?_
  ·rw[hr]at e j;injection e with e;injection j with j;subst e;subst j
   obtain⟨w,q⟩:=J0G hr
   (try dsimp only at hp⊢)
   rw[J3c (k:=8) (by decide) (by decide) h10,J3c (k:=8) (by decide) (by decide) x,J3c (k:=8) (by decide) (by decide) A,hi w,show(J1 .i64 i 1).toNat=i.toNat+1 by omega,List.take_add_one,q];simp[J52,Jht]
  ·have E:=J4 (l:=l');show o=_;rw[hi (by omega),List.take_of_length_le (by unfold J0 at*;omega)]
 exact n _ h
theorem At.rows{l:List T_api_Row}(h:At s (J52 l) p): ∀{i:Nat} {r:T_api_Row},l[i]?=some r->At s (Jht r) (p+24*i):=by
 induction l generalizing p with
 |nil=>intro i r h;simp at h
 |cons x l ih=>
  intro i r hr;have e:J52 (x::l)=Jht x++J52 l:=by simp[J52]
  rw[e]at h;cases i with
  |zero=>simp at hr;subst hr;simpa using h.left
  |succ i=>
   have q:=ih h.right (i:=i) (r:=r) (by simpa using hr);have g:(Jht x).length=24:=by simp[Jht,JR]
   rw[g]at q;rw[show p+24*((i+1:Nat):Int)=p+((24:Nat):Int)+24*(i:Int) by omega];exact q
theorem At.dirs{l:List T_api_Row}(h:At s (Jap l) p): ∀{i:Nat} {r:T_api_Row},l[i]?=some r->At s (JhE r) (p+17*i):=by
 induction l generalizing p with
 |nil=>intro i r h;simp at h
 |cons x l ih=>
  intro i r hr;have e:Jap (x::l)=JhE x++Jap l:=by simp[Jap]
  rw[e]at h;cases i with
  |zero=>simp at hr;subst hr;simpa using h.left
  |succ i=>
   have q:=ih h.right (i:=i) (r:=r) (by simpa using hr);have g:(JhE x).length=17:=by simp[JhE,JR]
   rw[g]at q;rw[show p+17*((i+1:Nat):Int)=p+((17:Nat):Int)+17*(i:Int) by omega];exact q
theorem JK4{l:List T_api_Row}{y:JbO}(h:J44 (J0W (J0 l) 2++J52 l)=some y)(hl:J0 l<=64)(A: ∀r∈l,JvV r)(c:y.2=0):y.1=l:=by
 have len:(J52 l).length=24*l.length:=by
  clear h hl A
  induction l with
  |nil=>rfl
  |cons x l ih=>simp[J52,Jht,JR]at ih⊢;omega
 have F:=J4 (l:=l);have J:J0 l=l.length:=rfl;have B:Par (J44 (J0W (J0 l) 2++J52 l)) λy=>y.2=0->y.1=l:=by
  generalize hx:J0W (J0 l) 2++J52 l=s;have a0:At s (J0W (J0 l) 2++J52 l) 0:=by rw[hx];exact .all
  have hs:s.length<=4611686018427387904:=by rw[<-hx,J4G,JR,len];omega
  have g:=J8T (k:=2) 65536 a0.left hs F (by omega);have a1:=a0.right;rw[JR]at a1;unfold J44;refine .bind λT h2=>.nef (λ_=>.lt (λ_=>.some nofun) λ_=>.gt (λ_=>.some nofun) λ_=>?_) λ_=>.some nofun;have e2:=h2.symm.trans g;injection e2 with e2;subst e2;refine .while (λz=>z.1=s/\z.2.1=J0 l/\ ∃i:Nat,z.2.2.1=(i:Int)/\i<=l.length/\z.2.2.2.2=l.take i) ⟨rfl,rfl,0,rfl,zQ2 _,rfl⟩ ?_;rintro⟨s',n,S,z,o⟩ ⟨h1,h3,i,h4,h5,e⟩
  (try dsimp only at h1 h3 h4 h5 e)
  subst h1 h3 h4 e;unfold J9q;dsimp only;have oo:=Jb (i:Int) 1;have om:=JkQ 24 (i:Int);have K:=Jb 2 (J2r .i64 24 (i:Int));have O:=Jb 10 (J2r .i64 24 (i:Int));have Q:=Jb 18 (J2r .i64 24 (i:Int));refine .lt (λP=>.bind λR h4=>.bind λL h5=>.bind λM e=>.bind λC E=>.some ⟨rfl,rfl,i+1,by dsimp only;omega,by omega,?_⟩) λN=>.map (.bind λ_ _=>.not (λ_=>.some nofun) λ_=>.some λ_=>by dsimp only;rw[List.take_of_length_le (by omega)]);have j:i<l.length:=by omega
  have hr:=zQ9 j;obtain⟨D,G,H⟩:=A _ (J8L j);have ar:=a1.rows hr;unfold Jht at ar;have g1:=J8T (k:=8) 18446744073709551616 ar.left hs D.1 (by omega);have ar:=ar.right;rw[JR]at ar;have g2:=J8T (k:=8) 18446744073709551616 ar.left hs G.1 (by omega);have ar:=ar.right;rw[JR]at ar;have I:=J8T (k:=8) 18446744073709551616 ar hs H.1 (by omega);rw[show J1 .i64 2 (J2r .i64 24 (i:Int))=0+((2:Nat):Int)+24*(i:Int) by omega]at h4;rw[show J1 .i64 10 (J2r .i64 24 (i:Int))=0+((2:Nat):Int)+24*(i:Int)+((8:Nat):Int) by omega]at h5;rw[show J1 .i64 18 (J2r .i64 24 (i:Int))=0+((2:Nat):Int)+24*(i:Int)+((8:Nat):Int)+((8:Nat):Int) by omega]at e;have w:=h4.symm.trans g1;have q:=h5.symm.trans g2;have v:=e.symm.trans I;injection w with w;injection q with q;injection v with v;subst w;subst q;subst v;show C=_;rw[J3t E,List.take_add_one,hr];rfl
 exact B _ h c
end
end Go.Am
end
section
namespace Go.Am
set_option linter.unusedVariables false
set_option maxRecDepth 20000
set_option maxHeartbeats 1000000
section
variable {s:List UInt8} {p:Int}
theorem JyN{c:J0M}(h:J24 c=some true):(1<=c.1/\c.1<=64)/\J0O (c.2.2.2.1,c.1)=some true/\J0P c.2.2.2.2=some true:=by
 have e:Par (J24 c) λy=>y=true->(1<=c.1/\c.1<=64)/\J0O (c.2.2.2.1,c.1)=some true/\J0P c.2.2.2.2=some true:=by unfold J24;exact .ltf (λn=>.gtf (λk=>.ltf (λ_=>.gtf (λ_=>.bind λ_ _=>.nof (λ_=>.bind λa ha=>.nof (λj=>.bind λb hb=>.nof (λg=>.ne (λ_=>.some nofun) λ_=>λ_ _ _=>⟨⟨by omega,by omega⟩,by rw[<-j];exact ha,by rw[<-g];exact hb⟩) λ_=>.some nofun) λ_=>.some nofun) λ_=>.some nofun) λ_=>.some nofun) λ_=>.some nofun) λ_=>.some nofun) λ_=>.some nofun
 exact e _ h rfl
def ckB(c:J0M)(t:List UInt8):List UInt8:=J0W c.1 2++(J0W c.2.1 4++(J0W (J0 t) 4++(t++(J0W (J0 c.2.2.2.1) 1++(Jap c.2.2.2.1++(J0W (J0 c.2.2.2.2) 2++J52 c.2.2.2.2))))))
theorem JJF{c:J0M}{y:List UInt8×Int}(h:J42 c=some y):y.1=[]\/(J24 c=some true/\ ∃t,y.1=ckB c t):=by
 have x:Par (J42 c) λy=>y.1=[]\/(J24 c=some true/\ ∃t,y.1=ckB c t):=by
  unfold J42;refine .bind λv hv=>.not (λ_=>.some (.inl rfl)) λB=>.bind λw h3=>.bind λN h4=>.bind λK h5=>.bind λL F=>.bind λG C=>.bind λJ E=>?_;have hv:J24 c=some true:=by rw[<-B];exact hv
  obtain⟨_,_,v3⟩:=JyN hv;refine .while (λz=>z.2.2=c/\z.2.1<=9223372036854775807/\(0<=z.2.1->z.1=J0W c.1 2++(J0W c.2.1 4++(J0W (J0 w.1) 4++(w.1++(J0W (J0 c.2.2.2.1) 1++Jap (c.2.2.2.1.take z.2.1.toNat))))))) ⟨rfl,show(0:Int)<=9223372036854775807 by decide,λ_=>?_⟩ ?_
  ·dsimp only;rw[J3c (k:=1) (by decide) (by decide) E,J93 C,J3c (k:=4) (by decide) (by decide) F,J3c (k:=4) (by decide) (by decide) h5,J3c (k:=2) (by decide) (by decide) h4];simp[Jap]
  rintro⟨o,i,c'⟩ ⟨h1,h2,hi⟩
  (try dsimp only at h1 h2 hi)
  subst h1;unfold J9t;dsimp only;have oo:=Jb i 1;refine .lt (λ_=>.bind λr hr=>.bind λa ha=>.bind λO j=>.bind λb hb=>.bind λH n=>.bind λd hd=>.some ⟨rfl,by dsimp only;omega,λhp=>?_⟩) λM=>.map (.bind λe he=>.bind λg A=>.some (.inr ⟨hv,w.1,?_⟩))
  ·rw[hr]at j n;injection j with j;injection n with n;subst j;subst n
   obtain⟨D,q⟩:=J0G hr
   (try dsimp only at hp⊢)
   rw[J3c (k:=8) (by decide) (by decide) hd,J3c (k:=8) (by decide) (by decide) hb,J3c (k:=1) (by decide) (by decide) ha,hi D,show(J1 .i64 i 1).toNat=i.toNat+1 by omega,List.take_add_one,q];simp[Jap,JhE]
  ·have I:=J4 (l:=c'.2.2.2.1);show g=_;rw[J93 A,JK2 he v3,hi (by omega),List.take_of_length_le (by unfold J0 at*;omega)];unfold ckB;simp only[J8H]
 exact x _ h
theorem Jpe(l:List T_api_Row):(Jap l).length=17*l.length:=by
 induction l with
 |nil=>rfl
 |cons x l ih=>simp[Jap,JhE,JR]at ih⊢;omega
theorem JJS{c c':J0M}{t:List UInt8}(hv:J24 c=some true)(hl:(ckB c t).length<=8192)(h:J33 (ckB c t)=some (c',0)):c'.1=c.1/\c'.2.2.2.1=c.2.2.2.1/\c'.2.2.2.2=c.2.2.2.2:=by
 obtain⟨v1,v2,v3⟩:=JyN hv;obtain⟨d1,R⟩:=JJk v2 v1.2;obtain⟨V,Z⟩:=JHm v3;have O:Par (J33 (ckB c t)) λy=>y.2=0->y.1.1=c.1/\y.1.2.2.2.1=c.2.2.2.1/\y.1.2.2.2.2=c.2.2.2.2:=by
  generalize hx:ckB c t=s at hl;have a0:At s (ckB c t) 0:=by rw[hx];exact .all
  have hs:s.length<=4611686018427387904:=by omega
  unfold ckB at a0;have g1:=J8T (k:=2) 65536 a0.left hs (by omega) (by omega);have a1:=a0.right.right;simp only[JR]at a1;have b1:=a1.bnd;simp only[J4G,JR]at b1;have lt:J0 t=t.length:=rfl;have ld:J0 c.2.2.2.1=c.2.2.2.1.length:=rfl;have ls:J0 s=s.length:=rfl;have B:=J8T (k:=4) 4294967296 a1.left hs (by omega) (by omega);have a2:=a1.right.right;simp only[JR]at a2;have U:=J8T (k:=1) 256 a2.left hs (by omega) (by omega);have a3:=a2.right;simp only[JR]at a3;have a4:=a3.right;rw[Jpe]at a4;have o1:=Jb 10 (J0 t);have o2:=Jb (J1 .i64 10 (J0 t)) 1;unfold J33;refine .bind λy2 h2=>.bind λy3 h3=>.bind λy4 h4=>?_;have e2:=h2.symm.trans g1;have x:=h4.symm.trans B;injection e2 with e2;injection x with x;subst e2;subst x;dsimp only;refine .nef (λ_=>.gt (λ_=>.some nofun) λ_=>.bind λy5 h5=>.bind λy6 P=>?_) λ_=>.some nofun;rw[show J1 .i64 10 (J0 t)=0+((2:Nat):Int)+((4:Nat):Int)+((4:Nat):Int)+(t.length:Int) by omega]at P;have v:=P.symm.trans U;injection v with v;subst v;refine .nef (λ_=>.lt (λ_=>.some nofun) λ_=>?_) λ_=>.some nofun;refine .while (λz=>z.1=s/\z.2.2.2.1=J0 c.2.2.2.1/\z.2.2.2.2.2.2.2.2.2.2.2.1=c.1/\ ∃i:Nat,z.2.2.2.2.1=(i:Int)/\i<=c.2.2.2.1.length/\z.2.2.1=11+J0 t+17*(i:Int)/\z.2.2.2.2.2.2.2.2.2.2.1=c.2.2.2.1.take i) ⟨rfl,rfl,rfl,0,rfl,zQ2 _,by dsimp only;omega,rfl⟩ ?_;rintro⟨s',q1,a8,n,i',q2,q3,q4,q5,q6,D,pg,q7⟩ ⟨k1,I,K,i,H,W,M,r⟩
  (try dsimp only at k1 I K H W M r)
  subst k1 I K H M r;unfold J9z;dsimp only;have p1:=Jb (i:Int) 1;have p2:=Jb (11+J0 t+17*(i:Int)) 1;have p3:=Jb (11+J0 t+17*(i:Int)) 9;have p4:=Jb (11+J0 t+17*(i:Int)) 17;refine .lt (λci=>.bind λy8 J=>.bind λy9 Q=>.bind λa6 h10=>.bind λG N=>.some ⟨rfl,rfl,rfl,i+1,by dsimp only;omega,by omega,by dsimp only;omega,?_⟩) λcn=>.map (.bind λa7 _=>.ne (λc=>.some λh=>absurd h c) λ_=>.bind λL C=>.bind λa9 o=>.ne (λc=>.some λh=>absurd h c) λE=>.bind λ_ _=>.not (λ_=>.some nofun) λ_=>.some λ_=>⟨rfl,?_,?_⟩)
  ·have q:i<c.2.2.2.1.length:=by omega
   have hr:=zQ9 q;obtain⟨T,S,f3⟩:=R _ (J8L q);have ar:=a3.left.dirs hr;unfold JhE at ar;have g1:=J8T (k:=1) 256 ar.left hs T.1 (by omega);have ar:=ar.right;rw[JR]at ar;have g2:=J8T (k:=8) 18446744073709551616 ar.left hs S.1 (by omega);have ar:=ar.right;rw[JR]at ar;have B:=J8T (k:=8) 18446744073709551616 ar hs f3.1 (by omega);rw[show 11+J0 t+17*(i:Int)=0+((2:Nat):Int)+((4:Nat):Int)+((4:Nat):Int)+(t.length:Int)+((1:Nat):Int)+17*(i:Int) by omega]at J;rw[show J1 .i64 (11+J0 t+17*(i:Int)) 1=0+((2:Nat):Int)+((4:Nat):Int)+((4:Nat):Int)+(t.length:Int)+((1:Nat):Int)+17*(i:Int)+((1:Nat):Int) by omega]at Q;rw[show J1 .i64 (11+J0 t+17*(i:Int)) 9=0+((2:Nat):Int)+((4:Nat):Int)+((4:Nat):Int)+(t.length:Int)+((1:Nat):Int)+17*(i:Int)+((1:Nat):Int)+((8:Nat):Int) by omega]at h10;have A:=J.symm.trans g1;have w:=Q.symm.trans g2;have g:=h10.symm.trans B;injection A with A;injection w with w;injection g with g;subst A;subst w;subst g;show G=_;rw[J3t N,List.take_add_one,hr];rfl
  ·show c.2.2.2.1.take i=_;rw[List.take_of_length_le (by omega)]
  ·have hi:i=c.2.2.2.1.length:=by omega
   obtain⟨_,F⟩:=JtF C;have e:L=J0W (J0 c.2.2.2.2) 2++J52 c.2.2.2.2:=by
    obtain⟨pre,j,q1,q2⟩:=a4;have Y:(pre++((J0W (J0 c.2.2.2.2) 2++J52 c.2.2.2.2)++j)).length=(J0W c.1 2++(J0W c.2.1 4++(J0W (J0 t) 4++(t++(J0W (J0 c.2.2.2.1) 1++(Jap c.2.2.2.1++(J0W (J0 c.2.2.2.2) 2++J52 c.2.2.2.2))))))).length:=by rw[<-q1,<-hx];rfl
    simp only[J4G,JR,Jpe]at Y;have hp:j=[]:=List.length_eq_zero_iff.1 (by omega);subst hp;rw[F,q1,JbA,show(11+J0 t+17*(i:Int)).toNat=pre.length by omega];simp
   rw[e]at o;exact JK4 o V Z E
 exact O _ h rfl
end
end Go.Am
end
section
namespace Go.Am
set_option linter.unusedVariables false
set_option maxRecDepth 20000
set_option maxHeartbeats 1000000
section
variable {k:J5}
theorem JCz{p:JF}{y:List T_api_Row}(h:J3q p=some y)(hv:JL p=some true)(one:p.2.1.Pairwise λa b=>a.1.1≠b.1.1):(∀d∈y,∃f∈p.2.1,f.1.1=d.1/\d.2.2=f.1.2.1)/\ ∀f∈p.2.1,f.2.1=true->0<=f.1.1->f.1.1<64-> ∃d∈y,d.1=f.1.1:=by
 have A:Par (J3q p) λy=>(∀d∈y,∃f∈p.2.1,f.1.1=d.1/\d.2.2=f.1.2.1)/\ ∀f∈p.2.1,f.2.1=true->0<=f.1.1->f.1.1<64-> ∃d∈y,d.1=f.1.1:=by
  unfold J3q;refine .bind λv n=>.not (λc=>by rw[hv]at n;injection n with n;subst n;cases c) λ_=>.while (λz=>z.2.1=p/\(0<=z.1/\z.1<=64)/\(∀d∈z.2.2,∃f∈p.2.1,f.1.1=d.1/\d.2.2=f.1.2.1)/\ ∀f∈p.2.1,f.2.1=true->0<=f.1.1->f.1.1<z.1-> ∃d∈z.2.2,d.1=f.1.1) ⟨rfl,⟨J0C _,show(0:Int)<=64 by decide⟩,nofun,λf _ _ a b=>by(try dsimp only at b);omega⟩ ?_;rintro⟨i,E,o⟩ ⟨h1,⟨h2,h3⟩,h4,h5⟩
  (try dsimp only at h1 h2 h3 h4 h5)
  subst h1;unfold J9U;dsimp only;have oo:=Jb i 1;refine .lt (λD=>.bind λj hj=>.ge (λw=>.bind λf hf=>?_) λw=>.some ⟨rfl,by dsimp only;omega,h4,λg r a b c=>?_⟩) λD=>.some ⟨h4,λf hf a b c=>h5 f hf a b (by omega)⟩
  ·obtain⟨g,g1,g2⟩:=(J7S hj).2.1 w;rw[hf]at g1;injection g1 with g1;subst g1
   have q: ∀x∈E.2.1,x.1.1=i->x=f:=λx hx e=>by obtain⟨a,ha⟩:=J4V.1 hx;obtain⟨_,hb⟩:=J0G hf;have:=JC0 one ha hb (e.trans g2.symm);subst this;rw[ha]at hb;injection hb
   refine .ite (λB=>.bind λH F=>.bind λI k=>.bind λG C=>.some ⟨rfl,by dsimp only;omega,λd hd=>?_,λx hx a b c=>?_⟩) λB=>.some ⟨rfl,by dsimp only;omega,h4,λx hx a b c=>?_⟩
   ·(try dsimp only at hd)
    rw[J3t C]at hd;rcases J1U.1 hd with hd|hd
    ·exact h4 d hd
    ·simp at hd;subst hd;rw[hf]at k;injection k with k;subst k
     exact⟨f,J57 hf,g2,rfl⟩
   ·(try dsimp only at c⊢)
    rw[J3t C];by_cases e:x.1.1=i
    ·exact⟨_,List.mem_append_right _ (J9K.2 rfl),e.symm⟩
    ·obtain⟨d,q1,q2⟩:=h5 x hx a b (by omega);exact⟨d,List.mem_append_left _ q1,q2⟩
   ·(try dsimp only at c)
    by_cases e:x.1.1=i
    ·rw[q x hx e,B]at a;cases a
    ·exact h5 x hx a b (by omega)
  ·(try dsimp only at c)
   by_cases e:g.1.1=i
   ·exact absurd e ((J7S hj).2.2 (by omega) g r)
   ·exact h5 g r a b (by omega)
 exact A _ h
def OfQ(k:J5)(n:Int)(D:List T_api_Row):Prop:=(∀d∈D,d.2.2=J0y k.2.2.1.2.1 d.1)/\ ∀q,0<=q->q<n->((∃d∈k.2.2.2.2.2.2.2,d.1=q)\/(∃f∈k.2.2.2.1.2.1,f.2.1=true/\f.1.1=q))-> ∃d∈D,d.1=q
theorem JKE{y:Jc0}(h:J6W k=some y)(c:y.2=0)(hi:JC k):y.1.1=k.1/\y.1.2.2.2.2=k.2.2.2.2.2.2.1/\OfQ k k.1 y.1.2.2.2.1/\Jq k=some true:=by
 have V:Par (J6W k) λy=>y.2=0->y.1.1=k.1/\y.1.2.2.2.2=k.2.2.2.2.2.2.1/\OfQ k k.1 y.1.2.2.2.1/\Jq k=some true:=by
  unfold J6W;refine .bind λv hv=>.not (λ_=>.some nofun) λcv=>?_;have hv:Jq k=some true:=by rw[<-cv];exact hv
  have af:k.1<=64:=by
   have k1:Par (J1Q k) λy=>y=true->k.1<=64:=by unfold J1Q;exact .ge (λ_=>.le (λc=>λ_ _ _=>c) λ_=>.some nofun) λ_=>.some nofun
   have k2:Par (Jq k) λy=>y=true->k.1<=64:=by unfold Jq;exact .bind λa ha=>.not (λ_=>.some nofun) λc=>λ_ _ _=>k1 _ ha c
   exact k2 _ hv rfl
  refine .while (λz=>z.2.1=k/\z.2.2.2.2.2.2.2.2.2.1=k.1/\z.2.2.2.2.2.2.2.2.2.2.2.2=k.2.2.2.2.2.2.1/\(0<=z.1/\z.1<=1000)/\OfQ k z.1 z.2.2.2.2.2.2.2.1) ⟨rfl,rfl,rfl,⟨J0C _,show(0:Int)<=1000 by decide⟩,nofun,λq a b=>by(try dsimp only at b);omega⟩ ?_;rintro⟨i,k',u1,u2,u3,u4,u5,D,u6,pg,u7,u8,rw⟩ ⟨h1,h2,h3,⟨h4,w⟩,h5⟩
  (try dsimp only at h1 h2 h3 h4 w h5)
  subst h1 h2 h3;unfold Jct;have oo:=Jb i 1;have S:JcD=J87:=rfl;rw[S]
  have lp: ∀{A g:List T_api_Row},i<k'.1->J3q k'.2.2.2.1=some g->(∀d∈A,d.2.2=J0y k'.2.2.1.2.1 d.1)->(∀d∈D,d∈A)->((∃d∈k'.2.2.2.2.2.2.2,d.1=i)-> ∃d∈A,d.1=i)->
    Par (Jg J87 (i,g,J0 g,0,k',u1,u2,u3,u4,u5,A,u6,k'.1,u7,u8,k'.2.2.2.2.2.2.1)) λr=> ∃z,r=.inl z/\z.2.1=k'/\z.2.2.2.2.2.2.2.2.2.1=k'.1/\z.2.2.2.2.2.2.2.2.2.2.2.2=k'.2.2.2.2.2.2.1/\(0<=z.1/\z.1<=1000)/\OfQ k' z.1 z.2.2.2.2.2.2.2.1:=by
   intro A g B F hl M O;obtain⟨d1,Z⟩:=JCz F (Jbd hv) hi.2.2.one;refine .while (λz=>z.1=i/\z.2.1=g/\z.2.2.1=J0 g/\z.2.2.2.2.1=k'/\z.2.2.2.2.2.2.2.2.2.2.2.2.1=k'.1/\z.2.2.2.2.2.2.2.2.2.2.2.2.2.2.2=k'.2.2.2.2.2.2.1/\(∀d∈z.2.2.2.2.2.2.2.2.2.2.1,d.2.2=J0y k'.2.2.1.2.1 d.1)/\(∀d∈A,d∈z.2.2.2.2.2.2.2.2.2.2.1)/\upw (λd=>d.1=i->d∈z.2.2.2.2.2.2.2.2.2.2.1) g z.2.2.2.1) ⟨rfl,rfl,rfl,rfl,rfl,rfl,hl,λ_ h=>h,JiL⟩ ?_;rintro⟨i',ag,n,j,k2,t1,t2,t3,t4,t5,D2,t6,pg,t7,t8,rw⟩ ⟨g1,g2,Y,T,R,P,G,E,H⟩
   (try dsimp only at g1 g2 Y T R P G E H)
   subst g1 g2 Y T R P;unfold J87;refine .lt (λU=>.bind λd hd=>.eq (λW=>.bind λy9 N=>.some ⟨rfl,rfl,rfl,rfl,rfl,rfl,λx hx=>?_,λx hx=>?_,?_⟩) λW=>.some ⟨rfl,rfl,rfl,rfl,rfl,rfl,G,E,J9u H hd λh=>absurd h W⟩) λU=>.some ⟨_,rfl,rfl,rfl,rfl,by dsimp only;omega,G,λq q1 q2 q3=>?_⟩
   ·(try dsimp only at hx)
    rw[J3t N]at hx;rcases J1U.1 hx with hx|hx
    ·exact G x hx
    ·simp at hx;subst hx;obtain⟨f,I,L,K⟩:=d1 _ (J57 hd);rw[K,(hi.2.2.hot f I).1,L]
   ·dsimp only;rw[J3t N];exact List.mem_append_left _ (E x hx)
   ·dsimp only;rw[J3t N];exact J9u (H.mono λx h e=>List.mem_append_left _ (h e)) hd λ_=>List.mem_append_right _ (J9K.2 rfl)
   ·(try dsimp only at q2)
    have al:=Jcd H U;by_cases e:q=i'
    ·subst e;rcases q3 with q3|⟨f,I,L,K⟩
     ·obtain⟨d,a,b⟩:=O q3;exact⟨d,E d a,b⟩
     ·have rg:=hi.2.2.rng f I;obtain⟨d,a,b⟩:=Z f I L rg.1 (by omega);exact⟨d,al d a (b.trans K),b.trans K⟩
    ·obtain⟨d,a,b⟩:=h5.2 q q1 (by omega) q3;exact⟨d,E d (M d a),b⟩
  have fin: ∀{o:Option ((JoH)⊕(Jc0))} {Q:((JoH)⊕(Jc0))->Prop},Par o (λr=> ∃z,r=.inl z/\z.2.1=k'/\z.2.2.2.2.2.2.2.2.2.1=k'.1/\z.2.2.2.2.2.2.2.2.2.2.2.2=k'.2.2.2.2.2.2.1/\(0<=z.1/\z.1<=1000)/\OfQ k' z.1 z.2.2.2.2.2.2.2.1)->
   (∀z,z.2.1=k'/\z.2.2.2.2.2.2.2.2.2.1=k'.1/\z.2.2.2.2.2.2.2.2.2.2.2.2=k'.2.2.2.2.2.2.1/\(0<=z.1/\z.1<=1000)/\OfQ k' z.1 z.2.2.2.2.2.2.2.1->Q (.inl z))->Par o Q:=λh1 h2=>h1.mono λr ⟨z,hz,h⟩=>by rw[hz];exact h2 z h
  refine .lt (λB=>.bind λy4 w=>.ite (λJ=>.bind λy5 C=>.bind λg F=>fin (lp B F (λd hd=>?_) (λd hd=>?_) λ_=>?_) λz h=>h) λJ=>.bind λg F=>fin (lp B F h5.1 (λd hd=>hd) λhx=>?_) λz h=>h) λB=>.some λ_=>⟨rfl,rfl,⟨h5.1,λq q1 q2 q3=>h5.2 q q1 (by(try dsimp only at B);omega) q3⟩,hv⟩
  ·rw[J3t C]at hd;rcases J1U.1 hd with hd|hd
   ·exact h5.1 d hd
   ·simp at hd;subst hd;exact hi.2.2.lak _ ((Jca w).1 J).1
  ·rw[J3t C];exact List.mem_append_left _ hd
  ·rw[J3t C];exact⟨y4.1,List.mem_append_right _ (J9K.2 rfl),((Jca w).1 J).2⟩
  ·obtain⟨d,a,b⟩:=hx;exact absurd b ((Jca w).2 J d a)
 exact V _ h c
theorem Jza{l:JO}(hi:J6S l)(hc:J2L l.2.1):Par (J02 l) λy=>y=true:=by
 obtain⟨A,r,x,j⟩:=hi;have o:=J0o l.1 1;unfold J02;refine .ltf (λ_=>.gtf (λ_=>.gtf (λ_=>.ltf (λ_=>.bind λm hm=>.gt (λc=>?_) λ_=>.while (λz=>z.2=l) rfl ?_) λc=>by omega) λc=>by omega) λc=>by omega) λc=>by omega
 ·have:=Jho hm (by omega) (by omega) j;omega
 ·rintro⟨i,l'⟩ h
  (try dsimp only at h)
  subst h;unfold J7I;refine .lt (λ_=>.bind λe he=>.nef (λ_=>.bind λe2 g=>.bind λv hv=>.not (λc=>?_) λ_=>.some rfl) λc=>?_) λ_=>.some rfl
  ·rw[he]at g;injection g with g;subst g
   obtain⟨_,q⟩:=J0G he;have:=(hc _ _ q).2.1;rw[this]at hv;injection hv with hv;subst hv;cases c
  ·obtain⟨k,q⟩:=J0G he
   (try dsimp only at k q c)
   have e1:=(hc _ _ q).1;have n:=(J2I.1 q).1;have hl:J0 (l'.2.1.take i.toNat)=i:=by unfold J0;rw[J7w];omega
   have w:=Jb l'.1 i;unfold J0 at j;omega
theorem Jwx{l:JO}{n:Int}(hi:J6S l)(hc:J2L l.2.1)(hn:n<=J0 l.2.1):Par (J19 (l,n)) λy=>y.2=0:=by
 have v:=Jza hi hc;obtain⟨g,j,h,e⟩:=hi;unfold J19;refine .bind λb hb=>.not (λc=>by rw[v _ hb]at c;cases c) λ_=>.bind λm hm=>.gt (λc=>?_) λ_=>.some rfl;have:=Jho hm (by dsimp only;omega) (by dsimp only;omega) e
 (try dsimp only at this c)
 omega
theorem JIh{y:J6Z}(h:J5C k=some y)(c:y.2.2=0)(hi:JC k):JC y.1:=by
 have w:Par (J5C k) λy=>y.2.2=0->JC y.1:=by
  unfold J5C;refine .bind λP h2=>.ne (λc=>.some λh=>absurd h c) λJ=>.bind λF h3=>.gt (λ_=>.some nofun) λB=>.bind λO h4=>.ne (λc=>.some λh=>absurd h c) λN=>.bind λo h5=>.some λ_=>?_;obtain⟨I,H,⟨K,A⟩,hv⟩:=JKE h2 J hi;have cp:JA6 k.2.2.1.2.1 F.1:=by
   intro c' hc';rcases JJF h3 with e|⟨v,t,e⟩
   ·rw[e]at hc';exact absurd hc' (by have:J33 []=some ((0,0,[],[],[]),5):=rfl;rw[this];intro h;injection h with h;cases h)
   ·rw[e]at hc' B;obtain⟨G,D,E⟩:=JJS v (by unfold J0 at B;omega) hc';rw[G,D,E,I,H];refine⟨nofun,.nil,nofun,nofun,K,λp r hp=>?_⟩;obtain⟨q1,q2⟩:=hi.2.2.row p r hp;refine⟨q1,λ_ b=>?_⟩;have p0:=(J0G hp).1;have x:p<k.1:=by
     have:=J4R (J0G hp).2;have k1:Par (J1Q k) λy=>y=true->J0 k.2.2.2.2.2.2.1=k.1:=by unfold J1Q;exact .ge (λ_=>.le (λ_=>.ge (λ_=>.le (λ_=>.bind λ_ _=>.ite (λ_=>.bind λ_ _=>.ite (λ_=>.bind λ_ _=>.ite (λ_=>.bind λ_ _=>.ite (λ_=>.bind λ_ _=>.ite (λ_=>.eq (λc=>λ_ _ _=>c) λ_=>.some nofun) λ_=>.some nofun) λ_=>.some nofun) λ_=>.some nofun) λ_=>.some nofun) λ_=>.some nofun) λ_=>.some nofun) λ_=>.some nofun) λ_=>.some nofun) λ_=>.some nofun
     have k2:Par (Jq k) λy=>y=true->J0 k.2.2.2.2.2.2.1=k.1:=by unfold Jq;exact .bind λa ha=>.not (λ_=>.some nofun) λc=>λ_ _ _=>k1 _ ha c
     have:=k2 _ hv rfl;omega
    by_cases hf: ∃f∈k.2.2.2.1.2.1,f.1.1=p
    ·obtain⟨f,j,n⟩:=hf;cases fd:f.2.1 with
     |true=>obtain⟨d,a,e⟩:=A p p0 x (.inr ⟨f,j,fd,n⟩);exact absurd e (b d a)
     |false=>have:=(hi.2.2.hot f j).2 fd r (by rw[n];exact hp);rw[n]at this;exact this
    ·refine q2 (λf C e=>hf ⟨f,C,e⟩) λd hd e=>?_;obtain⟨L,a,e'⟩:=A p p0 x (.inl ⟨d,hd,e⟩);exact b L a e'
  have q:=Jsy h4 N hi (λh=>absurd h (by show¬((6:Int)=1\/(6:Int)=2);decide)) (λh=>absurd h (by show¬(6:Int)=7;decide)) λ_=>cp;have g:=q.inv hi (by show¬((6:Int)=1\/(6:Int)=2);decide) λh=>absurd h (by show¬(6:Int)=7;decide);by_cases z:o.2=0
  ·obtain⟨j,n⟩:=JdT h5 z;exact⟨n g.1,by show J2L o.1.2.1;rw[j];exact g.2.1,by show Rel o.1.2.1 _ _ _ _;rw[j];exact g.2.2⟩
  ·obtain⟨_,e',_,_,a3,a4,_,M,_⟩:=q;exact absurd (Jwx g.1 g.2.1 (by rw[M,a4,a3,J80,J5y];exact J0C _) _ h5) z
 exact w _ h c
end
section
variable {s:Jt}
theorem Jtt{y:Jew}(e:J2R s=some y)(c:y.2.2=0)(hi:JC s.1):JC y.1.1:=by
 have g:Par (J2R s) λy=>y.2.2=0->JC y.1.1:=by unfold J2R;exact .bind λk h2=>.ne (λc=>.some λh=>absurd h c) λj=>.some λ_=>JIh h2 j hi
 exact g _ e c
end
end Go.Am
end
section
namespace Go.Am
set_option linter.unusedVariables false
set_option maxRecDepth 20000
set_option maxHeartbeats 1000000
section
variable {s:Jt}
abbrev TFl:=Int×Int×Int×(List J2)×Int×Int×(List T_api_Frame)×Int×(List T_api_Grant)×(List T_api_Grant)×(List Jo)×(List T_api_Row)×(List T_api_Row)×(List (List UInt8))×Int×(List Int)×Bool×(List JQ)×Bool×(List Int)×(List J53)
def krn(t:TFl):J5:=(t.1,t.2.1,(t.2.2.1,t.2.2.2.1,t.2.2.2.2.1),(t.2.2.2.2.2.1,t.2.2.2.2.2.2.1,t.2.2.2.2.2.2.2.1),(t.2.2.2.2.2.2.2.2.1,t.2.2.2.2.2.2.2.2.2.1),t.2.2.2.2.2.2.2.2.2.2.1,t.2.2.2.2.2.2.2.2.2.2.2.1,t.2.2.2.2.2.2.2.2.2.2.2.2.1)
theorem JuW{k:J5}{t n m:Int}{b:List UInt8}{d:J0g}{y:J2M}(hi:JC k)(hb:J1M (k.2.2.1,t)=some b)(h:J4k (d,b,n,m)=some y)(c:y.2=0):JC y.1.1:=by
 have o:Par (J4k (d,b,n,m)) λy=>y.2=0->JC y.1.1:=by
  unfold J4k;dsimp only;refine .bind λr h2=>.ne (λc=>.some λh=>absurd h c) λq=>.bind λB h3=>.ne (λc=>.some λh=>absurd h c) λc3=>.bind λC h4=>.ne (λc=>.some λh=>absurd h c) λz=>.some λ_=>?_;rcases JHj hb hi.1 hi.2.1 with e|⟨f,hl,hd,rest,e1,e2,x⟩
  ·rw[e]at h2;have:J4n []=some ((0,[],0),4):=rfl;rw[this]at h2;injection h2 with h2;subst h2;exact absurd q (by decide)
  ·obtain⟨j,q1,q2,q3⟩:=JIW h2 f hi.2.1 hl e1 e2 x q;have hc:=hi.2.1.take j;have A:J0 (k.2.2.1.2.1.take j)=j:=by unfold J0;rw[J7w];omega
   have hL:J6S r.1:=by rw[q1];exact⟨rfl,by dsimp only;omega,by dsimp only;omega,by dsimp only;omega⟩
   have g:J2L r.1.2.1:=by rw[q1];exact hc
   obtain⟨v,w⟩:=JCO h3 c3 g;exact JGw h4 z hL g (by rw[v];exact w)
 exact o _ h c
theorem JCN{t id g:Int}{y:J0g×List UInt8}(h:J4J (s,t,id,g)=some y)(hi:JC s.1): ∃k,JC k/\ ∃t,J1M (k.2.2.1,t)=some y.2:=by
 have n:Par (J4J (s,t,id,g)) λy=> ∃k,JC k/\ ∃t,J1M (k.2.2.1,t)=some y.2:=by unfold J4J;exact .bind λ_ _=>.ge (λ_=>.bind λ_ _=>.ite (λ_=>.bind λ_ _=>.bind λ_ _=>.bind λ_ _=>.bind λo q=>.bind λ_ _=>.eq (λ_=>.bind λj e=>.some ⟨o,hi.force q,_,e⟩) λ_=>.bind λj e=>.some ⟨o,hi.force q,_,e⟩) λ_=>.bind λj e=>.some ⟨s.1,hi,_,e⟩) λ_=>.bind λj e=>.some ⟨s.1,hi,_,e⟩
 exact n _ h
variable {x:J3H} {t:TFl}
theorem Jia{e:Int}{y:J0f×TFl}(h:J0R (s,e,t)=some y)(hi:JC (krn t))(hs:e=0->JC s.1):JC (krn y.2):=by
 have g:Par (J0R (s,e,t)) λy=>JC (krn y.2):=by unfold J0R;exact .eq (λc=>.bind λ_ _=>.some (hs c)) λ_=>.bind λ_ _=>.some hi
 exact g _ h
theorem JJt{y:J0f×TFl}(h:J2q (x,t)=some y)(hi:JC (krn t)):JC (krn y.2):=by
 have g:Par (J2q (x,t)) λy=>JC (krn y.2):=by unfold J2q;exact .ltf (λ_=>.gtf (λ_=>.bind λ_ _=>.bind λ_ _=>.eq (λ_=>.bind λ_ _=>.some hi) λ_=>.bind λ_ _=>.bind λ_ _=>.bind λj e=>.eq (λ_=>.some hi) λ_=>.eq (λ_=>.eq (λ_=>.bind λ_ _=>.bind λ_ _=>.some (JuD e hi)) λ_=>.some (JuD e hi)) λ_=>.some (JuD e hi)) λ_=>.bind λ_ _=>.some hi) λ_=>.bind λ_ _=>.some hi
 exact g _ h
theorem JGq{y:J0f×TFl}(h:J1Z (x,t)=some y)(hi:JC (krn t)):JC (krn y.2):=by
 have n:Par (J1Z (x,t)) λy=>JC (krn y.2):=by
  unfold J1Z;refine .bind λe h2=>.bind λj h3=>?_;obtain⟨k,hk,t',hb⟩:=JCN h2 hi;have ho:j.2=0->JC j.1.1:=by unfold J7P at h3;have o:Par ((J4k (e.1,e.2,t.1,t.2.2.2.2.2.1)).bind λe=>some (e.1,e.2)) λy=>y.2=0->JC y.1.1:=.bind λq h4=>.some λc=>JuW hk hb h4 c;exact o _ h3
  refine .while (λz=>z.1=j.2/\z.2.2.2.2.2.2.2.2.2.2.2.2.2.2.2.2.2.2.2.2.2.2.2.2.2.2=j.1/\ ∃u v:List Int,True/\JC (krn (z.2.2.1,z.2.2.2.1,z.2.2.2.2.1,z.2.2.2.2.2.1,z.2.2.2.2.2.2.1,z.2.2.2.2.2.2.2.1,z.2.2.2.2.2.2.2.2.1,z.2.2.2.2.2.2.2.2.2.1,z.2.2.2.2.2.2.2.2.2.2.1,z.2.2.2.2.2.2.2.2.2.2.2.1,z.2.2.2.2.2.2.2.2.2.2.2.2.1,z.2.2.2.2.2.2.2.2.2.2.2.2.2.1,z.2.2.2.2.2.2.2.2.2.2.2.2.2.2.1,[],0,[],false,[],false,u,[]))) ⟨rfl,rfl,[],[],trivial,hi⟩ λz hz=>?_;obtain⟨z1,z2,u,v,_,z3⟩:=hz;unfold J5r;refine .lt (λ_=>.bind λ_ _=>.bind λ_ _=>.some ⟨z1,z2,u,v,trivial,z3⟩) λ_=>.map (.ne (λ_=>.bind λ_ _=>.some z3) λc=>.bind λ_ _=>.some ?_);have g:=ho (by rw[<-z1];exact c);rw[<-z2]at g;exact g
 exact n _ h
theorem JI5{y:J0f×TFl}(h:J2c (x,t)=some y)(hi:JC (krn t)):JC (krn y.2):=by
 have w:Par (J2c (x,t)) λy=>JC (krn y.2):=by
  unfold J2c;refine .eq (λ_=>.bind λE h2=>.eq (λ_=>.bind λz _=>.bind λk h4=>.some ?_) λ_=>.bind λk h4=>.some (show JC (krn k.2)from Jia h4 hi λc=>Jpf h2 c hi)) λ_=>.eq (λ_=>.bind λD B=>.some (JJt B hi)) λ_=>.eq (λ_=>.bind λn e=>.bind λv g=>.some (Jia g hi λc=>JDi e c hi)) λ_=>.eq (λ_=>.bind λn e=>.bind λv g=>.some (Jia g hi λc=>Jtt e c hi)) λ_=>.eq (λ_=>.bind λ_ _=>.bind λj q=>.eq (λc=>.bind λ_ _=>.some ?_) λ_=>.bind λ_ _=>.some hi) λ_=>.eq (λ_=>.bind λC r=>.some (JGq r hi)) λ_=>.eq (λ_=>.bind λn e=>.bind λv g=>.some (Jia g hi λc=>JIx e c hi)) λ_=>.bind λ_ _=>.some hi
  ·show JC (krn k.2);exact Jia (t:=(_,_,_,_,_,_,_,_,_,_,_,_,_,_,_,_,_,_,_,z,_)) h4 hi λc=>Jpf h2 c hi
  ·obtain⟨o,A⟩:=JdT q c;exact⟨A hi.1,by show J2L j.1.2.1;rw[o];exact hi.2.1,by show Rel j.1.2.1 _ _ _ _;rw[o];exact hi.2.2⟩
 exact w _ h
theorem JK6{l:List J3H}{y:Jt×(List J0f)×List J53}(h:J6q (s,l)=some y)(hi:JC s.1):JC y.1.1:=by
 have e:Par (J6q (s,l)) λy=>JC y.1.1:=by unfold J6q;refine .while (λz=>JC (krn (z.2.2.2.2.2.2.1,z.2.2.2.2.2.2.2.1,z.2.2.2.2.2.2.2.2.1,z.2.2.2.2.2.2.2.2.2.1,z.2.2.2.2.2.2.2.2.2.2.1,z.2.2.2.2.2.2.2.2.2.2.2.1,z.2.2.2.2.2.2.2.2.2.2.2.2.1,z.2.2.2.2.2.2.2.2.2.2.2.2.2.1,z.2.2.2.2.2.2.2.2.2.2.2.2.2.2.1,z.2.2.2.2.2.2.2.2.2.2.2.2.2.2.2.1,z.2.2.2.2.2.2.2.2.2.2.2.2.2.2.2.2.1,z.2.2.2.2.2.2.2.2.2.2.2.2.2.2.2.2.2.1,z.2.2.2.2.2.2.2.2.2.2.2.2.2.2.2.2.2.2.1,[],0,[],false,[],false,[],[]))) (by exact hi) λz hz=>?_;unfold Jbs;exact .lt (λ_=>.lt (λ_=>.not (λ_=>.bind λ_ _=>.bind λg h4=>.bind λ_ _=>.some (JI5 h4 hz)) λ_=>.some hz) λ_=>.some hz) λ_=>.some hz
 exact e _ h
theorem JGQ{p f:Int}{y:J2M}(h:J4j (p,f)=some y)(c:y.2=0):JC y.1.1:=by
 have j:Par (J54 (p,f)) λy=>y.2=0->JC y.1:=by
  unfold J54;refine .ltf (λ_=>.gtf (λ_=>.ltf (λ_=>.gt (λ_=>.some nofun) λ_=>.bind λk h2=>.bind λn h3=>.some λ_=>⟨⟨rfl,J0C _,J4,show(0:Int)<=4096 by decide⟩,λi e h=>by simp at h,?_⟩) λ_=>.some nofun) λ_=>.some nofun) λ_=>.some nofun;have k2:Par (J4d f) λy=>y.1.2.1=[]:=by unfold J4d;exact .ltf (λ_=>.gt (λ_=>.some rfl) λ_=>.some rfl) λ_=>.some rfl
  show Rel [] p k.1.2.1 [] n.1;rw[k2 _ h2];refine⟨nofun,.nil,nofun,nofun,nofun,λp r hr=>?_⟩;have z:r.1=0:=Jz2 h3 r (J57 hr);rw[z];exact⟨J0C _,λ_ _=>rfl⟩
 have g:Par (J4j (p,f)) λy=>y.2=0->JC y.1.1:=by unfold J4j;exact .bind λk h2=>.ne (λc=>.some λh=>absurd h c) λo=>.bind λ_ _=>.ne (λc=>.some λh=>absurd h c) λ_=>.some λ_=>j _ h2 o
 exact g _ h c
end
end Go.Am
end
section
namespace Go.Am
set_option linter.unusedVariables false
set_option maxRecDepth 20000
set_option maxHeartbeats 1000000
section
variable {B S:Int}
theorem JIY{p f:Int}(h1:1<=p)(h2:p<=64)(h3:1<=f)(h4:f<=64):Par (J4j (p,f)) λy=>y.2=0:=by
 have e:Par (J54 (p,f)) λy=>y.2=0:=by unfold J54;exact .ltf (λ_=>.gtf (λ_=>.ltf (λ_=>.gt (λc=>by(try dsimp only at c);omega) λ_=>.bind λj h2=>.bind λg h3=>.some rfl) λc=>by(try dsimp only at c);omega) λc=>by(try dsimp only at c);omega) λc=>by(try dsimp only at c);omega
 have h:Par (J7r p) λy=>y.2=0:=by unfold J7r;exact .ltf (λ_=>.gt (λc=>by omega) λ_=>.bind λ_ _=>.some rfl) λc=>by omega
 unfold J4j;exact .bind λj h2=>.ne (λc=>absurd (e _ h2) c) λk=>.bind λg h3=>.ne (λc=>absurd (h _ h3) c) λ_=>.some rfl
theorem JCs{c:Jp}{n:Int}{b:Bool}{y:Jt×Jp}(hf:zFt 16384 1073741824 J7 c)(q:0<=c.2)(h:J2p (n,b,c)=some y):JC y.1.1:=by
 have o:Par (J2p (n,b,c)) λy=>JC y.1.1:=by unfold J2p;refine .bind λg h2=>.bind λk h3=>.bind λD h4=>.bind λz h5=>.bind λA r=>.some ?_;have e:=(Jj (B:=16384) (S:=1073741824) (x1:=(4,c)) ⟨J50 .i64 4,hf⟩ q).get h2;have j:=(Jj (B:=16384) (S:=1073741824) (x1:=(3,g.2)) ⟨J50 .i64 3,e.1.2⟩ e.2.2.2).get h3;have a2:=e.2.2.1 (show(1:Int)<=4 by decide);have a3:=j.2.2.1 (show(1:Int)<=3 by decide);have b2:=e.2.1;have w:=j.2.1;have x:=Jb 1 g.1;have C:=Jb 1 k.1;have v:=JIY (p:=J1 .i64 1 g.1) (f:=J1 .i64 1 k.1) (by omega) (by(try dsimp only at a2);omega) (by omega) (by(try dsimp only at a3);omega) _ h4;exact JK6 r (JGQ h4 v)
 exact o _ h
theorem JFi{c:Jp}{n:Int}{b:Bool}{y:J5×Jp}(hf:zFt 16384 1073741824 J7 c)(g:0<=c.2)(h:J2J (n,b,c)=some y):JC y.1:=by
 have e:Par (J2J (n,b,c)) λy=>JC y.1:=by unfold J2J;exact .bind λj h2=>.some (JCs hf g h2)
 exact e _ h
def JHD(l:JO):Prop:=J6S l/\J2L l.2.1
theorem JCZ{c:Jp}{n:Int}{y:Int×JO×Jp}(hf:zFt 16384 1073741824 J7 c)(w:0<=c.2)(h:J6V (n,c)=some y):JHD y.2.1/\y.2.1.2.2=J0 y.2.1.2.1:=by
 have o:Par (J6V (n,c)) λy=>JHD y.2.1/\y.2.1.2.2=J0 y.2.1.2.1:=by
  unfold J6V;refine .bind λe h2=>.bind λj h3=>.bind λq h4=>.some ?_;have g:=JFi hf w h2;have F:j=J0 e.1.2.2.1.2.1:=by
   have x:Par (J3k e.1.2.2.1) λy=>y=J0 e.1.2.2.1.2.1:=by unfold J3k;refine .bind λv hv=>.not (λc=>by rw[Jza g.1 g.2.1 _ hv]at c;cases c) λ_=>.bind λm hm=>.some ?_;obtain⟨E,D,z,A⟩:=g.1;have:=Jho hm (by omega) (by omega) A;omega
   exact x _ h3
  have r:=Jwx g.1 g.2.1 (n:=j) (by omega) _ h4;obtain⟨k,B⟩:=JdT h4 r;refine⟨⟨B g.1,by rw[k];exact g.2.1⟩,?_⟩;have C:Par (J19 (e.1.2.2.1,j)) λy=>y.2=0->y.1.2.2=J1o e.1.2.2.1.2.2 j:=by unfold J19;exact .bind λ_ _=>.not (λ_=>.some nofun) λ_=>.bind λ_ _=>.gt (λ_=>.some nofun) λ_=>.some λ_=>rfl
  have:=C _ h4 r;have mx:=J5P e.1.2.2.1.2.2 j;have z:=g.1.2.2.1;show q.1.2.2=J0 q.1.2.1;rw[k];omega
 exact o _ h
end
end Go.Am
end
section
namespace Go.Am
set_option linter.unusedVariables false
set_option maxRecDepth 20000
set_option maxHeartbeats 1000000
section
variable {l:List J2}
theorem JoO{f t lo hi lv:Int}{y:Jix}(h:J2L l)(hl:J0 l<=4096)(hn:J7B (f,t,lo,hi,lv,[]))(e:J3M (l,f,t,lo,hi,lv)=some y):y=((f,t,lo,hi,lv,sel l f t lo hi),0):=by
 have O:Par (J3M (l,f,t,lo,hi,lv)) λy=>y=((f,t,lo,hi,lv,sel l f t lo hi),0):=by
  unfold J3M;refine .bind λv hv=>.not (λc=>?_) λ_=>.while (λz=>z.1=l/\z.2.1=f/\z.2.2.1=t/\z.2.2.2.1=lo/\z.2.2.2.2.1=hi/\z.2.2.2.2.2.1=lv) ⟨rfl,rfl,rfl,rfl,rfl,rfl⟩ ?_
  ·have:=(JhY hn).get hv;rw[this]at c;cases c
  rintro⟨l',f',t',E,A,D,i,r0⟩ ⟨h1,h2,h3,h4,h5,B⟩
  (try dsimp only at h1 h2 h3 h4 h5 B)
  subst h1 h2 h3 h4 h5 B;unfold Jaz;dsimp only;refine .lt (λ_=>.bind λx hx=>.bind λv hv=>.not (λc=>?_) λ_=>.some ⟨rfl,rfl,rfl,rfl,rfl,rfl⟩) λ_=>.map ?_
  ·obtain⟨_,q⟩:=J0G hx;have:=(h _ _ q).2.1;rw[this]at hv;injection hv with hv;subst hv;cases c
  refine .while (λz=>z.1=l'/\z.2.1=f'/\z.2.2.1=t'/\z.2.2.2.1=E/\z.2.2.2.2.1=A/\z.2.2.2.2.2.1=false/\ ∃i:Nat,z.2.2.2.2.2.2.1=(i:Int)/\i<=l'.length/\z.2.2.2.2.2.2.2.2=(f',t',E,A,D,srt ((l'.take i).filter (inB f' t' E A)))) ⟨rfl,rfl,rfl,rfl,rfl,rfl,0,rfl,zQ2 _,rfl⟩ ?_;rintro⟨l2,r,w,n,g,V,i',r1,r2⟩ ⟨h1,h2,h3,h4,h5,B,i,G,U,C⟩
  (try dsimp only at h1 h2 h3 h4 h5 B G U C)
  subst h1 h2 h3 h4 h5 B G C;unfold JaR;dsimp only;have o:=Jb (i:Int) 1;have M: ∀{x:J2},idx l2 (i:Int)=some x->l2.take (i+1)=l2.take i++[x]/\i+1<=l2.length/\x.1=(i:Int)+1:=fun{x} hx=>by obtain⟨_,q⟩:=J0G hx;rw[Int.toNat_natCast]at q;exact⟨by rw[List.take_add_one,q];rfl,(J2I.1 q).1,h.at q⟩
  have skip: ∀{x:J2},idx l2 (i:Int)=some x->inB r w n g x=false-> ∃j:Nat,J1 .i64 (i:Int) 1=(j:Int)/\j<=l2.length/\((r,w,n,g,D,srt ((l2.take i).filter (inB r w n g))):JU)=(r,w,n,g,D,srt ((l2.take j).filter (inB r w n g))):=fun{x} hx hb=>by
   obtain⟨q1,q2,_⟩:=M hx;refine⟨i+1,?_,q2,?_⟩
   ·unfold J0 at hl;omega
   ·rw[q1,List.filter_append];simp[hb]
  have F: ∀{x:J2},¬((x.2.1=1\/x.2.1=2)/\(n<=pgE x/\pgE x<=g)/\r<=x.1/\x.1<=w)->inB r w n g x=false:=fun{x} hx=>by simp only[inB,decide_eq_false_iff_not];exact hx
  refine .lt (λL=>.bind λx hx=>.bind λb hb=>.nof (λK=>.ltf (λT=>.gtf (λS=>.ltf (λc3=>.gt (λW=>.some ⟨rfl,rfl,rfl,rfl,rfl,rfl,skip hx (F λq=>by omega)⟩) λW=>?_) λc3=>.some ⟨rfl,rfl,rfl,rfl,rfl,rfl,skip hx (F λq=>by omega)⟩) λS=>.some ⟨rfl,rfl,rfl,rfl,rfl,rfl,skip hx (F λq=>by unfold pgE at q;omega)⟩) λT=>.some ⟨rfl,rfl,rfl,rfl,rfl,rfl,skip hx (F λq=>by unfold pgE at q;omega)⟩) λK=>.some ⟨rfl,rfl,rfl,rfl,rfl,rfl,skip hx (F λq=>(J7R hb).2 K q.1)⟩) λL=>.map (.ite (λc=>by cases c) λ_=>?_)
  ·obtain⟨q1,q2,q3⟩:=M hx;have P:inB r w n g x=true:=J5N.2 ⟨(J7R hb).1 K,by unfold pgE;omega,by omega,by omega⟩;obtain⟨s1,Y,s3⟩:=Jtf rfl (((h.take i).inc).filter (inB r w n g));have hd: ∀z∈srt ((l2.take i).filter (inB r w n g)),z.1≠x.1:=λz hz=>by
    have hz:=(List.mem_filter.1 ((Y z).1 hz)).1;obtain⟨j,hj⟩:=J4V.1 hz;rw[Jng]at hj;split at hj
    ·have:=h.at hj;omega
    ·cases hj
   have hlen:J0 (srt ((l2.take i).filter (inB r w n g)))<=4096:=by have:=List.length_filter_le (inB r w n g) (l2.take i);rw[J7w]at this;unfold J0 at*;omega
   refine .while (λz=>z.1=l2/\z.2.1=r/\z.2.2.1=w/\z.2.2.2.1=n/\z.2.2.2.2.1=g/\z.2.2.2.2.2.1=false/\z.2.2.2.2.2.2.1=(i:Int)/\z.2.2.2.2.2.2.2.2.2=((r,w,n,g,D,srt ((l2.take i).filter (inB r w n g))),x)) ⟨rfl,rfl,rfl,rfl,rfl,rfl,rfl,rfl⟩ ?_;rintro⟨R,Q,t3,H,I,V,i3,k,r3,r4,J⟩ ⟨h1,h2,h3,h4,h5,B,G,C⟩
   (try dsimp only at h1 h2 h3 h4 h5 B G C)
   injection C with C h10;subst h1 h2 h3 h4 h5 B G C h10;unfold Jaw;dsimp only;refine .lt (λ_=>.itf (λ_=>.bind λz hz=>.eq (λc=>absurd c (hd z (J57 hz))) λ_=>.some ⟨rfl,rfl,rfl,rfl,rfl,rfl,rfl,rfl⟩) λc=>by cases c) λ_=>.map (.bind λZ N=>.some ⟨rfl,rfl,rfl,rfl,rfl,rfl,i+1,?_,q2,?_⟩)
   ·unfold J0 at hl;dsimp only;omega
   ·have:=(JHB (e:=J) (by omega:J0 (srt ((R.take i).filter (inB Q t3 H I)))<=16384)).get N;dsimp only;rw[this,q1,List.filter_append];rw[show List.filter (inB Q t3 H I) [J]=[J] by simp[P],Jzf]
  ·have A:i=l2.length:=by unfold J0 at L;omega
   have hs:srt ((l2.take i).filter (inB r w n g))=sel l2 r w n g:=by rw[A,List.take_length];rfl
   dsimp only;rw[hs];have ok:=JaD h hl hn;refine .gt (λc=>by have:=ok.2.1;(try dsimp only at this);omega) λ_=>.bind λv hv=>.not (λc=>?_) λ_=>.some rfl;rw[JkG ok]at hv;injection hv with hv;subst hv;cases c
 exact O _ e
theorem JHr(h:J2L l){x y:J2}(hx:x∈l)(hy:y∈l)(e:x.1=y.1):x=y:=by
 obtain⟨i,hi⟩:=J4V.1 hx;obtain⟨j,hj⟩:=J4V.1 hy;have a:=h.at hi;have b:=h.at hj;have:i=j:=by omega
 subst this;rw[hi]at hj;injection hj
theorem Jzv: ∀{b a:List J2},a.Pairwise ltE->(∀x∈a,∀y∈b,x.1≠y.1)->b.Pairwise (λx y=>x.1≠y.1)->(b.foldl J2m a).Pairwise ltE/\(∀x,x∈b.foldl J2m a↔x∈a\/x∈b)/\(b.foldl J2m a).length=a.length+b.length
 |[],a,ha,_,_=>⟨ha,by simp,rfl⟩
 |y::b,a,ha,hd,hb=>by
  obtain⟨b1,b2⟩:=List.pairwise_cons.1 hb;have hy: ∀x∈a,x.1≠y.1:=λx hx=>hd x hx y List.mem_cons_self;obtain⟨g,e,c3⟩:=Jzv (b:=b) (a:=J2m a y) (Jjj ha hy) (λx hx z hz=>by
   rcases(JfN hy x).1 hx with q|rfl
   ·exact hd x q z (JcV _ hz)
   ·exact b1 z hz) b2
  refine⟨g,λx=>?_,?_⟩
  ·rw[List.foldl_cons,e,JfN hy];simp only[J2U,or_assoc]
  ·rw[List.foldl_cons,c3,JtI hy];simp only[JBg];omega
theorem JFy(h:J2L l)(hl:J0 l<=4096){f t u lo hi n l2:Int}(z:J7B (f,t,lo,hi,n,[]))(A:J7B (t+1,u,lo,hi,l2,[]))(a9:J1o n l2<8):
  J0F ((f,t,lo,hi,n,sel l f t lo hi),t+1,u,lo,hi,l2,sel l (t+1) u lo hi)=some ((f,u,lo,hi,J1o n l2+1,sel l f u lo hi),0)/\J0 (sel l f u lo hi)=J0 (sel l f t lo hi)+J0 (sel l (t+1) u lo hi):=by
 have E:=JaD h hl z;have J:=JaD h hl A;obtain⟨a1,a2,a3,a4,D,I,N,L⟩:=z;obtain⟨b1,b2,v,Z,R,S,W,b8⟩:=A
 (try dsimp only at a1 a2 a3 a4 D I N L b1 b2 v Z R S W b8)
 have mx:=J5P n l2;have U:J7B (f,u,lo,hi,J1o n l2+1,[]):=⟨a1,by dsimp only;omega,v,a4,D,I,by dsimp only;omega,by dsimp only;omega⟩;have B:=JaD h hl U;obtain⟨s1,F,s3⟩:=JlU h f t lo hi;obtain⟨H,q,p3⟩:=JlU h (t+1) u lo hi;obtain⟨q1,q2,q3⟩:=JlU h f u lo hi;have hd: ∀x∈sel l f t lo hi,∀y∈sel l (t+1) u lo hi,x.1≠y.1:=λx hx y hy=>by have:=J5N.1 ((F x).1 hx).2;have:=J5N.1 ((q y).1 hy).2;omega
 have hb:(sel l (t+1) u lo hi).Pairwise λx y=>x.1≠y.1:=by rw[List.pairwise_iff_getElem]at H⊢;intro i j hi hj w e;have:=H i j hi hj w;rw[JHr h ((q _).1 (J8L hi)).1 ((q _).1 (J8L hj)).1 e]at this;exact ltE.irr this
 obtain⟨V,P,K⟩:=Jzv s1 hd hb;have C:(sel l (t+1) u lo hi).foldl J2m (sel l f t lo hi)=sel l f u lo hi:=by
  refine Jpb V q1 λx=>?_;rw[P,F,q,q2,J5N,J5N,J5N];constructor
  ·rintro(⟨c,d,e,g⟩|⟨c,d,e,g⟩)
   ·exact⟨c,d,e,by omega⟩
   ·exact⟨c,d,e,by omega⟩
  ·rintro⟨c,d,e,g⟩;rcases Int.lt_or_le t x.1 with k|k
   ·exact .inr ⟨c,d,e,by omega⟩
   ·exact .inl ⟨c,d,e,by omega⟩
 have o:t+1=J1 .i64 t 1:=by have:=Jb t 1;omega
 have r:=Jxz E J o;change mrg (sel l f t lo hi) (sel l (t+1) u lo hi)=_ at r;rw[show ent (t+1,u,lo,hi,l2,sel l (t+1) u lo hi)=sel l (t+1) u lo hi from rfl,show ent (f,t,lo,hi,n,sel l f t lo hi)=sel l f t lo hi from rfl,C]at r;rw[C]at K;have len:J0 (sel l f u lo hi)=J0 (sel l f t lo hi)+J0 (sel l (t+1) u lo hi):=by unfold J0;rw[K];omega
 have ln:J0 (sel l f u lo hi)<=4096:=B.2.1;have mm:=JBZ (sel l f t lo hi) (sel l (t+1) u lo hi) (by omega);rw[r]at mm;refine⟨?_,len⟩;have ol:=Jb (J0 (sel l f t lo hi)) (J0 (sel l (t+1) u lo hi));have om:=Jb (J1o n l2) 1;have z1:=J4 (l:=sel l f t lo hi);have z2:=J4 (l:=sel l (t+1) u lo hi);have G:Tot (J0F ((f,t,lo,hi,n,sel l f t lo hi),t+1,u,lo,hi,l2,sel l (t+1) u lo hi)) λy=>y=((f,u,lo,hi,J1o n l2+1,sel l f u lo hi),0):=by
  unfold J0F;dsimp only;refine .bind (J0e (J1W E)) λy2 M=>.nof (λ_=>.bind (J0e (J1W J)) λy3 Q=>.not (λc=>by rw[Q]at c;cases c) λ_=>.bind (JjK _ _) λy4 T=>.not (λc=>?_) λ_=>.gef (λ_=>.gt (λc=>by omega) λ_=>.bind (J0e mm) λy5 Y=>?_) λc=>by omega) λc=>by rw[M]at c;cases c
  ·rw[T.2 ⟨rfl,rfl,o⟩]at c;cases c
  ·subst Y;rw[show J1 .i64 (J1o n l2) 1=J1o n l2+1 by omega];exact .bind (J0e (J1W B)) λy6 O=>.not (λc=>by rw[O]at c;cases c) λ_=>.some rfl
 obtain⟨y,e,d⟩:=G;rw[e,d]
end
end Go.Am
end
section
namespace Go.Am
set_option linter.unusedVariables false
set_option maxRecDepth 20000
set_option maxHeartbeats 1000000
section
theorem JDC{c:Jp}{y:JIt}(hf:zFt 16384 1073741824 J7 c)(I:0<=c.2)(h:J4A c=some y):
  ∃(l:List J2) (lo hi i j E l2 C:Int),J2L l/\J0 l<=4096/\(0<=lo/\lo<=hi/\hi<64)/\(1<=i/\i<j/\j<=100)/\y.1=(1,i,lo,hi,E,sel l 1 i lo hi)/\y.2.1=(i+1,j,lo,hi,l2,sel l (i+1) j lo hi)/\y.2.2.1=(j+1,j+20,lo,hi,C,sel l (j+1) (j+20) lo hi):=by
 have P:Par (J4A c) λy=> ∃(l:List J2) (lo hi i j E l2 C:Int),J2L l/\J0 l<=4096/\(0<=lo/\lo<=hi/\hi<64)/\(1<=i/\i<j/\j<=100)/\y.1=(1,i,lo,hi,E,sel l 1 i lo hi)/\y.2.1=(i+1,j,lo,hi,l2,sel l (i+1) j lo hi)/\y.2.2.1=(j+1,j+20,lo,hi,C,sel l (j+1) (j+20) lo hi):=by
  unfold J4A;refine .bind λZ h2=>.bind λk h3=>.bind λn h4=>.bind λe h5=>.bind λg h6=>.bind λF h7=>.bind λy8 T=>.bind λU h9=>.bind λa6 h10=>.bind λY M=>.bind λa8 o=>.some ?_;have V:=(Jma (B:=16384) (S:=1073741824) (x1:=(30,c)) ⟨J50 .i64 30,hf⟩ I (show(0:Int)<=30 by decide) (show(30:Int)<=1000 by decide)).get h2;have J:=JCZ hf I h2;have r:=(Jj (B:=16384) (S:=1073741824) (x1:=(3,Z.2.2)) ⟨J50 .i64 3,V.1.2.2⟩ V.2).get h3;have w:=(Jj (B:=16384) (S:=1073741824) (x1:=(4,k.2)) ⟨J50 .i64 4,r.1.2⟩ r.2.2.2).get h4;have A:=(Jj (B:=16384) (S:=1073741824) (x1:=(15,n.2)) ⟨J50 .i64 15,w.1.2⟩ w.2.2.2).get h5;have v:=(Jj (B:=16384) (S:=1073741824) (x1:=(15,e.2)) ⟨J50 .i64 15,A.1.2⟩ A.2.2.2).get h6;have x:=(Jj (B:=16384) (S:=1073741824) (x1:=(3,g.2)) ⟨J50 .i64 3,v.1.2⟩ v.2.2.2).get h7;have D:=(Jj (B:=16384) (S:=1073741824) (x1:=(3,F.2)) ⟨J50 .i64 3,x.1.2⟩ x.2.2.2).get h9;have O:=(Jj (B:=16384) (S:=1073741824) (x1:=(9,U.2)) ⟨J50 .i64 9,D.1.2⟩ D.2.2.2).get M;obtain⟨_,p3,q3,_⟩:=r;obtain⟨_,p4,R,_⟩:=w;obtain⟨_,p5,N,_⟩:=A;obtain⟨_,p6,K,_⟩:=v;obtain⟨_,p7,H,_⟩:=x;obtain⟨_,p9,G,_⟩:=D;obtain⟨_,a7,q,_⟩:=O;replace q3:k.1<3:=q3 (show(1:Int)<=3 by decide);replace R:n.1<4:=R (show(1:Int)<=4 by decide);replace N:e.1<15:=N (show(1:Int)<=15 by decide);replace K:g.1<15:=K (show(1:Int)<=15 by decide);replace H:F.1<3:=H (show(1:Int)<=3 by decide);replace G:U.1<3:=G (show(1:Int)<=3 by decide);replace q:Y.1<9:=q (show(1:Int)<=9 by decide);have hc:=J.1.2;have hl:=J.1.1.2.2.2;have e1:J1 .i64 1 e.1=1+e.1:=by have:=Jb 1 e.1;omega
  have e2:J1 .i64 (1+e.1) 1=1+e.1+1:=by have:=Jb (1+e.1) 1;omega
  have W:J1 .i64 (1+e.1+1) g.1=1+e.1+1+g.1:=by have:=Jb (1+e.1+1) g.1;omega
  have e4:J1 .i64 (1+e.1+1+g.1) 1=1+e.1+1+g.1+1:=by have:=Jb (1+e.1+1+g.1) 1;omega
  have e5:J1 .i64 (1+e.1+1+g.1) 20=1+e.1+1+g.1+20:=by have:=Jb (1+e.1+1+g.1) 20;omega
  have z:J1 .i64 k.1 n.1=k.1+n.1:=by have:=Jb k.1 n.1;omega
  rw[e1,z]at T;rw[e1,e2,W,z]at h10;rw[e1,e2,W,e4,e5,z]at o;have m8:=JoO hc hl ⟨by dsimp only;omega,by dsimp only;omega,by dsimp only;omega,by dsimp only;omega,by dsimp only;omega,by dsimp only;omega,by dsimp only;omega,by dsimp only;omega⟩ T;have Q:=JoO hc hl ⟨by dsimp only;omega,by dsimp only;omega,by dsimp only;omega,by dsimp only;omega,by dsimp only;omega,by dsimp only;omega,by dsimp only;omega,by dsimp only;omega⟩ h10;have L:=JoO hc hl ⟨by dsimp only;omega,by dsimp only;omega,by dsimp only;omega,by dsimp only;omega,by dsimp only;omega,by dsimp only;omega,by dsimp only;omega,by dsimp only;omega⟩ o;exact⟨Z.2.1.2.1,k.1,k.1+n.1,1+e.1,1+e.1+1+g.1,_,_,_,hc,hl,by omega,by omega,by rw[m8],by rw[Q],by rw[L]⟩
 exact P _ h
theorem JhA{f t lo hi lv:Int}(h1:1<=f)(h2:f<=t)(h3:t<=100000)(h4:0<=lo)(h5:lo<=hi)(e:hi<64)(h:0<=lv)(g:lv<=8):J7B (f,t,lo,hi,lv,[]):=⟨h1,h2,by dsimp only;omega,h4,h5,e,h,g⟩
theorem Jvz{a b:JU}(ha:J4Z a)(hb:J4Z b)(h:b.1≠J1 .i64 a.2.1 1):J0F (a,b)=some (rZ,41):=by
 have g:Tot (J0F (a,b)) λy=>y=(rZ,41):=by unfold J0F;exact .bind (J0e (J1W ha)) λq j=>.nof (λ_=>.bind (J0e (J1W hb)) λo n=>.not (λc=>by rw[n]at c;cases c) λ_=>.bind (JjK a b) λr k=>.not (λ_=>.some rfl) λc=>absurd (k.1 c).2.2 h) λc=>by rw[j]at c;cases c
 obtain⟨y,e,d⟩:=g;rw[e,d]
theorem JD3{a b:JU}(ha:J4Z a)(hb:J4Z b)(h1:a.2.2.1=b.2.2.1)(h2:a.2.2.2.1=b.2.2.2.1)(h3:b.1=J1 .i64 a.2.1 1)(h4:8<=J1o a.2.2.2.2.1 b.2.2.2.2.1):J0F (a,b)=some (rZ,21):=by
 have g:Tot (J0F (a,b)) λy=>y=(rZ,21):=by unfold J0F;exact .bind (J0e (J1W ha)) λq h=>.nof (λ_=>.bind (J0e (J1W hb)) λn j=>.not (λc=>by rw[j]at c;cases c) λ_=>.bind (JjK a b) λo k=>.not (λc=>by rw[k.2 ⟨h1,h2,h3⟩]at c;cases c) λ_=>.gef (λc=>absurd h4 c) λ_=>.some rfl) λc=>by rw[h]at c;cases c
 obtain⟨y,e,d⟩:=g;rw[e,d]
theorem JC8{e:List Int}{y:Jp}(w0:Ty.inR (.l (.i .u8)) e)(h:J4Y (e,400)=some y):zFt 16384 1073741824 J7 y/\0<=y.2:=by
 have g:zFt (J0 e) 0 (.l (.i .u8)) e:=⟨J0C _,λa ha=>by have:=w0.2 a ha;rw[JlK];simpa[Ty.inR,IntKind.min,IntKind.max,IntKind.signed,IntKind.bits]using this⟩
 have j:0<=J0 e:=J4;have h3:=(JkD (B:=J0 e) (S:=0) (x1:=(e,400)) ⟨g,J50 .i64 400⟩ (show(0:Int)<=400 by decide)).get h;obtain⟨k,n⟩:=JGb h;exact⟨⟨⟨by show J0 y.1<=16384;omega,λa ha=>h3.1.1.2 a ha⟩,h3.1.2⟩,by omega⟩
theorem JCq{g:List Int}(w0:Ty.inR (.l (.i .u8)) g):Tot (J4Y (g,400)) λy=>zFt 16384 1073741824 J7 y/\0<=y.2:=by
 have h:zFt (J0 g) 0 (.l (.i .u8)) g:=⟨J0C _,λa ha=>by have:=w0.2 a ha;rw[JlK];simpa[Ty.inR,IntKind.min,IntKind.max,IntKind.signed,IntKind.bits]using this⟩
 have j:0<=J0 g:=J4;obtain⟨y,e,_⟩:=JkD (B:=J0 g) (S:=0) (x1:=(g,400)) ⟨h,J50 .i64 400⟩ (show(0:Int)<=400 by decide);exact⟨y,e,JC8 w0 e⟩
theorem Jdb{r:List Int}{x1:Int}(w0:Ty.inR (.l (.i .u8)) r)(w1:Ty.inR (.i .u8) x1):J3W (r,x1)=some true:=by
 have F:Tot (J3W (r,x1)) λy=>y=true:=by
  have q1:0<=x1/\x1<=255:=by have:=w1;simpa[Ty.inR,IntKind.min,IntKind.max,IntKind.signed,IntKind.bits]using this
  unfold J3W;dsimp only;refine .bind (J0e JAf) λy2 J=>.not (λc=>by rw[J]at c;cases c) λ_=>.bind (JCq w0) λZ h3=>.bind ((JrL (B:=16384) (S:=1073741824) h3.1 h3.2).eqn) λT h4=>?_;obtain⟨l,lo,hi,i,j,l1,l2,o,hc,hl,⟨a1,a2,a3⟩,⟨b1,b2,Y⟩,e1,e2,G⟩:=JDC h3.1 h3.2 h4.2;obtain⟨ra,rb,rd,v⟩:=T
  (try dsimp only at e1 e2 G)
  subst e1 e2 G;refine .bind (.some (Q:=λy=>y=(1,i,lo,hi,0,sel l 1 i lo hi)) rfl) λy5 N=>.bind (.some (Q:=λy=>y=(i+1,j,lo,hi,0,sel l (i+1) j lo hi)) rfl) λy6 K=>?_;subst N K;have k:=JaD hc hl (JhA (f:=i+1) (t:=j) (lv:=0) (by omega) (by omega) (by omega) a1 a2 a3 (by decide) (by decide));have g:=λn (h1:0<=n) (h2:n<=8)=>JaD hc hl (JhA (f:=1) (t:=i) (lv:=n) (by decide) b1 (by omega) a1 a2 a3 h1 h2);have oi:=Jb i 1;have oj:=Jb j 1;refine Jf (τ:=Int×Int) (λq=>(x1,q.1,v,(1,i,lo,hi,q.2,sel l 1 i lo hi),(i+1,j,lo,hi,0,sel l (i+1) j lo hi),j+1,j+20,lo,hi,o,sel l (j+1) (j+20) lo hi)) (λq=>(0<=q.1/\q.1<=9)/\0<=q.2/\q.2<=8) (λq=>9-q.1) ?_ (0,0) rfl ⟨⟨J0C _,show(0:Int)<=9 by decide⟩,J0C _,show(0:Int)<=8 by decide⟩;rintro⟨n,m⟩ ⟨⟨g1,g2⟩,I,D⟩
  (try dsimp only at g1 g2 I D)
  unfold J7C;dsimp only;have on:=Jb n 1;refine .le (λE=>?_) λ_=>.inr ?_
  ·have A: ∃q:Int×Int,((x1,J1 .i64 n 1,v,(1,i,lo,hi,n,sel l 1 i lo hi),(i+1,j,lo,hi,0,sel l (i+1) j lo hi),j+1,j+20,lo,hi,o,sel l (j+1) (j+20) lo hi):JEH)=(x1,q.1,v,(1,i,lo,hi,q.2,sel l 1 i lo hi),(i+1,j,lo,hi,0,sel l (i+1) j lo hi),j+1,j+20,lo,hi,o,sel l (j+1) (j+20) lo hi)/\((0<=q.1/\q.1<=9)/\0<=q.2/\q.2<=8)/\9-q.1<9-n/\0<=9-n:=
    ⟨(J1 .i64 n 1,n),rfl,⟨⟨by dsimp only;omega,by dsimp only;omega⟩,g1,E⟩,by dsimp only;omega,by omega⟩
   by_cases C:n=8
   ·subst C;have R:=JD3 (g 8 (by decide) (by decide)) k rfl rfl (by dsimp only;omega) (show(8:Int)<=J1o 8 0 by decide);refine .bind (J0e R) λL w=>?_;subst w;exact .eq (λ_=>.nef (λ_=>.lt (λc=>absurd c (by decide)) λ_=>.some A) λc=>absurd rfl c) λc=>absurd rfl c
   ·have mx:J1o n 0=n:=by have:=J5P n 0;omega
    obtain⟨m1,m2⟩:=JFy hc hl (JhA (f:=1) (t:=i) (lv:=n) (by decide) b1 (by omega) a1 a2 a3 g1 E) (JhA (f:=i+1) (t:=j) (lv:=0) (by omega) (by omega) (by omega) a1 a2 a3 (by decide) (by decide)) (by omega);rw[mx]at m1;refine .bind (J0e m1) λL w=>?_;subst w;have z1:=J4 (l:=sel l 1 i lo hi);have z2:=J4 (l:=sel l (i+1) j lo hi);have ln:J0 (sel l 1 j lo hi)<=4096:=(JaD hc hl (JhA (f:=1) (t:=j) (lv:=0) (by decide) (by omega) (by omega) a1 a2 a3 (by decide) (by decide))).2.1;have ol:=Jb (J0 (sel l 1 i lo hi)) (J0 (sel l (i+1) j lo hi));exact .eq (λc=>absurd c C) λ_=>.lt (λ_=>.nef (λ_=>.nef (λ_=>.ne (λc=>absurd (show J0 (sel l 1 j lo hi)=J1 .i64 (J0 (sel l 1 i lo hi)) (J0 (sel l (i+1) j lo hi)) by omega) c) λ_=>.some A) λc=>absurd (show n+1=J1 .i64 n 1 by omega) c) λc=>absurd rfl c) λc=>absurd (show n<8 by omega) c
  ·have O:=Jvz k (g m I D) (show(1:Int)≠J1 .i64 j 1 by omega);have W:=JzO x1;have o1:=Jb (i+1) 1;have o2:=Jb (J1 .i64 (i+1) 1) (cvI .i64 x1);have o3:=Jb (J1 .i64 j 1) (cvI .i64 x1);have P:J4Z (J1 .i64 (J1 .i64 (i+1) 1) (cvI .i64 x1),J1 .i64 (J1 .i64 j 1) (cvI .i64 x1),lo,hi,0,[]):=
    ⟨⟨by dsimp only;omega,by dsimp only;omega,by dsimp only;omega,a1,a2,a3,show(0:Int)<=0 by decide,show(0:Int)<=8 by decide⟩,show J0 ([]:List J2)<=4096 by decide,λj e h=>by simp at h,λe h=>by simp at h,λj a b h=>by simp at h⟩
   have z:=Jvz (g 0 (by decide) (by decide)) P (show J1 .i64 (J1 .i64 (i+1) 1) (cvI .i64 x1)≠J1 .i64 i 1 by omega);refine .bind (J0e O) λy9 M=>.bind (.some (Q:=λy=>y=(1,i,lo,hi,0,sel l 1 i lo hi)) rfl) λU H=>?_;subst M H;refine .bind (J0e z) λV x=>?_;subst x;exact .eq (λ_=>.some rfl) λc=>absurd rfl c
 obtain⟨y,e,d⟩:=F;rw[e,d]
end
end Go.Am
end
section
namespace Go.Am
set_option maxRecDepth 20000
def lkA{α:Type}(f:FuncId):List (FuncId×α)->Option α
 |[]=>none
 |(g,a)::r=>if f=g then some a else lkA f r
noncomputable def JAV:List (FuncId×AFn):=[(8,erF JAb),(24,erF Jfv),(64,erF Jlo),(54,erF JiU),(53,erF Jwg),(42,erF JnY),(25,erF Jhl),(50,erF JnA),(71,erF Jhd),(70,erF Jna),(61,erF Jow),(60,erF Jum),(59,erF JjY),(62,erF JjC),(63,erF JjU),(51,erF JqD),(40,erF JqH),(39,erF Jmi),(52,erF Jmp),(41,erF JqK),(23,erF Juo),(11,erF Jj0),(7,erF Jrj),(10,erF Jrn)]
noncomputable def JB3:List (FuncId×AFn):=[(20,erF J8Q),(98,erF JiS),(99,erF Jkp),(85,erF JgR),(68,erF Jj2),(57,erF JeE),(75,erF JmT),(66,erF JwZ),(74,erF Jx6),(72,erF Jy2),(73,erF Jxy),(65,erF JxC),(55,erF Jyd),(49,erF Jne),(69,erF JiW),(58,erF JrS),(48,erF JrY),(36,erF Jrk),(47,erF JuL),(46,erF JqC),(33,erF JqG),(34,erF Jth),(84,erF Jnc),(177,erF Jq1)]
noncomputable def JzJ:List (FuncId×AFn):=[(130,erF Jre),(131,erF Jtc),(100,erF JqB),(118,erF Jsg),(188,erF JjL),(208,erF Jsf),(209,erF Jul),(210,erF Juz),(162,erF JrE),(191,erF Jqe),(190,erF JlF),(138,erF JqR),(106,erF Js9),(211,erF Jy1),(163,erF Jqr),(164,erF Jh3),(117,erF JqO),(94,erF JrD),(86,erF JrC),(76,erF Jq8),(37,erF JlV),(153,erF JnJ),(154,erF Jyg),(199,erF Jx4)]
noncomputable def JB1:List (FuncId×AFn):=[(156,erF JvK),(152,erF JtB),(196,erF JmL),(197,erF JxJ),(198,erF JmU),(155,erF Jtu),(107,erF JtJ),(89,erF Juf),(104,erF Jxa),(121,erF Jwl),(113,erF Jxk),(140,erF JxR),(151,erF JnZ),(195,erF Jl4),(150,erF JnW),(149,erF Jq3),(112,erF Jni),(148,erF Jq5),(111,erF JBn),(91,erF Jt1),(80,erF Jhi),(105,erF JpY),(88,erF JqL),(142,erF Jxp)]
noncomputable def JAY:List (FuncId×AFn):=[(139,erF Jqf),(141,erF Js3),(108,erF Jod),(144,erF Jvf),(193,erF Jmk),(145,erF JqQ),(231,erF JpU),(192,erF Jr4),(143,erF Jnp),(146,erF JtZ),(109,erF JrU),(194,erF Jy8),(147,erF Jrv),(110,erF Jmc),(90,erF JrP),(79,erF Jry),(171,erF Jwy),(218,erF JwP),(219,erF Juv),(170,erF JmC),(127,erF Jmf),(126,erF Jl8),(128,erF JvQ),(173,erF JrV)]
noncomputable def JAx:List (FuncId×AFn):=[(172,erF Jle),(176,erF Jwz),(220,erF JoZ),(174,erF Jx8),(221,erF JB0),(175,erF Jmy),(129,erF Jwo),(97,erF Ju4),(125,erF Job),(96,erF Jwk),(166,erF Jyf),(120,erF JvC),(203,erF Jx0),(239,erF JqE),(214,erF Jo3),(215,erF Jxs),(167,erF JjT),(122,erF JrN),(169,erF Jxn),(124,erF Jo8),(217,erF Jrl),(243,erF JqJ),(240,erF Jus),(216,erF JrW)]
noncomputable def JBB:List (FuncId×AFn):=[(168,erF Jwd),(123,erF JtT),(213,erF Jt8),(212,erF JnS),(165,erF JuK),(119,erF Jwb),(95,erF JpL),(83,erF Jvv),(81,erF JmM),(135,erF JkL),(189,erF JuA),(136,erF JxA),(102,erF JkV),(226,erF JpW),(184,erF Jl5),(228,erF Jm5),(229,erF JaC),(186,erF Jqj),(225,erF Jot),(182,erF Ju2),(181,erF Jt2),(230,erF JqY),(187,erF Jx5),(227,erF Jyi)]
noncomputable def JAE:List (FuncId×AFn):=[(185,erF JnF),(179,erF Jn9),(223,erF Jp4),(224,erF Jmh),(180,erF Jri),(183,erF JwQ),(222,erF JnG),(178,erF Jlx),(132,erF JA8),(133,erF Jmm),(134,erF Jk9),(101,erF JBA),(137,erF Juq),(103,erF Jwq),(87,erF JA5),(78,erF Jgj),(114,erF JvM),(200,erF Jr2),(232,erF JsW),(201,erF JmZ),(158,erF Jse),(157,erF JuX),(115,erF Jq7),(92,erF JqU)]
noncomputable def JAo:List (FuncId×AFn):=[(202,erF Jmq),(235,erF JfX),(233,erF Jff),(234,erF JgN),(204,erF Jp6),(159,erF JtL),(242,erF Jtr),(238,erF JtQ),(207,erF JrA),(245,erF Jnr),(246,erF JeN),(247,erF JgT),(244,erF Jnu),(241,erF JoV),(236,erF JoY),(205,erF Jq0),(237,erF Js1),(206,erF JwI),(160,erF Jlz),(161,erF Jq9),(116,erF Jta),(93,erF JvS),(82,erF Jes),(77,erF JeQ)]
noncomputable def JBH:List (FuncId×AFn):=[(67,erF JeH),(56,erF JxS),(45,erF Jgd),(32,erF JgM),(21,erF JAl),(43,erF JlS),(38,erF Jog),(35,erF Jmn),(29,erF Jqz),(22,erF Jt7),(9,erF Jrq),(3,erF Jd9),(17,erF Jkz),(27,erF JfZ),(26,erF J7u),(12,erF JiR),(13,erF JgV),(19,erF JwX),(6,erF Jet)]
noncomputable def fns:List (FuncId×AFn):=JAV++(JB3++(JzJ++(JB1++(JAY++(JAx++(JBB++(JAE++(JAo++(JBH)))))))))
noncomputable def fks:List (FuncId×JbD):=[(28,JIG J6 128)]
noncomputable def fps:List (FuncId×Prm):=[(31,Jst 13)]
abbrev PS:=FuncId->Option (List AV->List Blk->Option Res)
noncomputable def JDP(p:PS):J5t:=λf=>JI8 (lkA f fns) (lkA f fks) (lkA f fps) (p f)
def AE(l:List TE):Prop:= ∀p,JmE (AF (JDP p)) l
theorem ae0:AE []:=λ_=>trivial
theorem stp{i g S l f}(hf: ∀p,JDP p i=some (.fn (erF f)))(A:AE l)(q: ∀x,onO (JhW g x) (λy=>Jkk (TG.of l) f y.1 y.2 (Jc4 g))=S x)(hs:Jh9 g=true:=by rfl):AE (sigE i g S::l):=λp=>⟨JFX (hf p) (A p) hs q,A p⟩
end Go.Am
end
