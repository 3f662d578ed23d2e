/-
  Parts of a proof.
-/
import Derived.ChangeArms
import Derived.OpenShut
import Derived.ChangeBears
import Derived.ChangeStays
import Derived.Handed
import Derived.RowKit3
import Derived.WalkKit
import Derived.ProofKit
import Derived.Test.YtjbppmdhfbbchaaGreatM2
import Derived.Test.YtjbppmdhfbbchaaGreatM3
import Derived.Test.YtjbppmdhfbbchaaGreatM4
import Derived.Test.YtjbppmdhfbbchaaGreatM5
set_option linter.unusedSimpArgs false
set_option linter.unusedVariables false
section
namespace Go.Am
set_option linter.unusedVariables false
set_option maxRecDepth 20000
set_option maxHeartbeats 4000000
theorem JFS{B S:Int}{x1:Jx}(h:Ty.fit B S Jp x1)(x:BG B S:=by omega):Tot (J5y x1) λy=>Ty.fit B S tq4 y/\(y.2=0->J0 x1.1.2.2.1.2.1<=J0 y.1.1.2.2.1.2.1):=by
 unfold J5y;refine Ja (τ:=Jx) (λq=>(q,(0,0,(0,[],0),(0,[],0),([],[]),[],[],[]),[],0,[],false,[])) (λq=>Ty.fit B S Jp q/\(J0 x1.1.2.2.1.2.1<=J0 q.1.2.2.1.2.1)) (λq=>4097-J0 q.1.2.2.1.2.1) ?_ x1 rfl ?_
 ·rintro j ⟨o,z2⟩;unfold Jd5
  try dsimp only
  have:J0 x1.1.2.2.1.2.1=_:=Jm h.1.c.1.2.1;have:J0 j.1.2.2.1.2.1=_:=Jm o.1.2.2.1.2.1;refine .bind (JFQ o.1) λk g=>?_;have:J0 k.1.2.2.1.2.1<=16384:=g.1.1.c.1.2.1.1;have:=J4 (l:=k.1.2.2.1.2.1);have:J0 k.1.2.2.1.2.1=_:=Jm g.1.1.c.1.2.1;have:k.2.2.2=0->J0 k.1.2.2.1.2.1=J0 j.1.2.2.1.2.1/\J0 j.1.2.2.1.2.1<=4096:=g.2;refine .ne (λv=>?_) λv=>?_
  ·exact .some ⟨(⟨⟨fzr,Jb,fk0,Jb,trivial,Jb⟩,g.1.2.z.2.2⟩),om⟩
  ·refine .not (λw=>?_) λw=>?_
   ·exact .some ⟨(⟨⟨g.1.1.u,o.2⟩,fk0⟩),om⟩
   ·refine .bind (Jn8 (B:=B) (S:=S) (⟨o,g.1.1.u,g.1.2.z.1.u⟩)) λn e=>?_;have:J0 n.1.1.2.2.1.2.1<=16384:=e.1.1.1.c.1.2.1.1;have:=J4 (l:=n.1.1.2.2.1.2.1);have:J0 n.1.1.2.2.1.2.1=_:=Jm e.1.1.1.c.1.2.1;have:n.2=0->J0 n.1.1.2.2.1.2.1=J0 k.1.2.2.1.2.1+1:=e.2;refine .ne (λr=>?_) λr=>?_
    ·exact .some ⟨(⟨⟨fzr,Jb,fk0,Jb,trivial,Jb⟩,e.1.2⟩),om⟩
    ·exact .some ⟨n.1,rfl,⟨e.1.1.u,om⟩,om,om⟩
 ·have:J0 x1.1.2.2.1.2.1<=B:=h.1.c.1.2.1.1
  try dsimp only
  exact⟨h,om⟩
theorem J7U{B S:Int}{x1:J42}(h:Ty.fit B S tq4 x1)(J:BG B S:=by omega)(P:S<=9223372036854775807:=by omega):Tot (J2l x1) λy=>Ty.fit B S tq4 y/\(y.2=0->J0 x1.1.1.2.2.1.2.1<=J0 y.1.1.2.2.1.2.1):=by
 unfold J2l;refine .bind ((J1i h.1.1).eqn) λQ h1=>.not (λA=>?_) λA=>?_
 ·have:J0 x1.1.1.2.2.1.2.1<=B:=h.1.1.c.1.2.1.1;exact .some ⟨(⟨⟨fzr,Jb,fk0,Jb,trivial,Jb⟩,fkn 15⟩),om⟩
 ·have H:=J1r h.1.1 h1.2 A;have:J0 x1.1.1.2.2.1.2.1=_:=Jm h.1.1.c.1.2.1;have G:Ty.fit 4096 8192 J3 x1.1.1:=H.2;refine .ltf (λD=>?_) λD=>?_
  ·refine .ge (λw=>?_) λw=>?_
   ·exact .some ⟨(⟨⟨fzr,Jb,fk0,Jb,trivial,Jb⟩,fkn 1⟩),om⟩
   ·refine .bind ((J5v (B:=4096) (S:=8192) (x1:=(x1.1.1.2.2.2.1,x1.2)) (⟨G.d.1,h.2⟩)).eqn) λL I=>.ge (λz=>?_) λz=>?_
    ·exact .some ⟨(⟨h.1,fk0⟩),om⟩
    ·refine .bind (JFS h.1) λj e=>?_;have:J0 j.1.1.2.2.1.2.1=_:=Jm e.1.1.1.c.1.2.1;have:j.2=0->J0 x1.1.1.2.2.1.2.1<=J0 j.1.1.2.2.1.2.1:=e.2;refine .ne (λC=>?_) λC=>?_
     ·exact .some ⟨(⟨⟨fzr,Jb,fk0,Jb,trivial,Jb⟩,e.1.2⟩),om⟩
     ·refine .bind (Jq8 (B:=B) (S:=S) (⟨e.1.1.2,h.2⟩)) λN q=>.ne (λF=>?_) λF=>?_
      ·exact .some ⟨(⟨⟨fzr,Jb,fk0,Jb,trivial,Jb⟩,q.2⟩),om⟩
      ·refine .bind (J8N (B:=B) (S:=S) (⟨e.1.1.1,h.2⟩)) λO o=>.bind (JCf (B:=B) (S:=S) (⟨e.1.1.1.h.1,h.2,o,q.1.u⟩)) λK n=>.ne (λE=>?_) λE=>?_
       ·exact .some ⟨(⟨⟨fzr,Jb,fk0,Jb,trivial,Jb⟩,n.2⟩),om⟩
       ·refine .bind (JHs (B:=B) (S:=S) (⟨e.1.1.1.c.1,n.1.u,o⟩)) λM k=>.ne (λv=>?_) λv=>?_
        ·exact .some ⟨(⟨⟨fzr,Jb,fk0,Jb,trivial,Jb⟩,k.2⟩),om⟩
        ·refine .bind (JxT (B:=B) (S:=(S+8192)) (⟨e.1.1.1.u,k.1.u⟩)) λr g=>?_;have:J0 r.1.2.2.1.2.1=_:=Jm g.1.1.c.1.2.1;have:r.2=0->J0 r.1.2.2.1.2.1=J0 j.1.1.2.2.1.2.1:=g.2;refine .ne (λx=>?_) λx=>?_
         ·exact .some ⟨(⟨⟨fzr,Jb,fk0,Jb,trivial,Jb⟩,g.1.2⟩),om⟩
         ·exact .some ⟨(⟨⟨g.1.1.u,e.1.1.2⟩,fk0⟩),om⟩
  ·exact .some ⟨(⟨⟨fzr,Jb,fk0,Jb,trivial,Jb⟩,fkn 1⟩),om⟩
section
variable {B S:Int}
def J3y(k y:J6):Prop:=y.2.2.2.2.2.1=k.2.2.2.2.2.1/\y.2.2.1.1=k.2.2.1.1/\ ∃m,y.2.2.1.2.1=k.2.2.1.2.1++m
theorem J3y.refl(k:J6):J3y k k:=⟨rfl,rfl,[],(J59 _).symm⟩
theorem J3y.trans{a b c:J6}(h:J3y a b)(g:J3y b c):J3y a c:=by obtain⟨h1,h2,m,h3⟩:=h;obtain⟨g1,g2,n,e⟩:=g;exact⟨g1.trans h1,g2.trans h2,m++n,by rw[e,h3,Jb1]⟩
def Je5(p:J00)(id:Int):Prop:= ∃f∈p.2.1,f.1.1=id
theorem Je5.inP{p:J00}{id:Int}(h:Je5 p id)(hv:J0g p=some true)(n:Ty.fit B S JE p)(o:BS B S 0 0:=by omega)(q:B<=9223372036854775807:=by omega):InP p id:=by obtain⟨f,hf,e⟩:=h;obtain⟨j,hj⟩:=JiL.1 hf;have g:=n.2.1.2 f hf;refine InP.of hv (k:=j) (f:=f) ?_ e n (e▸g.1.1);unfold idx;rw[if_pos (Int.natCast_nonneg j)];simpa using hj
theorem Jno{l:J04}{n:Int}{y:J8w}(e:J38 (l,n)=some y)(c:y.2=0):y.1.1=l.1/\y.1.2.1=l.2.1:=by
 have g:Par (J38 (l,n)) λy=>y.2=0->y.1.1=l.1/\y.1.2.1=l.2.1:=by unfold J38;exact .bind λ_ _=>.not (λ_=>.some nofun) λ_=>.bind λ_ _=>.gt (λ_=>.some nofun) λ_=>.some λ_=>⟨rfl,rfl⟩
 exact g _ e c
theorem JCD{k:J6}{n:Int}{y:J6}(e:J2G (k,n)=some y):J3y k y/\y.2.2.2.1=k.2.2.2.1:=by
 have g:Par (J2G (k,n)) λy=>J3y k y/\y.2.2.2.1=k.2.2.2.1:=by
  unfold J2G;refine .bind λa ha=>.bind λb hb=>.eq (λc=>.some ⟨⟨rfl,?_,[],?_⟩,rfl⟩) λ_=>.some ⟨J3y.refl k,rfl⟩
  ·exact(Jno hb c).1
  ·rw[J59];exact(Jno hb c).2
 exact g _ e
theorem JBJ{l:List Jq}{x:Js}{y:J2x}(e:J0G (l,x)=some y)(h:x.2.2.1=0)(c:y.2=0):y.1=l:=by
 have g:Par (J0G (l,x)) λy=>y.2=0->y.1=l:=by unfold J0G;exact .bind λ_ _=>.not (λ_=>.some nofun) λ_=>.bind λ_ _=>.not (λ_=>.some nofun) λ_=>.eq (λ_=>.some λ_=>rfl) λc=>absurd h c
 exact g _ e c
theorem JEh{x:Jza}{y:Jg1}(e:J1m x=some y)(c:y.2.2=0)(C:x.2.2.2.1=0):J3y x.1 y.1:=by
 have D:Par (J1m x) λy=>y.2.2=0->J3y x.1 y.1:=by
  obtain⟨k,n,B,M,L,I,r⟩:=x;dsimp only at C;subst C;unfold J1m;dsimp only;have z: ∀{a b:Int} {g:Jwh} {v:JrU} {h:J2x} {E:List T_api_Row},J1p (k.2.2.1,(n,B,0,a,b,r))=some g->g.2.2=0->J0N (g.1,g.2.1)=some v->J0G (k.2.2.2.2.2.1,v.1)=some h->h.2=0->J3y k (k.1,k.2.1,g.1,k.2.2.2.1,k.2.2.2.2.1,h.1,E,k.2.2.2.2.2.2.2):=fun{a b g v h E} q o A w j=>by have F:=JKj q o A w j;obtain⟨_,_,a3,_⟩:=Jde q o;subst a3;exact⟨JBJ w (by rw[F]) j,rfl,_,rfl⟩
  refine .bind λ_ _=>.not (λ_=>.some nofun) λ_=>.gt (λc=>absurd c (by decide)) λ_=>.bind λJ _=>.ite (λ_=>.bind λK _=>?_) λ_=>?_
  all_goals
   refine .bind λg q=>.ne (λc=>.some λd=>absurd d c) λo=>.bind λv A=>.bind λh w=>.ne (λc=>.some λd=>absurd d c) λj=>.bind λG _=>.ne (λc=>.some λd=>absurd d c) λH=>.some λ_=>z q o A w j
 exact D _ e c
theorem JwR{x:Jg1}{y:J1l}(e:J3C x=some y)(c:y.2=0):J3y x.1 y.1:=by
 have g:Par (J3C x) λy=>y.2=0->J3y x.1 y.1:=by
  unfold J3C;refine .bind λ_ _=>.not (λ_=>.some nofun) λ_=>.ltf (λ_=>.gef (λ_=>.ltf (λ_=>.bind λ_ _=>.gt (λ_=>.some nofun) λ_=>.bind λj hj=>.ge (λ_=>.bind λp hp=>.ne (λc=>.some λd=>absurd d c) λ_=>?_) λ_=>?_) λ_=>.some nofun) λ_=>.some nofun) λ_=>.some nofun
  all_goals
   refine .bind λn h=>.ne (λc=>.some λd=>absurd d c) λk=>.some λ_=>JEh h k rfl
 exact g _ e c
theorem JBw{x:JOI}{y:J42}(e:J3Q x=some y)(c:y.2=0):J3y x.2.1 y.1.1:=by
 have g:Par (J3Q x) λy=>y.2=0->J3y x.2.1 y.1.1:=by unfold J3Q;exact .bind λ_ _=>.bind λ_ _=>.ne (λc=>.some λd=>absurd d c) λ_=>.bind λj h4=>.ne (λc=>.some λd=>absurd d c) λh=>.some λ_=>JwR h4 h
 exact g _ e c
theorem Jr7{x:J6}{y:J6×Jy×Bool×Int}(e:J5u x=some y)(c:y.2.2.2=0):J3y x y.1:=by
 have g:Par (J5u x) λy=>y.2.2.2=0->J3y x y.1:=by
  unfold J5u;refine .bind λ_ _=>.not (λ_=>.some nofun) λ_=>.lt (λ_=>.some λ_=>J3y.refl _) λ_=>.bind λv _=>.bind λ_ _=>.bind λ_ _=>.not (λ_=>.bind λd _=>.some λ_=>?_) λ_=>.bind λj h=>.some λ_=>?_
  ·exact⟨rfl,rfl,[],(J59 _).symm⟩
  ·obtain⟨⟨a1,a2,m,a3⟩,_⟩:=JCD h;exact⟨a1,a2,m,a3⟩
 exact g _ e c
theorem JGB{x:Jx}{y:J42}(e:J5y x=some y)(c:y.2=0):J3y x.1 y.1.1:=by
 have g:Par (J5y x) λy=>y.2=0->J3y x.1 y.1.1:=by unfold J5y;refine .while (λz=>J3y x.1 z.1.1) (J3y.refl _) ?_;rintro⟨s,z⟩ hz;dsimp only at hz;unfold Jd5;dsimp only;exact .bind λk h3=>.ne (λc=>.some λd=>absurd d c) λh=>.not (λ_=>.some λ_=>hz.trans (Jr7 h3 h)) λ_=>.bind λn h4=>.ne (λc=>.some λd=>absurd d c) λj=>.some ((hz.trans (Jr7 h3 h)).trans (JBw h4 j))
 exact g _ e c
theorem Jt3{p:J00}{x:Jy}{y:Int×Int×Int×List JP}(e:J6z (p,x)=some y)(c:y.2.2.1=0):y.2.2.2=p.2.1++[(x,false,0,true)]:=by
 have h:Par (J6z (p,x)) λy=>y.2.2.1=0->y.2.2.2=p.2.1++[(x,false,0,true)]:=by
  unfold J6z;refine .bind λ_ _=>.not (λ_=>.some nofun) λ_=>.bind λ_ _=>.ne (λc=>.some λd=>absurd d c) λ_=>.bind λ_ _=>.ge (λ_=>.some nofun) λ_=>.eq (λ_=>.some nofun) λ_=>.bind λk h5=>.bind λn g=>.some λ_=>?_;have j:k=p.2.1:=by
   unfold J3g at h5;split at h5
   ·injection h5 with h5;exact h5.symm
   ·cases h5
  subst j;unfold JN at g;split at g
  ·injection g with g;exact g.symm
  ·cases g
 exact h _ e c
theorem JEo{l:List JP}{i:Nat}{f g:JP}{id:Int}(hi:lat l i=some f)(o:g.1=f.1)(h: ∃a∈l,a.1.1=id): ∃a∈J0w l i g,a.1.1=id:=by
 obtain⟨a,ha,e⟩:=h;obtain⟨j,hj⟩:=JiL.1 ha;unfold lat at hi;have n:=(J9N.1 hi).1;by_cases k:i=j
 ·subst k;rw[hi]at hj;injection hj with hj;subst hj
  exact⟨g,JiL.2 ⟨i,by unfold J0w;rw[JpO n]⟩,by rw[o];exact e⟩
 ·exact⟨a,JiL.2 ⟨j,by unfold J0w;rw[JlL k];exact hj⟩,e⟩
theorem JyU{x:JLu}{y:J1l}(e:J4e x=some y)(c:y.2=0):J3y x.1 y.1/\Je5 y.1.2.2.2.1 x.2.1:=by
 have q:Par (J4e x) λy=>y.2=0->J3y x.1 y.1/\Je5 y.1.2.2.2.1 x.2.1:=by
  unfold J4e;refine .bind λ_ _=>.not (λ_=>.some nofun) λ_=>.ltf (λ_=>.ge (λ_=>.some nofun) λ_=>.bind λ_ _=>.lt (λ_=>.some nofun) λ_=>.bind λ_ _=>.gt (λ_=>.some nofun) λ_=>.bind λo h5=>.ne (λc=>.some λd=>absurd d c) λv=>.bind λw _=>.ite (λ_=>.bind λ_ _=>.bind λn A=>.bind λ_ _=>.bind λh j=>?_) λ_=>.some λ_=>?_) λ_=>.some nofun
  ·have ep:=Jt3 h5 v;have B: ∃a∈o.2.2.2,a.1.1=x.2.1:=by rw[ep];exact⟨_,List.mem_append_right _ (Jua.2 rfl),rfl⟩
   have h2:=JEo (g:=(n.1,true,n.2.2)) A rfl B;have h3:=JEo (g:=(h.1,h.2.1,w.1.2.1,h.2.2.2)) j rfl h2;refine .while (λz=>z.2.1=x.1/\ ∃a∈z.2.2.2.2.1,a.1.1=x.2.1) ⟨rfl,h3⟩ ?_;rintro⟨i,k,p,C,D,a,b,r,rest⟩ ⟨hk,hz⟩;dsimp only at hk hz;subst hk;unfold Jb2;dsimp only;exact .lt (λ_=>.bind λ_ _=>.ne (λ_=>.bind λ_ _=>.bind λ_ _=>.some ⟨rfl,hz⟩) λ_=>.some ⟨rfl,hz⟩) λ_=>.some λ_=>⟨⟨rfl,rfl,[],(J59 _).symm⟩,hz⟩
  ·have ep:=Jt3 h5 v;refine⟨⟨rfl,rfl,[],(J59 _).symm⟩,?_⟩;show∃a∈o.2.2.2,a.1.1=x.2.1;rw[ep];exact⟨_,List.mem_append_right _ (Jua.2 rfl),rfl⟩
 exact q _ e c
theorem Jgp{x:J2A}{y:J5d}(e:J3f x=some y)(c:y.2=0):y.1.1=x.2:=by
 have g:Par (J3f x) λy=>y.2=0->y.1.1=x.2:=by unfold J3f;refine .ltf (λ_=>.ge (λ_=>.some nofun) λ_=>.bind λj _=>.eq (λ_=>.bind λh h3=>.some λ_=>?_) λ_=>.eq (λ_=>.ne (λ_=>.some nofun) λc=>.some λ_=>c) λc=>.some λd=>absurd d c) λ_=>.some nofun;unfold Ja9 at h3;injection h3 with h3;subst h3;rfl
 exact g _ e c
theorem JBk{x:(List T_api_Row)×Int×Int×List UInt8}{y:J5d}(e:J4H x=some y)(c:y.2=0):y.1.1=x.2.1:=by
 have g:Par (J4H x) λy=>y.2=0->y.1.1=x.2.1:=by unfold J4H;exact .bind λ_ _=>.not (λ_=>.some nofun) λ_=>.ltf (λ_=>.gef (λ_=>.lt (λ_=>.some nofun) λ_=>.bind λj h3=>.ne (λc=>.some λd=>absurd d c) λh=>.gt (λ_=>.bind λ_ _=>.gt (λ_=>.some nofun) λ_=>.bind λ_ _=>.lt (λ_=>.some nofun) λ_=>.some λ_=>Jgp h3 h) λ_=>.bind λ_ _=>.lt (λ_=>.some nofun) λ_=>.some λ_=>Jgp h3 h) λ_=>.some nofun) λ_=>.some nofun
 exact g _ e c
theorem JCG{x:JMw}{y:J5d}(e:J4F x=some y)(c:y.2=0):y.1.1=x.1.1:=by
 have h: ∀{p:Jy} {d:J1u} {y:J5d},J3V (p,d)=some y->y.2=0->y.1.1=p.1:=fun{p d y} e c=>by
  have g:Par (J3V (p,d)) λy=>y.2=0->y.1.1=p.1:=by unfold J3V;exact .bind λ_ _=>.not (λ_=>.some nofun) λ_=>.ne (λ_=>.some nofun) λ_=>.bind λ_ _=>.bind λ_ _=>.not (λ_=>.some nofun) λ_=>.bind λ_ _=>.bind λ_ _=>.some λ_=>rfl
  exact g _ e c
 have g:Par (J4F x) λy=>y.2=0->y.1.1=x.1.1:=by unfold J4F;exact .bind λ_ _=>.nof (λ_=>.bind λ_ _=>.not (λ_=>.some nofun) λ_=>.bind λ_ _=>.ne (λc=>.some λd=>absurd d c) λ_=>.ne (λ_=>.some nofun) λ_=>.ne (λ_=>.some nofun) λ_=>.bind λk h5=>.ne (λc=>.some λd=>absurd d c) λj=>.some λ_=>by have q:=h h5 j;exact q) λ_=>.some nofun
 exact g _ e c
theorem JHO{x:Ju6}{y:J5d}(e:J5A x=some y)(c:y.2=0):y.1.1=x.2.1.1:=by
 have j: ∀{y:JKz},J5I (x.1,x.2.1,x.2.2)=some y->y.2.2=0->y.1.1=x.2.1.1:=fun{y} e c=>by
  have g:Par (J5I (x.1,x.2.1,x.2.2)) λy=>y.2.2=0->y.1.1=x.2.1.1:=by unfold J5I;refine .bind λ_ _=>.ne (λc=>.some λd=>absurd d c) λ_=>.while (λz=>z.2.2.2.1.1=x.2.1.1) rfl ?_;rintro⟨l,i,k,p,o⟩ hz;dsimp only at hz;unfold Jd7;dsimp only;exact .lt (λ_=>.bind λ_ _=>.bind λn h5=>.ne (λc=>.some λd=>absurd d c) λh=>.some ((JCG h5 h).trans hz)) λ_=>.some λ_=>hz
  exact g _ e c
 have g:Par (J5A x) λy=>y.2=0->y.1.1=x.2.1.1:=by unfold J5A;exact .bind λa ha=>.some λc=>j ha c
 exact g _ e c
theorem JaE{x y:J42}(hx:Ty.fit B S JE x.1.1.2.2.2.1)(e:J2l x=some y)(c:y.2=0):J3y x.1.1 y.1.1/\Je5 y.1.1.2.2.2.1 x.2:=by
 have o:Par (J2l x) λy=>y.2=0->J3y x.1.1 y.1.1/\Je5 y.1.1.2.2.2.1 x.2:=by
  unfold J2l;refine .bind λ_ _=>.not (λ_=>.some nofun) λ_=>.ltf (λ_=>.ge (λ_=>.some nofun) λ_=>.bind λj hj=>.ge (λc=>.some λ_=>⟨J3y.refl _,?_⟩) λ_=>.bind λJ h4=>.ne (λc=>.some λd=>absurd d c) λF=>.bind λ_ _=>.ne (λc=>.some λd=>absurd d c) λ_=>.bind λ_ _=>.bind λG C=>.ne (λc=>.some λd=>absurd d c) λA=>.bind λH D=>.ne (λc=>.some λd=>absurd d c) λv=>.bind λI E=>.ne (λc=>.some λd=>absurd d c) λw=>.some λ_=>?_) λ_=>.some nofun
  ·have k:Par (J1v (x.1.1.2.2.2.1,x.2)) λj=>0<=j->Je5 x.1.1.2.2.2.1 x.2:=by
    unfold J1v;refine .bind λ_ _=>.not (λ_=>.some λh=>absurd h (by decide)) λ_=>.bind λj hj=>.some ?_;have g:Par (J1M (x.1.1.2.2.2.1,x.2)) λj=>0<=j->Je5 x.1.1.2.2.2.1 x.2:=by unfold J1M;refine .while (λz=>z.1=x.2/\z.2.2=x.1.1.2.2.2.1) ⟨rfl,rfl⟩ ?_;rintro⟨a,i,q⟩ ⟨h1,h2⟩;dsimp only at h1 h2;subst h1;subst h2;unfold J9g;dsimp only;exact .lt (λ_=>.bind λf hf=>.eq (λc=>.some λ_=>⟨f,zQ9 (J5G hf).2,c⟩) λ_=>.some ⟨rfl,rfl⟩) λ_=>.some λh=>absurd h (by decide)
    exact g _ hj
   exact k _ hj oo
  ·obtain⟨a1,a2⟩:=JyU E w;refine⟨(JGB h4 F).trans a1,?_⟩;have r:=JHO D v;have n:=JBk C A;dsimp only at a2 r n;rw[r,n]at a2;exact a2
 exact o _ e c
end
theorem J5m{B S x1:Int}(h:Ty.fit B S (.i .i64) x1)(g:BS B S 0 0:=by omega):Tot (J2M x1) λy=>Ty.fit 0 0 J03 y:=by
 unfold J2M;refine .ne (λe=>?_) λe=>?_
 ·refine .bind (J08 h) λj h3=>.some h3.1
 ·exact .some (⟨fkn 1,fk0,fk0,⟨trivial,Jd⟩,fk0⟩)
theorem J8v{B S:Int}{x1:JaK}(h:Ty.fit B S JyG x1)(z:BC B S 0 0:=by omega):Tot (J3G x1) λy=>Ty.fit 0 0 (.pr J5 .b) y:=by
 unfold J3G;refine .bind ((J4K h.1).eqn) λD h1=>.ite (λn=>?_) λn=>?_
 ·have v3:=J3X h.1 h1.2 n;have:=J4 (l:=x1.1.1);have:J0 x1.1.1=_:=Jm h.1.1;have:=J4 (l:=x1.1.2);have:J0 x1.1.2=_:=Jm h.1.2;have g:Ty.fit 1024 0 JD x1.1:=v3.2;refine Ja (τ:=Int) (λq=>(x1.2,q,x1.1,0,(0,0),0)) (λq=>(Ty.fit 0 0 (.i .i64) q/\0<=q/\(q<=J0 x1.1.2\/q<=0))) (λq=>J0 x1.1.2-q) ?_ 0 rfl ?_
  ·rintro e ⟨r,x,w⟩;unfold JeJ
   try dsimp only
   have:=J1.1 r;refine .lt (λj=>?_) λj=>?_
   ·refine .bind (Jg g.2) λC v=>.eq (λo=>?_) λo=>?_
    ·refine .bind (Jg g.2) λA k=>.some (⟨k.1,trivial⟩)
    ·have:=Jf e 1;exact .some ⟨J2 .i64 e 1,rfl,⟨J7,om,om⟩,om,om⟩
   ·exact .some (⟨fzr,trivial⟩)
  ·try dsimp only
   exact⟨fk0,oo,oo⟩
 ·exact .some (⟨fzr,trivial⟩)
section
variable {B S:Int}
theorem Jg6{x1:Jdn}(h:Ty.fit B S JOs x1)(e:BS B S 0 0:=by omega)(g:B<=17179869183:=by omega):Tot (J77 x1) λy=>Ty.fit (B+1) S (.l (.i .i64)) y/\J0 y<=J0 x1.1+1:=by obtain⟨un,n⟩:=x1;obtain⟨h,hn⟩:=h;have o:J0 un<=B:=h.1;have q:Tot (J77 (un,n)) λy=>Ty.fit (J0 un+1) 0 (.l (.i .i64)) y:=JNL (b:=J0 un) (un:=un) ⟨J0U _,h.2⟩ hn oo;exact q.mono λy hy=>⟨hy.u,hy.1⟩
end
theorem JiB{B S:Int}{x1:JaK}(h:Ty.fit B S JyG x1)(a2:BS B S 0 0:=by omega)(hB:B<=8589934591:=by omega):Tot (J89 x1) λy=>Ty.fit (2*B) 0 (.l (.i .i64)) y:=by
 unfold J89;refine .bind (J8v (B:=B) (S:=S) (h)) λQ h1=>.not (λU=>?_) λU=>?_
 ·exact .some Jb
 ·have:J0 x1.1.1<=B:=h.1.1.1;have:=J4 (l:=x1.1.1);have:J0 x1.1.1=_:=Jm h.1.1;refine Ja (τ:=Jdn) (λq=>(x1.2,q.1,q.2,x1.1,Q.1)) (λq=>(Ty.fit 0 0 (.i .i64) q.2/\0<=q.2/\(q.2<=J0 x1.1.1\/q.2<=0))/\(Ty.fit B 0 (.l (.i .i64)) q.1/\J0 q.1<=1*q.2+0)) (λq=>J0 x1.1.1-q.2) ?_ ([],0) rfl ?_
  ·rintro⟨e,j⟩ C;dsimp only at C;obtain⟨⟨T,w9,V⟩,v,w8⟩:=C;unfold JmJ
   try dsimp only
   have:=J1.1 T;refine .lt (λI=>?_) λI=>?_
   ·refine .bind (Jg h.1.1) λy4 K=>.bind (J4j (B:=0) (S:=0) (⟨K.1,h1.1⟩)) λy5 Z=>.ite (λP=>?_) λP=>?_
    ·refine .bind (Jg h.1.1) λy6 F=>.bind (Jg6 (B:=B) (S:=0) (⟨v,F.1.1⟩)) λo z=>?_;have w:Ty.fit (B+1) 0 (.l (.i .i64)) o:=z.1.u;have:J0 o<=(B+1):=w.1;have:J0 e<=B:=v.1;have:J0 o<=J0 e+1:=z.2;have J:Ty.fit B 0 (.l (.i .i64)) o:=⟨(by omega:J0 o<=B),λx hx=>w.2 x hx⟩;have:=Jf j 1;exact .some ⟨(o,J2 .i64 j 1),rfl,⟨⟨J7,om,om⟩,J,om⟩,om,om⟩
    ·have:=Jf j 1;exact .some ⟨(e,J2 .i64 j 1),rfl,⟨⟨J7,om,om⟩,v,om⟩,om,om⟩
   ·refine .inr ?_;have:J0 x1.1.2<=B:=h.1.2.1;have:=J4 (l:=x1.1.2);have:J0 x1.1.2=_:=Jm h.1.2;have:J0 e<=B:=v.1;refine Ja (τ:=Jdn) (λq=>(x1.2,q.1,q.2,x1.1,Q.1)) (λq=>(Ty.fit 0 0 (.i .i64) q.2/\0<=q.2/\(q.2<=J0 x1.1.2\/q.2<=0))/\(Ty.fit (2*B) 0 (.l (.i .i64)) q.1/\J0 q.1<=1*q.2+J0 e)) (λq=>J0 x1.1.2-q.2) ?_ (e,0) rfl ?_
    ·rintro⟨r,k⟩ D;dsimp only at D;obtain⟨⟨M,Y,a0⟩,n,a1⟩:=D;unfold Jo6
     try dsimp only
     have:=J1.1 M;refine .lt (λR=>?_) λR=>?_
     ·refine .bind (Jg h.1.2) λy9 a5=>.ne (λO=>?_) λO=>?_
      ·refine .bind (Jg h.1.2) λW G=>.bind (J4j (B:=0) (S:=0) (⟨G.1,h1.1⟩)) λa6 a4=>.ite (λL=>?_) λL=>?_
       ·refine .bind (Jg h.1.2) λa3 N=>.bind (Jg6 (B:=(2*B)) (S:=0) (⟨n,N.1.1⟩)) λg E=>?_;have A:Ty.fit (2*B+1) 0 (.l (.i .i64)) g:=E.1.u;have:J0 g<=(2*B+1):=A.1;have:J0 g<=J0 r+1:=E.2;have H:Ty.fit (2*B) 0 (.l (.i .i64)) g:=⟨(by omega:J0 g<=(2*B)),λx hx=>A.2 x hx⟩;have:=Jf k 1;exact .some ⟨(g,J2 .i64 k 1),rfl,⟨⟨J7,om,om⟩,H,om⟩,om,om⟩
       ·have:=Jf k 1;exact .some ⟨(r,J2 .i64 k 1),rfl,⟨⟨J7,om,om⟩,n,om⟩,om,om⟩
      ·exact .some n
     ·exact .some n
    ·try dsimp only
     exact⟨⟨fk0,oo,oo⟩,v.u,oo⟩
  ·have:J0 ([]:List Int)=0:=rfl
   try dsimp only
   exact⟨⟨fk0,oo,oo⟩,Jb,oo⟩
theorem Jwb{B S:Int}{x1:J1l}(h:Ty.fit B S tq1 x1)(z:BH B S:=by omega)(F:B<=8589934591:=by omega):Tot (J8u x1) λy=>Ty.fit 0 0 (.pr (.i .i64) (.pr JY .b)) y:=by
 unfold J8u;refine .bind (J8v (B:=B) (S:=S) (⟨h.1.e.1,h.2⟩)) λw h1=>.not (λr=>?_) λr=>?_
 ·exact .some (⟨fk0,fzr,trivial⟩)
 ·refine .bind (JiB (B:=B) (S:=S) (⟨h.1.e.1,h.2⟩)) λg h3=>?_;have:J0 g<=(2*B):=h3.1;have:=J4 (l:=g);refine Ja (τ:=Int) (λq=>(g,J0 g,q,x1.1,(0,0),w.1)) (λq=>(Ty.fit 0 0 (.i .i64) q/\0<=q/\(q<=J0 g\/q<=0))) (λq=>J0 g-q) ?_ 0 rfl ?_
  ·rintro j ⟨v,A,E⟩;unfold JeH
   try dsimp only
   have:=J1.1 v;refine .lt (λo=>?_) λo=>?_
   ·refine .bind (Jg h3) λC k=>.bind (JiY (B:=B) (S:=S) (⟨h.1,k.1⟩)) λD x=>.ite (λn=>?_) λn=>?_
    ·exact .some (⟨k.1,h1.1.2.1,trivial⟩)
    ·have:=Jf j 1;exact .some ⟨J2 .i64 j 1,rfl,⟨J7,om,om⟩,om,om⟩
   ·exact .some (⟨fk0,fzr,trivial⟩)
  ·try dsimp only
   exact⟨fk0,oo,oo⟩
theorem Jow{B S:Int}{x1:JDq}(h:Ty.fit B S JOd x1)(z:BS B S 0 0:=by omega)(E:B<=9223372036854775807:=by omega):Tot (J82 x1) λy=>Ty.fit 0 0 (.i .i64) y/\(0<=y/\y<=J0 x1.1.2):=by
 unfold J82;refine .bind (J5H (B:=B) (S:=S) (⟨h.1,h.2.1,h.c.1⟩)) λF h1=>.eq (λr=>?_) λr=>?_
 ·have:J0 x1.1.2<=B:=h.1.2.1;have:=J4 (l:=x1.1.2);have:J0 x1.1.2=_:=Jm h.1.2;exact .some ⟨(J3M h.1.2.1 oo),om⟩
 ·have:J0 x1.1.2<=B:=h.1.2.1;have:=J4 (l:=x1.1.2);have:J0 x1.1.2=_:=Jm h.1.2;refine Ja (τ:=Int) (λq=>(q,x1.1,x1.2)) (λq=>(Ty.fit 0 0 (.i .i64) q/\0<=q/\(q<=J0 x1.1.2\/q<=0))) (λq=>J0 x1.1.2-q) ?_ 0 rfl ?_
  ·rintro e ⟨g,v,x⟩;unfold Jil
   try dsimp only
   have:=J1.1 g;refine .lt (λo=>?_) λo=>?_
   ·refine .bind (Jg h.1.2) λD k=>.ite (λj=>?_) λj=>?_
    ·have A:=J1S.1 j;refine .bind (J5H (B:=B) (S:=S) (⟨h.1,k.1.1,k.1.2.1⟩)) λC w=>.eq (λn=>?_) λn=>?_
     ·exact .some ⟨g,om⟩
     ·have:=Jf e 1;exact .some ⟨J2 .i64 e 1,rfl,⟨J7,om,om⟩,om,om⟩
    ·have:=Jf e 1;exact .some ⟨J2 .i64 e 1,rfl,⟨J7,om,om⟩,om,om⟩
   ·exact .some ⟨(J3M h.1.2.1 oo),om⟩
  ·try dsimp only
   exact⟨fk0,oo,oo⟩
theorem Jxd{B S:Int}{x1:JDq}(h:Ty.fit B S JOd x1)(ab:BG B S:=by omega):Tot (J8o x1) λy=>Ty.fit 4098 0 (.pr JD JGy) y:=by
 unfold J8o;refine .bind ((J4K h.1).eqn) λy2 h1=>.not (λM=>?_) λM=>?_
 ·exact .some (⟨fzr,trivial,fkn 17⟩)
 ·have v3:=J3X h.1 h1.2 M;have:J0 x1.1.1<=B:=h.1.1.1;have:=J4 (l:=x1.1.1);have:J0 x1.1.1=_:=Jm h.1.1;have:J0 x1.1.2<=B:=h.1.2.1;have:J0 x1.1.2=_:=Jm h.1.2;have e:Ty.fit 1024 0 JD x1.1:=v3.2;refine .bind (Jed h.2) λy3 a4=>.not (λQ=>?_) λQ=>?_
  ·exact .some (⟨fzr,trivial,fkn 1⟩)
  ·refine .bind (J8v (B:=1024) (S:=0) (⟨e,h.2.1⟩)) λy4 a2=>.ite (λL=>?_) λL=>?_
   ·refine .not (λG=>?_) λG=>?_
    ·exact .some (⟨fzr,trivial,fkn 15⟩)
    ·have a8:=J1S.1 G;refine .ite (λH=>?_) λH=>?_
     ·exact .some (⟨e.u,trivial,fk0⟩)
     ·refine .bind (J5H (B:=1024) (S:=0) (⟨e,h.2.1,h.c.1⟩)) λy5 a1=>.ge (λJ=>?_) λJ=>?_
      ·exact .some (⟨e.u,trivial,fk0⟩)
      ·have:=Jf (J0 x1.1.1) (J0 x1.1.2);refine .eq (λW=>?_) λW=>?_
       ·exact .some (⟨fzr,trivial,fkn 21⟩)
       ·refine .bind (Jow (B:=1024) (S:=0) (⟨e,h.2⟩)) λN r=>?_;have:=J1.1 r.1;have:0<=N/\N<=J0 x1.1.2:=r.2;refine .bind (J97 e.2) λn g=>.clo g.1 oo (by decide) ?_;have:J0 n<=1024:=g.1.1;have:=J4 (l:=n);have:J0 n=_:=Jm g.1;refine .bind (J0K (B:=1025) (Bl:=1024) (Bm:=1) (S:=0) (J0 n) 1 g.1 (J0n (B:=1) (S:=0) (t:=J5) oo h.2)) λU D=>.bind (J6A e.2) λq o=>?_;have:J0 U=_:=Jm D.1;have:J0 q=_:=Jm o.1;refine .bind (J0K (B:=2049) (Bl:=1025) (Bm:=1024) (S:=0) (J0 U) (J0 q) D.1 o.1) λaa Z=>.bind (J78 (B:=2049) (S:=0) (⟨e.1.u,Z.1⟩)) λT P=>?_;have A:Ty.fit 4098 0 JD T:=P.1.u;refine .bind (J5H (B:=4098) (S:=0) (⟨A,h.2.1,h.c.1⟩)) λa3 a7=>.some (⟨A,trivial,fk0⟩)
   ·refine .ite (λY=>?_) λY=>?_
    ·exact .some (⟨e.u,trivial,fk0⟩)
    ·refine .bind (J5H (B:=1024) (S:=0) (⟨e,h.2.1,h.c.1⟩)) λa6 a0=>.ge (λK=>?_) λK=>?_
     ·exact .some (⟨e.u,trivial,fk0⟩)
     ·have:=Jf (J0 x1.1.1) (J0 x1.1.2);refine .eq (λR=>?_) λR=>?_
      ·exact .some (⟨fzr,trivial,fkn 21⟩)
      ·refine .bind (Jow (B:=1024) (S:=0) (⟨e,h.2⟩)) λv E=>?_;have:=J1.1 E.1;have:0<=v/\v<=J0 x1.1.2:=E.2;refine .bind (J97 e.2) λj k=>.clo k.1 oo (by decide) ?_;have:J0 j<=1024:=k.1.1;have:=J4 (l:=j);have:J0 j=_:=Jm k.1;refine .bind (J0K (B:=1025) (Bl:=1024) (Bm:=1) (S:=0) (J0 j) 1 k.1 (J0n (B:=1) (S:=0) (t:=J5) oo h.2)) λw F=>.bind (J6A e.2) λx z=>?_;have:J0 w=_:=Jm F.1;have:J0 x=_:=Jm z.1;refine .bind (J0K (B:=2049) (Bl:=1025) (Bm:=1024) (S:=0) (J0 w) (J0 x) F.1 z.1) λa5 O=>.bind (J78 (B:=2049) (S:=0) (⟨e.1.u,O.1⟩)) λI V=>?_;have C:Ty.fit 4098 0 JD I:=V.1.u;refine .bind (J5H (B:=4098) (S:=0) (⟨C,h.2.1,h.c.1⟩)) λa9 ac=>.some (⟨C,trivial,fk0⟩)
theorem Jvv{B S:Int}{x1:JX}(h:Ty.fit B S JD x1)(G:BC B S 0 0:=by omega):Tot (J8A x1) λy=>Ty.fit 1024 0 (.l (.i .i64)) y:=by
 unfold J8A;refine .bind ((J4K h).eqn) λJ h1=>.ite (λD=>?_) λD=>?_
 ·have v3:=J3X h h1.2 D;have:=J4 (l:=x1.1);have:J0 x1.1=_:=Jm h.1;have:=J4 (l:=x1.2);have:J0 x1.2=_:=Jm h.2;have C:Ty.fit 1024 0 JD x1:=v3.2;refine Ja (τ:=Jdn) (λq=>(q.1,q.2,x1)) (λq=>(Ty.fit 0 0 (.i .i64) q.2/\0<=q.2/\(q.2<=J0 x1.2\/q.2<=0))/\(Ty.fit 1024 0 (.l (.i .i64)) q.1/\J0 q.1<=1*q.2+0)) (λq=>J0 x1.2-q.2) ?_ ([],0) rfl ?_
  ·rintro⟨g,j⟩ r;dsimp only at r;obtain⟨⟨A,E,H⟩,k,F⟩:=r;unfold Jem
   try dsimp only
   have:=J1.1 A;refine .lt (λw=>?_) λw=>?_
   ·refine .bind (Jg C.2) λI v=>.bind (Jg6 (B:=1024) (S:=0) (⟨k,v.1.1⟩)) λe o=>?_;have n:Ty.fit 1025 0 (.l (.i .i64)) e:=o.1.u;have:J0 e<=1025:=n.1;have:=J4 (l:=e);have:J0 g<=1024:=k.1;have:=J4 (l:=g);have:J0 e<=J0 g+1:=o.2;have z:Ty.fit 1024 0 (.l (.i .i64)) e:=⟨(by omega:J0 e<=1024),λx hx=>n.2 x hx⟩;have:=Jf j 1;exact .some ⟨(e,J2 .i64 j 1),rfl,⟨⟨J7,om,om⟩,z,om⟩,om,om⟩
   ·exact .some k
  ·have:J0 ([]:List Int)=0:=rfl
   try dsimp only
   exact⟨⟨fk0,oo,oo⟩,Jb,oo⟩
 ·exact .some Jb
section
variable {B S:Int}
theorem JOO(k:Nat): ∀{t:JX} {e:List Int} {n:Int},Ty.fit B S JD t->Ty.fit 1024 0 (.l (.i .i64)) e->1<=J0 e->J0 e<=n->n<=1024->n-J0 e<k->0<=B->0<=S->B<=8589934591->Tot (JiD J5l k (t,e,n)) λy=>Ty.fit 1024 0 (.l (.i .i64)) y:=by
 induction k with
 |zero=>intro t e n h1 h2 h3 h4 h5 J;omega
 |succ k ih=>
  intro t e n h1 h2 h3 h4 h5 J z w K;show Tot (J5l (JiD J5l k) (t,e,n)) _;unfold J5l;dsimp only;have Q:=J0y (J0 e) 1;refine .bind (Jg h2 oo (by show _<J0 e;omega)) λL I=>.bind (JiB (B:=B) (S:=S) (x1:=(t,L)) ⟨h1,I.1⟩) λg h=>.eq (λc=>?_) λc=>?_
  ·have G:J0 g<=2*B:=Jfi h.1 oo;refine Ja (τ:=Int) (λq=>(e,g,J0 g,q,t)) (λq=>0<=q/\q<=J0 g) (λq=>J0 g-q) ?_ 0 rfl ⟨J0U _,J4⟩;rintro i ⟨o,g1⟩;unfold JfF;dsimp only;have F:=Jf i 1;refine .lt (λc=>.bind (Jg h o c) λ_ _=>.bind (Jg h2 (J0U _) (by show 0<J0 e;omega)) λ_ _=>.eq (λ_=>.some h2) λ_=>.some ⟨J2 .i64 i 1,rfl,⟨oo,oo⟩,oo,oo⟩) λ_=>.some (Jb oo)
  ·have G:J0 g<=2*B:=Jfi h.1 oo;refine Ja (τ:=Int) (λq=>(e,n,g,J0 g,q,t)) (λq=>0<=q/\q<=J0 g) (λq=>J0 g-q) ?_ 0 rfl ⟨J0U _,J4⟩;rintro i ⟨o,g1⟩;unfold JgD;dsimp only;have F:=Jf i 1;refine .lt (λH=>.bind (Jg h o H) λr D=>?_) λ_=>.some (Jb oo);refine Ja (τ:=Bool×Int) (λq=>(e,n,r,q.1,g,J0 g,i,e,J0 e,q.2,t)) (λq=>0<=q.2/\q.2<=J0 e) (λq=>J0 e-q.2) ?_ (false,0) rfl ⟨J0U _,by show 0<=J0 e;omega⟩;rintro⟨E,j⟩ ⟨g2,M⟩;dsimp only at g2 M;unfold JfA;dsimp only;have R:=Jf j 1;have go: ∀b:Bool,j<J0 e-> ∃c':Bool×Int,((e,n,r,b,g,J0 g,i,e,J0 e,J2 .i64 j 1,t):JPt)=(e,n,r,c'.1,g,J0 g,i,e,J0 e,c'.2,t)/\(0<=c'.2/\c'.2<=J0 e)/\J0 e-c'.2<J0 e-j/\0<=J0 e-j:=λb hj=>⟨(b,J2 .i64 j 1),rfl,⟨by show 0<=J2 .i64 j 1;omega,by show J2 .i64 j 1<=_;omega⟩,by show J0 e-J2 .i64 j 1<_;omega,oo⟩;refine .lt (λv=>.bind (Jg h2 g2 v) λN _=>.itf (λ_=>.some (go _ v)) λ_=>.some (go _ v)) λ_=>.inr ?_;have C: ∃c':Int,((e,n,g,J0 g,J2 .i64 i 1,t):JKJ)=(e,n,g,J0 g,c',t)/\(0<=c'/\c'<=J0 g)/\J0 g-c'<J0 g-i/\0<=J0 g-i:=⟨J2 .i64 i 1,rfl,⟨oo,oo⟩,oo,oo⟩;refine .ite (λ_=>.some C) λ_=>.clo h2 oo (by decide) ?_;refine .bind (J0K (B:=1024) (Bl:=1024) (Bm:=1024) (S:=0) (J0 e) 1 h2 (J0n (B:=1024) (S:=0) (t:=.i .i64) oo D.1) rfl rfl (J0U _) (J0U _) oo oo (by decide)) λP x=>.bind (ih h1 x.1 oo oo h5 oo z w K) λO A=>.gt (λ_=>.some A) λ_=>.some C
theorem JCy{x1:JaK}(h:Ty.fit B S JyG x1)(k:0<=B:=by omega)(j:0<=S:=by omega)(w:B<=8589934591:=by omega):Tot (JaB x1) λy=>Ty.fit 1024 0 (.l (.i .i64)) y:=by obtain⟨t,x⟩:=x1;obtain⟨e,g⟩:=h;unfold JaB;dsimp only;refine Ja (τ:=Int) (λq=>(x,q,t)) (λq=>1<=q/\q<=1025) (λq=>1025-q) ?_ 1 rfl ⟨J0U _,by decide⟩;rintro n ⟨z,g1⟩;unfold JgT;dsimp only;have C:=Jf n 1;refine .bind (Jvv e) λo v=>.le (λc=>?_) λ_=>.some (Jb oo);have A:J0 o<=1024:=v.1;refine .bind (JOO (B:=B) (S:=S) 1100 e (J0n (B:=1024) (S:=0) (t:=.i .i64) oo g) (J0U _) (by show(1:Int)<=n;omega) oo (by show n-1<1100;omega) k j w) λD r=>.gt (λ_=>.some r) λ_=>.some ⟨J2 .i64 n 1,rfl,⟨oo,oo⟩,oo,oo⟩
end
theorem Jl9{B S:Int}{x1:J2x}(h:Ty.fit B S tq2 x1)(r:BC B S 0 0:=by omega):Tot (J3q x1) λy=>Ty.fit 0 0 JY y/\(y.2=0->0<=y.1/\y.1<J0 x1.1):=by
 unfold J3q;refine .bind ((J3U h.1).eqn) λw h1=>.not (λj=>?_) λj=>?_
 ·have:J0 x1.1<=B:=h.1.1;exact .some ⟨(⟨fk0,fkn 15⟩),om⟩
 ·have q:=J2F h.1 h1.2 j;have:J0 x1.1=_:=Jm h.1;have g:Ty.fit 4096 0 (.l Jl) x1.1:=q.2;refine .bind (Jbs (B:=4096) (S:=0) (⟨g,h.2⟩)) λk e=>?_;have:=J1.1 e.1;have: -1<=k/\k<J0 x1.1:=e.2;refine .lt (λo=>?_) λo=>?_
  ·exact .some ⟨(⟨fk0,fkn 16⟩),om⟩
  ·refine .bind (Jg g) λx v=>.ne (λn=>?_) λn=>?_
   ·exact .some ⟨(⟨fk0,fkn 15⟩),om⟩
   ·exact .some ⟨(⟨e.1,fk0⟩),om⟩
section
variable {B S:Int}
theorem Jlm{x:J2x}{y:JA}(h:Ty.fit B S tq2 x)(e:J3q x=some y)(c:y.2=0):(J0 x.1<=64)/\Ty.fit 4096 0 (.l Jl) x.1:=by
 have g:Par (J3q x) λy=>y.2=0->J12 x.1=some true:=by unfold J3q;refine .bind λa ha=>.not (λ_=>.some nofun) λc=>?_;subst c;exact λ_ _ _=>ha
 exact J2F h.1 (g _ e c) rfl
end
theorem Jpv{B S:Int}{x1:JyI}(h:Ty.fit B S JPJ x1)(I:BG B S:=by omega):Tot (J91 x1) λy=>Ty.fit 4096 0 tq2 y:=by
 unfold J91;refine .bind ((Jl9 (B:=B) (S:=S) (x1:=(x1.1,x1.2.1)) (⟨h.1,h.2.1⟩)).eqn) λq h1=>?_;have:=J1.1 h1.1.1.1;have:J0 x1.1=_:=Jm h.1;have:q.2=0->0<=q.1/\q.1<J0 x1.1:=h1.1.2;refine .ne (λr=>?_) λr=>?_
 ·exact .some (⟨Jb,h1.1.1.2⟩)
 ·have v9:=Jlm (x:=(x1.1,x1.2.1)) (⟨h.1,h.2.1⟩) h1.2 r;have n:Ty.fit 4096 0 (.l Jl) x1.1:=v9.2;refine .bind (Jg n) λw j=>?_;have:=J1.1 h.c;refine .ltf (λE=>?_) λE=>?_
  ·have:J0 w.2.2.2.2.2<=4096:=j.1.g.1;have:=J4 (l:=w.2.2.2.2.2);refine .ge (λC=>?_) λC=>?_
   ·exact .some (⟨Jb,fkn 19⟩)
   ·have:=Jf x1.2.2 1;refine .bind (J97 j.1.g) λo k=>.clo k.1 oo (by decide) ?_;have:J0 o<=4096:=k.1.1;have:=J4 (l:=o);refine .bind (J6p (l:=o)) λ_ _=>.bind (JeQ k.1) λJ v=>.bind (J9z (B:=4096) (S:=0) (⟨j.1.1,fkn 2,j.1.c.1,v.1,j.1.e.1,k.1⟩)) λG F=>?_;have z:Ty.fit 4096 0 Jl G:=F.u;refine .bind (Jaf (B:=4096) (S:=0) (⟨n,h1.1.1.1,z⟩) om om) λH A=>?_;have D:Ty.fit 4096 0 (.l Jl) H:=A.1.u;exact .some (⟨D,fk0⟩)
  ·exact .some (⟨Jb,fkn 19⟩)
theorem Jp2{B S:Int}{x1:J2x}(h:Ty.fit B S tq2 x1)(C:BG B S:=by omega):Tot (J8W x1) λy=>Ty.fit 4097 0 tq2 y:=by
 unfold J8W;refine .bind ((Jl9 (B:=B) (S:=S) (x1:=(x1.1,x1.2)) (h)).eqn) λo h1=>?_;have:=J1.1 h1.1.1.1;have:J0 x1.1=_:=Jm h.1;have:o.2=0->0<=o.1/\o.1<J0 x1.1:=h1.1.2;refine .ne (λr=>?_) λr=>?_
 ·exact .some (⟨Jb,h1.1.1.2⟩)
 ·have v9:=Jlm (x:=(x1.1,x1.2)) (h) h1.2 r;have k:Ty.fit 4096 0 (.l Jl) x1.1:=v9.2;refine .bind (Jg k) λn j=>?_;have:J0 n.2.2.2.2.2<=4096:=j.1.g.1;have:=J4 (l:=n.2.2.2.2.2);refine .eq (λz=>?_) λz=>?_
  ·exact .some (⟨Jb,fkn 21⟩)
  ·refine .clo j.1.g oo (by decide) ?_;refine .bind (J0K (B:=4097) (Bl:=4096) (Bm:=1) (S:=0) (J0 n.2.2.2.2.2) 1 j.1.g (J0n (B:=1) (S:=0) (t:=(.i .i64)) oo j.1.c.1)) λD v=>.bind (Jaf (B:=4097) (S:=0) (⟨k.u,h1.1.1.1,j.1.1,j.1.2.1,j.1.c.1,j.1.d.1,j.1.e.1.u,v.1⟩) om om) λA q=>?_;have w:Ty.fit 4097 0 (.l Jl) A:=q.1.u;exact .some (⟨w,fk0⟩)
theorem JAG{B S:Int}{x1:List Int}(h:Ty.fit B S (.l (.i .i64)) x1)(g:BS B S 0 0:=by omega):Tot (Jar x1) λy=>Ty.fit 0 0 (.i .i64) y:=by
 unfold Jar;have:=J4 (l:=x1);refine .eq (λe=>?_) λe=>?_
 ·exact .some fk0
 ·refine .bind (Jg h) λj h4=>.some h4.1
theorem JJc{B S:Int}{x1:J1l}(h:Ty.fit B S tq1 x1)(g:BS B S 0 0:=by omega)(k:B<=8589934591:=by omega):Tot (Jdw x1) λy=>Ty.fit 0 0 (.i .i64) y:=by unfold Jdw;refine .bind (JiB (B:=B) (S:=S) (⟨h.1.e.1,h.2⟩)) λn h1=>.bind (JAG h1) λj h2=>.some h2
theorem JIR{B S:Int}{x1:J4A}(h:Ty.fit B S tq6 x1)(n:BH B S:=by omega)(q:B<=34359738368:=by omega):Tot (Jdl x1) λy=>Ty.fit B S JE y:=by
 unfold Jdl;refine .bind ((J5v (B:=B) (S:=S) (x1:=(x1.1,x1.2)) (h)).eqn) λg h1=>?_;have:=J1.1 h1.1.1;have:J0 x1.1.2.1=_:=Jm h.1.2.1;have: -1<=g/\g<J0 x1.1.2.1:=h1.1.2;refine .lt (λk=>?_) λk=>?_
 ·exact .some h.1
 ·refine .bind (Jg h.1.2.1) λo e=>.bind (J8e (B:=B) (S:=S) (⟨h.1,h1.1.1,e.1.z.1.u,trivial,e.1.z.2.2.1,trivial⟩) om om) λr j=>.some j.1
theorem Jyr{B S:Int}{x1:JfS}(h:Ty.fit B S Jy8 x1)(p0:0<=x1.2.2.2.2.1)(L:x1.2.2.2.2.1<16)(I:J0 x1.2.2.2.2.2<=12)(G:BH B S:=by omega)(N:B<=34359738368:=by omega):Tot (J49 x1) λy=>Ty.fit B S tq5 y/\(J0 x1.1.2.2.1.2.1<=J0 y.1.2.2.1.2.1):=by
 unfold J49;refine .bind (Jai (B:=B) (S:=S) (⟨h.1.d.1,h.2.z.2.2.1⟩)) λO h4=>.not (λE=>?_) λE=>?_
 ·have:J0 x1.1.2.2.1.2.1<=B:=h.1.c.1.2.1.1;exact .some ⟨(⟨h.1,fkn 3,fk0,h.2.z.2.2.1,⟨trivial,Jd⟩,fk0⟩),om⟩
 ·have:=J1.1 h.2.z.2.1;refine .eq (λD=>?_) λD=>?_
  ·refine .bind (JIR (B:=B) (S:=S) (⟨h.1.d.1,h.2.z.2.2.1⟩)) λJ w=>.bind (J4n) λ_ _=>.bind (J7u h4.1.c) λK q=>.some ⟨(⟨⟨h.1.1,h.1.2.1,h.1.c.1,w,h.1.e⟩,fkn 1,fk0,fk0,q.u,fk0⟩),om⟩
  ·refine .bind (J4n) λ_ _=>.bind (J7u h4.1.c) λH n=>.eq (λx=>?_) λx=>?_
   ·refine .bind (JiH (B:=B) (S:=S) (⟨h.1,fk0,fkn 1,h.2.z.1,fk0,fk0,fk0,⟨h.2.z.2.2.1,h.2.z.2.2.2.1,n.u,trivial,h.2.z.2.2.2.2.u⟩,Jd⟩)) λo j=>?_;have:J0 o.1.2.2.1.2.1=_:=Jm j.1.1.c.1.2.1;have:J0 x1.1.2.2.1.2.1=_:=Jm h.1.c.1.2.1;have:o.2=0->J0 o.1.2.2.1.2.1=J0 x1.1.2.2.1.2.1+1:=j.2;refine .ne (λr=>?_) λr=>?_
    ·refine .bind (J08 j.1.2) λM v=>.some ⟨(⟨h.1,v.1.u⟩),om⟩
    ·exact .some ⟨(⟨j.1.1,fkn 1,fk0,fk0,⟨trivial,Jd⟩,fk0⟩),om⟩
   ·refine .bind (JiH (B:=B) (S:=S) (⟨h.1,fk0,fkn 1,h.2.z.1,fk0,fk0,fk0,⟨h.2.z.2.2.1,h.2.z.2.2.2.1,n.u,trivial,Jd⟩,Jd⟩)) λk g=>?_;have:J0 k.1.2.2.1.2.1=_:=Jm g.1.1.c.1.2.1;have:J0 x1.1.2.2.1.2.1=_:=Jm h.1.c.1.2.1;have:k.2=0->J0 k.1.2.2.1.2.1=J0 x1.1.2.2.1.2.1+1:=g.2;refine .ne (λC=>?_) λC=>?_
    ·refine .bind (J08 g.1.2) λF A=>.some ⟨(⟨h.1,A.1.u⟩),om⟩
    ·exact .some ⟨(⟨g.1.1,fkn 1,fk0,fk0,⟨trivial,Jd⟩,fk0⟩),om⟩
theorem JyP{B S:Int}{x1:J1l}(h:Ty.fit B S tq1 x1)(D:Has x1.1.2.2.2.2.2.1 x1.2)(G:BH B S:=by omega)(M:B<=34359738368:=by omega):Tot (J4i x1) λy=>Ty.fit B S tq5 y/\(J0 x1.1.2.2.1.2.1<=J0 y.1.2.2.1.2.1):=by
 unfold J4i;refine .bind ((J2X (B:=B) (S:=S) (x1:=(x1.1.2.2.2.2.2.1,x1.2)) (⟨h.1.g.1,h.2⟩)).eqn) λr h1=>?_;have:0<=r:=Juf D h1.2;have:J0 x1.1.2.2.2.2.2.1=_:=Jm h.1.g.1;have: -1<=r/\r<J0 x1.1.2.2.2.2.2.1:=h1.1.2;refine .bind (Jg h.1.g.1) λI K=>.eq (λE=>?_) λE=>?_
 ·refine .bind (JcS (B:=B) (S:=S) (⟨h.1.g.1,h.2⟩)) λL A=>.bind (J8y (B:=B) (S:=S) (⟨h.1.e.1,h.2⟩)) λJ z=>.some ⟨(⟨⟨h.1.1,h.1.2.1,h.1.c.1,h.1.d.1,z,A,h.1.h⟩,fkn 1,fk0,fk0,⟨trivial,Jd⟩,fk0⟩),om⟩
 ·refine .bind ((J5g (B:=B) (S:=S) (x1:=(x1.1,0,3,x1.2,0,0,0,(0,0,(false,[]),false,[]),[])) (⟨h.1,fk0,fkn 3,h.2,fk0,fk0,fk0,⟨fk0,fk0,⟨trivial,Jd⟩,trivial,Jd⟩,Jd⟩)).eqn) λn k=>?_;have:J0 n.1.2.2.1.2.1=_:=Jm k.1.1.1.c.1.2.1;have:J0 x1.1.2.2.1.2.1=_:=Jm h.1.c.1.2.1;have:n.2.2=0->J0 n.1.2.2.1.2.1=J0 x1.1.2.2.1.2.1+1/\J0 x1.1.2.2.1.2.1<=4095/\0<=(0:Int)/\(0:Int)<64/\0<=(0:Int)/\(0:Int)<16:=k.1.2;refine .ne (λx=>?_) λx=>?_
  ·refine .bind (J08 k.1.1.c) λH C=>.some ⟨(⟨h.1,C.1.u⟩),om⟩
  ·refine .bind (JaC (B:=16384) (S:=1073741824) (⟨k.1.1.1,k.1.1.2.1⟩)) λq o=>?_;have j:Ty.fit 16384 1073741824 J3 q:=o.1.u;have:J0 q.2.2.1.2.1=_:=Jm j.c.1.2.1;have:J0 q.2.2.1.2.1=J0 n.1.2.2.1.2.1:=o.2;refine .bind (J8y (B:=16384) (S:=1073741824) (⟨j.e.1,h.2⟩)) λF w=>?_;have v:Ty.fit 16384 1073741824 JD F:=w.u;exact .some ⟨(⟨⟨j.1,j.2.1,j.c.1.u,j.d.1.u,v.u,j.g.u⟩,fkn 1,fk0,fk0,⟨trivial,Jd⟩,fk0⟩),om⟩
theorem JzH{B S:Int}{x1:JaK}(h:Ty.fit B S JyG x1)(v:BG B S:=by omega):Tot (J9D x1) λy=>Ty.fit B S JD y:=by
 unfold J9D;refine .bind ((J4K h.1).eqn) λw h1=>.not (λg=>?_) λg=>?_
 ·exact .some h.1
 ·have v3:=J3X h.1 h1.2 g;have e:Ty.fit 1024 0 JD x1.1:=v3.2;refine .bind (Jct (B:=1024) (S:=0) (⟨e.2,h.2,trivial,fzr⟩)) λq k=>?_;have j:Ty.fit 1025 0 (.l J5) q:=k.u;refine .bind (J78 (B:=1025) (S:=0) (⟨e.1.u,j⟩)) λr n=>?_;have o:Ty.fit 2050 0 JD r:=n.1.u;exact .some o.u
theorem Jvn{B S:Int}{x1:JrT}(h:Ty.fit B S JOL x1)(D:Has x1.1.2.2.2.2.2.1 x1.2.1)(F:BC B S 0 0:=by omega):Tot (J8s x1) λy=>Ty.fit 0 0 .b y:=by
 unfold J8s;refine .bind ((J2X (B:=B) (S:=S) (x1:=(x1.1.2.2.2.2.2.1,x1.2.1)) (⟨h.1.g.1,h.2.1⟩)).eqn) λo h1=>?_;have:0<=o:=Juf D h1.2;have:J0 x1.1.2.2.2.2.2.1=_:=Jm h.1.g.1;have: -1<=o/\o<J0 x1.1.2.2.2.2.2.1:=h1.1.2;refine .bind (Jg h.1.g.1) λk w=>?_;have:J0 k.2.2.2.2.1<=B:=w.1.e.1.1;have:=J4 (l:=k.2.2.2.2.1);refine Ja (τ:=Int) (λq=>(q,x1.1,x1.2.2,k)) (λq=>(Ty.fit 0 0 (.i .i64) q/\0<=q/\(q<=J0 k.2.2.2.2.1\/q<=0))) (λq=>J0 k.2.2.2.2.1-q) ?_ 0 rfl ?_
 ·rintro j ⟨A,G,E⟩;unfold JeA
  try dsimp only
  have:=J1.1 A;refine .lt (λv=>?_) λv=>?_
  ·refine .bind (Jg w.1.e.1) λH z=>.bind (J4l (B:=B) (S:=S) (⟨h.1.c.1,z.1⟩)) λI n=>.eq (λC=>?_) λC=>?_
   ·have:=J1.1 n.1.h.1.1;refine .eq (λx=>?_) λx=>?_
    ·have:=J1.1 n.1.h.1.2.1;refine .eq (λr=>?_) λr=>?_
     ·exact .some trivial
     ·have:=Jf j 1;exact .some ⟨J2 .i64 j 1,rfl,⟨J7,om,om⟩,om,om⟩
    ·have:=Jf j 1;exact .some ⟨J2 .i64 j 1,rfl,⟨J7,om,om⟩,om,om⟩
   ·have:=Jf j 1;exact .some ⟨J2 .i64 j 1,rfl,⟨J7,om,om⟩,om,om⟩
  ·exact .some trivial
 ·try dsimp only
  exact⟨fk0,oo,oo⟩
theorem Jot{B S:Int}{x1:Jg1}(h:Ty.fit B S Jv8 x1)(P:Has x1.1.2.2.2.2.2.1 x1.2.1)(a2:BH B S:=by omega)(hB:B<=34359738368:=by omega):Tot (J3W x1) λy=>Ty.fit B S tq5 y/\(J0 x1.1.2.2.1.2.1<=J0 y.1.2.2.1.2.1):=by
 unfold J3W;refine .bind (JzH (B:=B) (S:=S) (⟨h.1.e.1,h.2.1⟩)) λQ h1=>.bind ((J2X (B:=B) (S:=S) (x1:=(x1.1.2.2.2.2.2.1,x1.2.1)) (⟨h.1.g.1,h.2.1⟩)).eqn) λA h2=>?_;have:0<=A:=Juf P h2.2;have:J0 x1.1.2.2.2.2.2.1=_:=Jm h.1.g.1;have: -1<=A/\A<J0 x1.1.2.2.2.2.2.1:=h2.1.2;refine .bind (Jg h.1.g.1) λy4 h9=>.eq (λI=>?_) λI=>?_
 ·refine .bind (JcS (B:=B) (S:=S) (⟨h.1.g.1,h.2.1⟩)) λy5 F=>.bind (J8y (B:=B) (S:=S) (⟨h1,h.2.1⟩)) λy6 D=>.some ⟨(⟨⟨h.1.1,h.1.2.1,h.1.c.1,h.1.d.1,D,F,h.1.h⟩,h.c,fk0,fk0,⟨trivial,Jd⟩,fk0⟩),om⟩
 ·refine .bind ((J5g (B:=B) (S:=S) (x1:=((x1.1.1,x1.1.2.1,x1.1.2.2.1,x1.1.2.2.2.1,Q,x1.1.2.2.2.2.2),0,4,x1.2.1,0,0,0,(0,0,(false,[]),false,[]),[])) (⟨⟨h.1.1,h.1.2.1,h.1.c.1,h.1.d.1,h1,h.1.g⟩,fk0,fkn 4,h.2.1,fk0,fk0,fk0,⟨fk0,fk0,⟨trivial,Jd⟩,trivial,Jd⟩,Jd⟩)).eqn) λo j=>?_;have:J0 o.1.2.2.1.2.1=_:=Jm j.1.1.1.c.1.2.1;have:J0 x1.1.2.2.1.2.1=_:=Jm h.1.c.1.2.1;have:o.2.2=0->J0 o.1.2.2.1.2.1=J0 x1.1.2.2.1.2.1+1/\J0 x1.1.2.2.1.2.1<=4095/\0<=(0:Int)/\(0:Int)<64/\0<=(0:Int)/\(0:Int)<16:=j.1.2;refine .ne (λw=>?_) λw=>?_
  ·refine .bind (J08 j.1.1.c) λy8 G=>.some ⟨(⟨h.1,G.1.u⟩),om⟩
  ·have K:Has o.1.2.2.2.2.2.1 x1.2.1:=JsU (⟨⟨h.1.1,h.1.2.1,h.1.c.1,h.1.d.1,h1,h.1.g⟩,fk0,fkn 4,h.2.1,fk0,fk0,fk0,⟨fk0,fk0,⟨trivial,Jd⟩,trivial,Jd⟩,Jd⟩) j.2 w;refine Ja (τ:=J5b) (λq=>(x1.2.1,x1.2.2,o.1.2.2.2.2.1.1,q.1,x1.1,(0,0,(0,[],0),(0,[],0),([],[]),[],[],[]),(0,0,0,(false,[]),0),q.2)) (λq=>Ty.fit 0 0 (.i .i64) q.1/\Ty.fit 16384 1073741824 J3 q.2/\(0<=q.1)/\(q.1<=J0 o.1.2.2.2.2.1.1)/\(J0 x1.1.2.2.1.2.1<=J0 q.2.2.2.1.2.1)/\(Has q.2.2.2.2.2.2.1 x1.2.1)) (λq=>J0 o.1.2.2.2.2.1.1-q.1) ?_ (0,o.1) rfl ?_
   ·rintro⟨r,n⟩ x;dsimp only at x;obtain⟨C,k,W,V,Y,v⟩:=x;unfold Jcx
    try dsimp only
    have:=J1.1 C;have:J0 o.1.2.2.2.2.1.1<=16384:=j.1.1.1.e.1.1.1;have:=J4 (l:=o.1.2.2.2.2.1.1);have:J0 o.1.2.2.2.2.1.1=_:=Jm j.1.1.1.e.1.1;refine .lt (λH=>?_) λH=>?_
    ·refine .bind (Jg j.1.1.1.e.1.1) λT R=>.eq (λE=>?_) λE=>?_
     ·refine .bind (Jg j.1.1.1.e.1.1) λa1 L=>.bind (Jvn (B:=16384) (S:=1073741824) (⟨k,h.2.1,L.1.2.1⟩) v) λZ a0=>.not (λN=>?_) λN=>?_
      ·refine .bind (Jg j.1.1.1.e.1.1) λU O=>.bind (Jp8 (B:=16384) (S:=1073741824) (⟨k.2.2.2.2.1,h.2.1,O.1.2.1⟩)) λz J=>?_;have M:Ty.fit 16384 1073741824 JD z:=J.u;have:=Jf r 1;exact .some ⟨(J2 .i64 r 1,(n.1,n.2.1,n.2.2.1,n.2.2.2.1,z,n.2.2.2.2.2)),rfl,⟨J7,⟨k.1,k.2.1,k.2.2.1,k.2.2.2.1,M,k.2.2.2.2.2⟩,om,om,om,v⟩,om,om⟩
      ·have:=Jf r 1;exact .some ⟨(J2 .i64 r 1,n),rfl,⟨J7,k,om,om,om,v⟩,om,om⟩
     ·have:=Jf r 1;exact .some ⟨(J2 .i64 r 1,n),rfl,⟨J7,k,om,om,om,v⟩,om,om⟩
    ·exact .some ⟨(⟨k.u,h.c,fk0,fk0,⟨trivial,Jd⟩,fk0⟩),om⟩
   ·have:J0 o.1.2.2.2.2.1.1<=16384:=j.1.1.1.e.1.1.1;have:=J4 (l:=o.1.2.2.2.2.1.1)
    try dsimp only
    exact⟨fk0,j.1.1.1,om,om,om,K⟩
theorem JpD{B S:Int}{x1:Int×J3A}(h:Ty.fit B S tq8 x1)(k:BS B S 0 0:=by omega):Tot (J8K x1) λy=>Ty.fit 0 0 (.pr J5 .b) y:=by
 unfold J8K;have s0:Ty.fit 0 S tq8 x1:=h;refine .eq (λj=>?_) λj=>?_
 ·exact .some (⟨⟨s0.1,⟨s0.2.2.1,s0.2.2.2.1⟩,fkn 1⟩,trivial⟩)
 ·refine .eq (λe=>?_) λe=>?_
  ·exact .some (⟨⟨s0.1,⟨s0.2.2.1,s0.2.2.2.1⟩,fkn 2⟩,trivial⟩)
  ·refine .eq (λg=>?_) λg=>?_
   ·exact .some (⟨⟨s0.1,⟨s0.2.2.1,s0.2.2.2.1⟩,fkn 2⟩,trivial⟩)
   ·exact .some (⟨fzr,trivial⟩)
theorem Jlq{B S:Int}{x1:J6×J3A}(h:Ty.fit B S (.pr J3 J0o) x1)(ai:BS B S 0 0:=by omega):Tot (J5i x1) λy=>Ty.fit 0 0 (.i .i64) y/\(y=0->1<=x1.2.1/\x1.2.1<=7/\J0 x1.2.2.2.2<=12/\(x1.2.1<=3->0<=x1.2.2.1/\x1.2.2.1<x1.1.1/\0<=x1.2.2.2.1/\x1.2.2.2.1<16)):=by
 unfold J5i;refine .eq (λc1=>?_) λc1=>?_
 ·have:=J1.1 h.2.z.2.1;refine .ltf (λc3=>?_) λc3=>?_
  ·have:=J1.1 h.1.1;refine .gef (λc5=>?_) λc5=>?_
   ·have:=J1.1 h.2.z.2.2.1;refine .ltf (λc7=>?_) λc7=>?_
    ·refine .ge (λc9=>?_) λc9=>?_
     ·have:J0 x1.2.2.2.2<=S:=h.2.z.2.2.2;exact .some ⟨(fkn 1),om⟩
     ·refine .eq (λK=>?_) λK=>?_
      ·refine .not (λv=>?_) λv=>?_
       ·have:J0 x1.2.2.2.2<=S:=h.2.z.2.2.2;exact .some ⟨(fkn 1),om⟩
       ·have ah:=J1S.1 v;refine .gt (λM=>?_) λM=>?_
        ·exact .some ⟨(fkn 22),om⟩
        ·exact .some ⟨fk0,om⟩
      ·refine .not (λr=>?_) λr=>?_
       ·have:J0 x1.2.2.2.2<=S:=h.2.z.2.2.2;exact .some ⟨(fkn 1),om⟩
       ·have aj:=J1S.1 r;have:=J4 (l:=x1.2.2.2.2);refine .gt (λY=>?_) λY=>?_
        ·exact .some ⟨(fkn 22),om⟩
        ·exact .some ⟨fk0,om⟩
    ·have:J0 x1.2.2.2.2<=S:=h.2.z.2.2.2;exact .some ⟨(fkn 1),om⟩
   ·have:J0 x1.2.2.2.2<=S:=h.2.z.2.2.2;exact .some ⟨(fkn 1),om⟩
  ·have:J0 x1.2.2.2.2<=S:=h.2.z.2.2.2;exact .some ⟨(fkn 1),om⟩
 ·refine .eq (λL=>?_) λL=>?_
  ·have:=J1.1 h.2.z.2.1;refine .ltf (λV=>?_) λV=>?_
   ·have:=J1.1 h.1.1;refine .gef (λa2=>?_) λa2=>?_
    ·have:=J1.1 h.2.z.2.2.1;refine .ltf (λW=>?_) λW=>?_
     ·refine .ge (λa0=>?_) λa0=>?_
      ·have:J0 x1.2.2.2.2<=S:=h.2.z.2.2.2;exact .some ⟨(fkn 1),om⟩
      ·refine .eq (λN=>?_) λN=>?_
       ·refine .not (λn=>?_) λn=>?_
        ·have:J0 x1.2.2.2.2<=S:=h.2.z.2.2.2;exact .some ⟨(fkn 1),om⟩
        ·have ak:=J1S.1 n;have:=J4 (l:=x1.2.2.2.2);refine .gt (λa3=>?_) λa3=>?_
         ·exact .some ⟨(fkn 22),om⟩
         ·exact .some ⟨fk0,om⟩
       ·refine .not (λq=>?_) λq=>?_
        ·have:J0 x1.2.2.2.2<=S:=h.2.z.2.2.2;exact .some ⟨(fkn 1),om⟩
        ·have af:=J1S.1 q;have:=J4 (l:=x1.2.2.2.2);refine .gt (λT=>?_) λT=>?_
         ·exact .some ⟨(fkn 22),om⟩
         ·exact .some ⟨fk0,om⟩
     ·have:J0 x1.2.2.2.2<=S:=h.2.z.2.2.2;exact .some ⟨(fkn 1),om⟩
    ·have:J0 x1.2.2.2.2<=S:=h.2.z.2.2.2;exact .some ⟨(fkn 1),om⟩
   ·have:J0 x1.2.2.2.2<=S:=h.2.z.2.2.2;exact .some ⟨(fkn 1),om⟩
  ·refine .eq (λa1=>?_) λa1=>?_
   ·have:=J1.1 h.2.z.2.1;refine .ltf (λR=>?_) λR=>?_
    ·have:=J1.1 h.1.1;refine .gef (λa4=>?_) λa4=>?_
     ·have:=J1.1 h.2.z.2.2.1;refine .ltf (λQ=>?_) λQ=>?_
      ·refine .ge (λO=>?_) λO=>?_
       ·have:J0 x1.2.2.2.2<=S:=h.2.z.2.2.2;exact .some ⟨(fkn 1),om⟩
       ·refine .eq (λU=>?_) λU=>?_
        ·refine .not (λw=>?_) λw=>?_
         ·have:J0 x1.2.2.2.2<=S:=h.2.z.2.2.2;exact .some ⟨(fkn 1),om⟩
         ·have ae:=J1S.1 w;refine .gt (λP=>?_) λP=>?_
          ·exact .some ⟨(fkn 22),om⟩
          ·exact .some ⟨fk0,om⟩
        ·refine .not (λo=>?_) λo=>?_
         ·have:J0 x1.2.2.2.2<=S:=h.2.z.2.2.2;exact .some ⟨(fkn 1),om⟩
         ·have ag:=J1S.1 o;have:=J4 (l:=x1.2.2.2.2);refine .gt (λZ=>?_) λZ=>?_
          ·exact .some ⟨(fkn 22),om⟩
          ·exact .some ⟨fk0,om⟩
      ·have:J0 x1.2.2.2.2<=S:=h.2.z.2.2.2;exact .some ⟨(fkn 1),om⟩
     ·have:J0 x1.2.2.2.2<=S:=h.2.z.2.2.2;exact .some ⟨(fkn 1),om⟩
    ·have:J0 x1.2.2.2.2<=S:=h.2.z.2.2.2;exact .some ⟨(fkn 1),om⟩
   ·refine .eq (λx=>?_) λx=>?_
    ·have:=J1.1 h.2.z.2.2.1;refine .ltf (λG=>?_) λG=>?_
     ·refine .ge (λA=>?_) λA=>?_
      ·have:J0 x1.2.2.2.2<=S:=h.2.z.2.2.2;exact .some ⟨(fkn 1),om⟩
      ·refine .not (λk=>?_) λk=>?_
       ·have:J0 x1.2.2.2.2<=S:=h.2.z.2.2.2;exact .some ⟨(fkn 1),om⟩
       ·have a9:=J1S.1 k;have:=J4 (l:=x1.2.2.2.2);refine .gt (λF=>?_) λF=>?_
        ·have:=J1.1 h.2.z.2.1;exact .some ⟨(fkn 22),om⟩
        ·have:=J1.1 h.2.z.2.1;exact .some ⟨fk0,om⟩
     ·have:J0 x1.2.2.2.2<=S:=h.2.z.2.2.2;exact .some ⟨(fkn 1),om⟩
    ·refine .eq (λD=>?_) λD=>?_
     ·refine .not (λg=>?_) λg=>?_
      ·have:J0 x1.2.2.2.2<=S:=h.2.z.2.2.2;exact .some ⟨(fkn 1),om⟩
      ·have a5:=J1S.1 g;have:=J4 (l:=x1.2.2.2.2);refine .gt (λC=>?_) λC=>?_
       ·have:=J1.1 h.2.z.2.1;exact .some ⟨(fkn 22),om⟩
       ·have:=J1.1 h.2.z.2.1;exact .some ⟨fk0,om⟩
     ·refine .eq (λH=>?_) λH=>?_
      ·refine .not (λe=>?_) λe=>?_
       ·have:J0 x1.2.2.2.2<=S:=h.2.z.2.2.2;exact .some ⟨(fkn 1),om⟩
       ·have ab:=J1S.1 e;have:=J4 (l:=x1.2.2.2.2);refine .gt (λI=>?_) λI=>?_
        ·have:=J1.1 h.2.z.2.1;exact .some ⟨(fkn 22),om⟩
        ·have:=J1.1 h.2.z.2.1;exact .some ⟨fk0,om⟩
      ·refine .eq (λE=>?_) λE=>?_
       ·refine .not (λj=>?_) λj=>?_
        ·have:J0 x1.2.2.2.2<=S:=h.2.z.2.2.2;exact .some ⟨(fkn 1),om⟩
        ·have a7:=J1S.1 j;have:=J4 (l:=x1.2.2.2.2);refine .gt (λJ=>?_) λJ=>?_
         ·have:=J1.1 h.2.z.2.1;exact .some ⟨(fkn 22),om⟩
         ·have:=J1.1 h.2.z.2.1;exact .some ⟨fk0,om⟩
       ·have:J0 x1.2.2.2.2<=S:=h.2.z.2.2.2;exact .some ⟨(fkn 1),om⟩
theorem JvR{B S:Int}{x1:JfS}(h:Ty.fit B S Jy8 x1)(I:BG B S:=by omega):Tot (J2y x1) λy=>Ty.fit 0 0 (.i .i64) y:=by
 unfold J2y;refine .bind ((J1i h.1).eqn) λN h1=>.not (λv=>?_) λv=>?_
 ·exact .some (fkn 15)
 ·have v3:=J1r h.1 h1.2 v;have j:Ty.fit 4096 8192 J3 x1.1:=v3.2;refine .bind ((J2X (B:=4096) (S:=8192) (x1:=(x1.1.2.2.2.2.2.1,x1.2.1)) (⟨j.g.1,h.2.z.1⟩)).eqn) λq k=>?_;have:=J1.1 k.1.1;have:J0 x1.1.2.2.2.2.2.1=_:=Jm j.g.1;have: -1<=q/\q<J0 x1.1.2.2.2.2.2.1:=k.1.2;refine .lt (λw=>?_) λw=>?_
  ·exact .some (fkn 16)
  ·refine .bind (Jg j.g.1) λM F=>.ne (λo=>?_) λo=>?_
   ·exact .some (fkn 15)
   ·refine .bind (Jlq (B:=4096) (S:=S) (⟨j.u,h.2.z.2.u⟩)) λK x=>.ne (λC=>?_) λC=>?_
    ·exact .some x.1
    ·refine .bind (J8v (B:=4096) (S:=8192) (⟨j.e.1,h.2.z.1⟩)) λL E=>.bind (JpD (B:=0) (S:=S) (⟨h.2.z.1,h.2.z.2⟩)) λJ H=>.ite (λD=>?_) λD=>?_
     ·refine .ne (λA=>?_) λA=>?_
      ·refine .nof (λr=>?_) λr=>?_
       ·refine .not (λn=>?_) λn=>?_
        ·exact .some (fkn 15)
        ·have G:=J1S.1 n;exact .some fk0
       ·exact .some (fkn 15)
      ·exact .some fk0
     ·exact .some fk0
section
variable {B S:Int}
theorem JbS{x:JfS}(e:J2y x=some 0):JM x.1=some true/\Has x.1.2.2.2.2.2.1 x.2.1/\J5i (x.1,x.2.2)=some 0:=by
 have h:Par (J2y x) λy=>y=0->JM x.1=some true/\Has x.1.2.2.2.2.2.1 x.2.1/\J5i (x.1,x.2.2)=some 0:=by unfold J2y;refine .bind λa ha=>.not (λ_=>.some nofun) λn=>.bind λj hj=>.lt (λ_=>.some nofun) λo=>.bind λt r=>.ne (λ_=>.some nofun) λq=>.bind λb hb=>.ne (λg=>.some λk=>absurd k g) λg=>?_;subst n;subst g;exact λ_ _ _=>⟨ha,⟨j,hj,oo⟩,hb⟩
 exact h _ e rfl
theorem Jx0{x:JfS}{y:Int}(h:Ty.fit B S Jy8 x)(e:J2y x=some y)(c:y=0)(g:BC B S 0 0:=by omega):(1<=x.1.1/\x.1.1<=64/\J0 x.1.2.2.2.2.2.2.1=x.1.1/\1<=x.1.2.1/\x.1.2.1<=1073741825/\1<=x.1.2.2.1.1/\x.1.2.2.1.1<=1099511627776/\J0 x.1.2.2.1.2.1<=4096/\x.1.2.2.1.1-1<=x.1.2.2.1.2.2/\x.1.2.2.1.2.2<=x.1.2.2.1.1+J0 x.1.2.2.1.2.1-1/\1<=x.1.2.2.2.1.1/\x.1.2.2.2.1.1<=64/\J0 x.1.2.2.2.1.2.1<=x.1.2.2.2.1.1/\0<=x.1.2.2.2.1.2.2/\(x.1.2.2.2.1.2.2<J0 x.1.2.2.2.1.2.1\/x.1.2.2.2.1.2.2=0)/\1<=x.2.2.1/\x.2.2.1<=7/\J0 x.2.2.2.2.2<=12/\(x.2.2.1<=3->0<=x.2.2.2.1/\x.2.2.2.1<x.1.1/\0<=x.2.2.2.2.1/\x.2.2.2.2.1<16))/\Ty.fit 4096 8192 J3 x.1:=by subst c;obtain⟨h1,h2,h3⟩:=JbS e;obtain⟨q1,q2⟩:=J1r h.1 h1 rfl;have q3:=((Jlq (x1:=(x.1,x.2.2)) ⟨h.1,h.c⟩).get h3).2 rfl;exact⟨⟨q1.1,q1.2.1,q1.2.2.1,q1.2.2.2.1,q1.2.2.2.2.1,q1.2.2.2.2.2.1,q1.2.2.2.2.2.2.1,q1.2.2.2.2.2.2.2.1,q1.2.2.2.2.2.2.2.2.1,q1.2.2.2.2.2.2.2.2.2.1,q1.2.2.2.2.2.2.2.2.2.2.1,q1.2.2.2.2.2.2.2.2.2.2.2.1,q1.2.2.2.2.2.2.2.2.2.2.2.2.1,q1.2.2.2.2.2.2.2.2.2.2.2.2.2.1,q1.2.2.2.2.2.2.2.2.2.2.2.2.2.2,q3⟩,q2⟩
theorem JBZ{x:JfS}{y:Int}(h:Ty.fit B S Jy8 x)(e:J2y x=some y)(c:y=0):Has x.1.2.2.2.2.2.1 x.2.1:=by subst c;exact(JbS e).2.1
end
theorem JMu{B S:Int}{x1:JfS}(h:Ty.fit B S Jy8 x1)(ay:BG B S:=by omega):Tot (J7D x1) λy=>Ty.fit B S tq5 y/\(J0 x1.1.2.2.1.2.1<=J0 y.1.2.2.1.2.1):=by
 unfold J7D;refine .bind ((JvR (B:=B) (S:=S) (x1:=(x1.1,x1.2.1,x1.2.2)) (⟨h.1,h.2.z.1,h.2.z.2.u⟩)).eqn) λy2 h1=>.ne (λN=>?_) λN=>?_
 ·refine .bind (J08 h1.1) λy3 h4=>.some ⟨(⟨h.1,h4.1.u⟩),om⟩
 ·have q:Has x1.1.2.2.2.2.2.1 x1.2.1:=JBZ (⟨h.1,h.2.z.1,h.2.z.2.u⟩) h1.2 N;have L:=Jx0 (x:=(x1.1,x1.2.1,x1.2.2)) (⟨h.1,h.2.z.1,h.2.z.2.u⟩) h1.2 N;have:=J1.1 h.2.z.2.1;have:=J4 (l:=x1.2.2.2.2.2);have:=J1.1 h.2.z.2.2.2.1;have:1<=x1.1.1/\x1.1.1<=64/\J0 x1.1.2.2.2.2.2.2.1=x1.1.1/\1<=x1.1.2.1/\x1.1.2.1<=1073741825/\1<=x1.1.2.2.1.1/\x1.1.2.2.1.1<=1099511627776/\J0 x1.1.2.2.1.2.1<=4096/\x1.1.2.2.1.1-1<=x1.1.2.2.1.2.2/\x1.1.2.2.1.2.2<=x1.1.2.2.1.1+J0 x1.1.2.2.1.2.1-1/\1<=x1.1.2.2.2.1.1/\x1.1.2.2.2.1.1<=64/\J0 x1.1.2.2.2.1.2.1<=x1.1.2.2.2.1.1/\0<=x1.1.2.2.2.1.2.2/\(x1.1.2.2.2.1.2.2<J0 x1.1.2.2.2.1.2.1\/x1.1.2.2.2.1.2.2=0)/\1<=x1.2.2.1/\x1.2.2.1<=7/\J0 x1.2.2.2.2.2<=12/\(x1.2.2.1<=3->0<=x1.2.2.2.1/\x1.2.2.2.1<x1.1.1/\0<=x1.2.2.2.2.1/\x1.2.2.2.2.1<16):=L.1;have j:Ty.fit 4096 8192 J3 x1.1:=L.2;refine .eq (λY=>?_) λY=>?_
  ·have U:Ty.fit 16384 1073741824 tq1 (x1.1,x1.2.1):=⟨j.u,h.2.z.1⟩;refine .bind (JyP U q) λy4 C=>?_;have J:Ty.fit 16384 1073741824 tq5 y4:=C.1.u;have:J0 x1.1.2.2.1.2.1<=J0 y4.1.2.2.1.2.1:=C.2;exact .some ⟨(⟨J.1.u,J.2.z.u⟩),om⟩
  ·refine .eq (λal=>?_) λal=>?_
   ·have ai:Ty.fit 16384 1073741824 Jv8 (x1.1,x1.2.1,1):=⟨j.u,h.2.z.1,fkn 1⟩;refine .bind (Jot ai q) λy5 I=>?_;have D:Ty.fit 16384 1073741824 tq5 y5:=I.1.u;have:J0 x1.1.2.2.1.2.1<=J0 y5.1.2.2.1.2.1:=I.2;exact .some ⟨(⟨D.1.u,D.2.z.u⟩),om⟩
   ·refine .eq (λa7=>?_) λa7=>?_
    ·have am:Ty.fit 16384 1073741824 tq2 (x1.1.2.2.2.2.2.1,x1.2.1):=⟨j.g.1.u,h.2.z.1⟩;refine .bind (Jp2 am) λy6 v=>.eq (λa9=>?_) λa9=>?_
     ·have a6:Ty.fit 16384 1073741824 JPJ (x1.1.2.2.2.2.2.1,x1.2.1,x1.2.2.2.2.1):=⟨j.g.1.u,h.2.z.1,h.2.z.2.2.2.1⟩;refine .bind (Jpv a6) λy7 K=>.ne (λae=>?_) λae=>?_
      ·refine .bind (J08 K.2) λy8 ag=>.some ⟨(⟨j.u,ag.1.u⟩),om⟩
      ·exact .some ⟨(⟨⟨j.1,j.2.1,j.c.1.u,j.d.1.u,j.e.1.u,K.1.u,j.h.u⟩,fkn 1,fk0,fk0,⟨trivial,Jd⟩,fk0⟩),om⟩
     ·have:=J1.1 v.2;refine .ne (λa3=>?_) λa3=>?_
      ·refine .bind (J08 v.2) λy9 a4=>.some ⟨(⟨j.u,a4.1.u⟩),om⟩
      ·exact .some ⟨(⟨⟨j.1,j.2.1,j.c.1.u,j.d.1.u,j.e.1.u,v.1.u,j.h.u⟩,fkn 1,fk0,fk0,⟨trivial,Jd⟩,fk0⟩),om⟩
    ·refine .eq (λaf=>?_) λaf=>?_
     ·have aa:Ty.fit 16384 1073741824 tq2 (x1.1.2.2.2.2.2.1,x1.2.1):=⟨j.g.1.u,h.2.z.1⟩;refine .bind (Jp2 aa) λao r=>.eq (λak=>?_) λak=>?_
      ·have ah:Ty.fit 16384 1073741824 JPJ (x1.1.2.2.2.2.2.1,x1.2.1,x1.2.2.2.2.1):=⟨j.g.1.u,h.2.z.1,h.2.z.2.2.2.1⟩;refine .bind (Jpv ah) λax A=>.ne (λZ=>?_) λZ=>?_
       ·refine .bind (J08 A.2) λaw T=>.some ⟨(⟨j.u,T.1.u⟩),om⟩
       ·exact .some ⟨(⟨⟨j.1,j.2.1,j.c.1.u,j.d.1.u,j.e.1.u,A.1.u,j.h.u⟩,fkn 1,fk0,fk0,⟨trivial,Jd⟩,fk0⟩),om⟩
      ·have:=J1.1 r.2;refine .ne (λW=>?_) λW=>?_
       ·refine .bind (J08 r.2) λap a8=>.some ⟨(⟨j.u,a8.1.u⟩),om⟩
       ·exact .some ⟨(⟨⟨j.1,j.2.1,j.c.1.u,j.d.1.u,j.e.1.u,r.1.u,j.h.u⟩,fkn 1,fk0,fk0,⟨trivial,Jd⟩,fk0⟩),om⟩
     ·refine .bind (JpD (B:=0) (S:=S) (⟨h.2.z.1,h.2.z.2⟩)) λab aj=>?_;have a1:Ty.fit 16384 1073741824 JOd (x1.1.2.2.2.2.1,ab.1):=⟨j.e.1.u,aj.1⟩;refine .bind (Jxd a1) λF k=>.ne (λa0=>?_) λa0=>?_
      ·refine .bind (J08 k.c) λav ac=>.some ⟨(⟨j.u,ac.1.u⟩),om⟩
      ·refine .ite (λa2=>?_) λa2=>?_
       ·have V:Ty.fit 16384 S Jy8 ((x1.1.1,x1.1.2.1,x1.1.2.2.1,x1.1.2.2.2.1,F.1,x1.1.2.2.2.2.2),x1.2.1,x1.2.2):=⟨⟨j.1,j.2.1,j.c.1.u,j.d.1.u,k.1.u,j.g.u⟩,h.2.z.1,h.2.z.2.u⟩;refine .bind (Jyr V om om om) λG E=>?_;have o:Ty.fit 16384 S tq5 G:=E.1.u;have:J0 x1.1.2.2.1.2.1<=J0 G.1.2.2.1.2.1:=E.2;refine .eq (λR=>?_) λR=>?_
        ·exact .some ⟨(⟨j.u,o.2.z.u⟩),om⟩
        ·exact .some ⟨(⟨o.1.u,o.2.z.u⟩),om⟩
       ·refine .bind (JCy (B:=4098) (S:=0) (⟨k.1,h.2.z.1⟩)) λaq an=>.gt (λM=>?_) λM=>?_
        ·have P:Ty.fit 16384 1073741824 Jv8 ((x1.1.1,x1.1.2.1,x1.1.2.2.1,x1.1.2.2.2.1,F.1,x1.1.2.2.2.2.2),x1.2.1,4):=⟨⟨j.1,j.2.1,j.c.1.u,j.d.1.u,k.1.u,j.g.u⟩,h.2.z.1,fkn 4⟩;refine .bind (Jot P q) λH w=>?_;have n:Ty.fit 16384 1073741824 tq5 H:=w.1.u;have:J0 x1.1.2.2.1.2.1<=J0 H.1.2.2.1.2.1:=w.2;refine .eq (λQ=>?_) λQ=>?_
         ·exact .some ⟨(⟨j.u,n.2.z.u⟩),om⟩
         ·exact .some ⟨(⟨n.1.u,n.2.z.u⟩),om⟩
        ·refine .bind (JJc (B:=4098) (S:=8192) (⟨⟨j.1,j.2.1,j.c.1.u,j.d.1.u,k.1.u,j.g.u⟩,h.2.z.1⟩)) λau O=>.some ⟨(⟨⟨j.1,j.2.1,j.c.1.u,j.d.1.u,k.1.u,j.g.u⟩,fkn 2,O,fk0,⟨trivial,Jd⟩,fk0⟩),om⟩
theorem JhY{B S:Int}{x1:J42}(h:Ty.fit B S tq4 x1)(k:BC B S 0 0:=by omega):Tot (J2U x1) λy=>Ty.fit 0 0 .b y:=by
 unfold J2U;refine .bind ((J2X (B:=B) (S:=S) (x1:=(x1.1.1.2.2.2.2.2.1,x1.2)) (⟨h.1.1.g.1,h.2⟩)).eqn) λe h1=>?_;have:J0 x1.1.1.2.2.2.2.2.1=_:=Jm h.1.1.g.1;have: -1<=e/\e<J0 x1.1.1.2.2.2.2.2.1:=h1.1.2;refine .ge (λj=>?_) λj=>?_
 ·refine .bind (Jg h.1.1.g.1) λn o=>.some trivial
 ·exact .some trivial
end Go.Am
end
section
namespace Go.Am
set_option linter.unusedVariables false
set_option maxRecDepth 20000
set_option maxHeartbeats 4000000
section
variable {B S:Int}
theorem J7H{e:Int}{y:J0L}(h:Jz e=some y):y.1=5:=by unfold Jz at h;injection h with h;subst h;rfl
theorem Jzz{x:JfS}{y:J7z}(e:J49 x=some y)(c:y.2.1=3): ¬InP x.1.2.2.2.1 x.2.2.2.1/\y.1=x.1/\y.2.2.2.1=x.2.2.2.1:=by
 have g:Par (J49 x) λy=>y.2.1=3-> ¬InP x.1.2.2.2.1 x.2.2.2.1/\y.1=x.1/\y.2.2.2.1=x.2.2.2.1:=by
  unfold J49;refine .bind λn h2=>.not (λc=>.some λ_=>⟨λh=>(by rw[(JiE h2).2 h]at c;cases c),rfl,rfl⟩) λ_=>.eq (λ_=>.bind λ_ _=>.bind λ_ _=>.bind λ_ _=>.some nofun) λ_=>.bind λ_ _=>.bind λ_ _=>.eq (λ_=>?_) λ_=>?_
  all_goals
   refine .bind λo _=>.ne (λ_=>.bind λk j=>.some λc=>?_) λ_=>.some nofun;have:=J7H j;dsimp only at c;omega
 exact g _ e c
theorem JyT{x:J1l}{y:J7z}(e:J4i x=some y): ¬y.2.1=3:=by
 have g:Par (J4i x) λy=> ¬y.2.1=3:=by unfold J4i;refine .bind λ_ _=>.bind λ_ _=>.eq (λ_=>.bind λ_ _=>.bind λ_ _=>.some nofun) λ_=>.bind λ_ _=>.ne (λ_=>.bind λj h=>.some λc=>?_) λ_=>.bind λ_ _=>.bind λ_ _=>.some nofun;have:=J7H h;dsimp only at c;omega
 exact g _ e
theorem Jmr{x:Jg1}{y:J7z}(e:J3W x=some y):y.2.1=x.2.2\/y.2.1=5:=by
 have g:Par (J3W x) λy=>y.2.1=x.2.2\/y.2.1=5:=by unfold J3W;refine .bind λ_ _=>.bind λ_ _=>.bind λ_ _=>.eq (λ_=>.bind λ_ _=>.bind λ_ _=>.some (.inl rfl)) λ_=>.bind λj _=>.ne (λ_=>.bind λq h=>.some (.inr (J7H h))) λ_=>.while (λz=>z.2.1=x.2.2) rfl ?_;rintro⟨a,st,hl,i,k,n,o,out⟩ hz;dsimp only at hz;unfold Jcx;dsimp only;exact .lt (λ_=>.bind λ_ _=>.eq (λ_=>.bind λ_ _=>.bind λ_ _=>.not (λ_=>.bind λ_ _=>.bind λ_ _=>.some hz) λ_=>.some hz) λ_=>.some hz) λ_=>.some (.inl hz)
 exact g _ e
theorem JM8{x:JfS}{y:J7z}(e:J7D x=some y)(c:y.2.1=3):JM x.1=some true/\ ¬InP x.1.2.2.2.1 x.2.2.2.1/\y.1.2.2.2.1=x.1.2.2.2.1/\y.2.2.2.1=x.2.2.2.1:=by
 have o:Par (J7D x) λy=>y.2.1=3->JM x.1=some true/\ ¬InP x.1.2.2.2.1 x.2.2.2.1/\y.1.2.2.2.1=x.1.2.2.2.1/\y.2.2.2.1=x.2.2.2.1:=by
  unfold J7D;have g: ∀{e:Int} {k:J6} {r:J0L} {Q:Prop},Jz e=some r->(k,r).2.1=3->Q:=fun{e k r Q} h c=>by have:=J7H h;dsimp only at c;omega
  refine .bind λE h2=>.ne (λ_=>.bind λ_ h3=>.some (g h3)) λq=>.eq (λ_=>.bind λD h4=>.some λc=>absurd c (JyT h4)) λ_=>.eq (λ_=>.bind λC h5=>.some λc=>?_) λ_=>.eq (λ_=>?_) λ_=>.eq (λ_=>?_) λ_=>.bind λB _=>.bind λv _=>.ne (λ_=>.bind λ_ h=>.some (g h)) λ_=>.ite (λ_=>.bind λw n=>.eq (λd=>.some λc=>?_) λ_=>.some λc=>?_) λ_=>.bind λz _=>.gt (λ_=>.bind λA j=>.eq (λd=>.some λc=>?_) λ_=>.some λc=>?_) λ_=>.bind λ_ _=>.some nofun
  ·have:=Jmr h5;dsimp only at c this;omega
  ·exact .bind λ_ _=>.eq (λ_=>.bind λ_ _=>.ne (λ_=>.bind λ_ h=>.some (g h)) λ_=>.some nofun) λ_=>.ne (λ_=>.bind λ_ h=>.some (g h)) λ_=>.some nofun
  ·exact .bind λ_ _=>.eq (λ_=>.bind λ_ _=>.ne (λ_=>.bind λ_ h=>.some (g h)) λ_=>.some nofun) λ_=>.ne (λ_=>.bind λ_ h=>.some (g h)) λ_=>.some nofun
  ·dsimp only at c;omega
  ·subst q;obtain⟨a1,a2,a3⟩:=Jzz n c;exact⟨(JbS h2).1,a1,by rw[a2],a3⟩
  ·dsimp only at c;omega
  ·have:=Jmr j;dsimp only at c this;omega
 exact o _ e c
end
section
variable {B S:Int}
def JeR(k y:J6):Prop:=JM k=some true/\JM y=some true/\y.2.2.2.2.2.1=k.2.2.2.2.2.1/\y.2.2.1.1=k.2.2.1.1/\y.2.2.1.2.1=k.2.2.1.2.1
theorem JHy{k y:J6}(h:JeR k y)(n:Int):J0N (y.2.2.1,n)=J0N (k.2.2.1,n):=by obtain⟨h1,h2,h3,h4,h5⟩:=h;have v1:=(J4M h1).1;have v2:=(J4M h2).1;unfold J0N J2n;dsimp only;rw[v1,v2,h4,h5]
theorem Jrz{k y:J6}(h:JeR k y)(e:Int):J1g (y,e)=J1g (k,e):=by obtain⟨h1,h2,h3,h4,h5⟩:=h;unfold J1g;dsimp only;rw[h1,h2,h3]
theorem JML{k y:J6}(h:JeR k y)(e:Int):J3F (y,e)=J3F (k,e):=by unfold J3F;dsimp only;rw[Jrz h e];simp only[JHy h]
theorem JQu{k y:J6}(h:JeR k y)(x:Jq)(c:JA)(n:Int):J7C (y,x,c,n)=J7C (k,x,c,n):=by
 unfold J7C;dsimp only;refine JzV (R:=λz g=>z.1=g.1/\z.2.1=y/\g.2.1=k/\z.2.2=g.2.2) ?_ ⟨rfl,rfl,rfl,rfl⟩;rintro⟨i,a,r⟩ ⟨D,w,r'⟩ ⟨e1,e2,B,C⟩;dsimp only at e1 e2 B C;subst e1;subst e2;subst B;subst C;unfold Jfj;dsimp only;by_cases hi:geI i 0=true
 ·rw[if_pos hi,if_pos hi];cases idx r.1.2.2.2.2.1 i with
  |none=>exact .inl ⟨rfl,rfl⟩
  |some j=>
   rw[JJ,JJ,JHy h];cases J0N (w.2.2.1,j)with
   |none=>exact .inl ⟨rfl,rfl⟩
   |some e=>
    rw[JJ,JJ];have A:JM9 (fun(z g:TQ33)=>z.1=g.1/\z.2.1=a/\g.2.1=w/\z.2.2=g.2.2) (some (.inl (JI .i64 i 1,a,r.1,r.2.1,r.2.2):(TQ33)⊕(JrL))) (some (.inl (JI .i64 i 1,w,r.1,r.2.1,r.2.2))):=.inr (.inr ⟨_,_,rfl,rfl,rfl,rfl,rfl,rfl⟩);by_cases o:eqI e.2 0=true
    ·rw[if_pos o,if_pos o];by_cases q:eqI e.1.2.2.2.2.2.2.1.1 r.2.1.1=true
     ·rw[if_pos q,if_pos q];by_cases v:eqI e.1.2.2.2.2.2.2.1.2.1 r.2.1.2=true
      ·rw[if_pos v,if_pos v];exact .inr (.inl ⟨_,rfl,rfl⟩)
      ·rw[if_neg v,if_neg v];exact A
     ·rw[if_neg q,if_neg q];exact A
    ·rw[if_neg o,if_neg o];exact A
 ·rw[if_neg hi,if_neg hi];exact .inr (.inl ⟨_,rfl,rfl⟩)
theorem JIq{k y:J6}(h:JeR k y)(e:Int)(c:JA):J2N (y,e,c)=J2N (k,e,c):=by unfold J2N;dsimp only;rw[Jrz h e];simp only[JQu h]
theorem J8z{k:J6}{h:Int}{y:Jq×Int}(e:J1g (k,h)=some y)(c:y.2=0):JM k=some true:=by
 have g:Par (J1g (k,h)) λy=>y.2=0->JM k=some true:=by unfold J1g;refine .bind λa ha=>.not (λ_=>.some nofun) λc=>?_;subst c;exact λ_ _ _=>ha
 exact g _ e c
theorem JrJ{x:JMy}{y:J7z}(e:J2i x=some y)(c:y.2.1=3): ¬InP x.1.2.2.2.1 x.2.2.2.2.2.2.2.2.1.1/\y.2.2.2.1=x.2.2.2.2.2.2.2.2.1.1:=by
 have j: ∀{e:Int} {k:J6} {r:J0L} {Q:Prop},Jz e=some r->(k,r).2.1=3->Q:=fun{e k r Q} h c=>by have:=J7H h;dsimp only at c;omega
 have g:Par (J2i x) λy=>y.2.1=3-> ¬InP x.1.2.2.2.1 x.2.2.2.2.2.2.2.2.1.1/\y.2.2.2.1=x.2.2.2.2.2.2.2.2.1.1:=by unfold J2i;exact .bind λn h2=>.not (λc=>.some λ_=>⟨λh=>(by rw[(JiE h2).2 h]at c;cases c),rfl⟩) λ_=>.bind λ_ _=>.bind λ_ _=>.ne (λ_=>.bind λ_ h=>.some (j h)) λ_=>.bind λ_ _=>.ne (λ_=>.bind λ_ h=>.some (j h)) λ_=>.eq (λ_=>.bind λ_ _=>.not (λ_=>.bind λ_ _=>.some nofun) λ_=>.some nofun) λ_=>.some nofun
 exact g _ e c
def Jwo(k:J6)(e p:Int):Prop:=JM k=some true/\ ¬InP k.2.2.2.1 p/\ ∃y,J3F (k,e)=some y/\p=y.1.2.2.2.2.2.2.1.1
theorem JFl{k:J6}{g:Int}{y:J7z}(e:J1k (k,g)=some y)(c:y.2.1=3):Jwo k g y.2.2.2.1:=by
 have j: ∀{e:Int} {k:J6} {r:J0L} {Q:Prop},Jz e=some r->(k,r).2.1=3->Q:=fun{e k r Q} h c=>by have:=J7H h;dsimp only at c;omega
 have n:Par (J1k (k,g)) λy=>y.2.1=3->Jwo k g y.2.2.2.1:=by
  unfold J1k;refine .bind λz h2=>.ne (λ_=>.bind λ_ h=>.some (j h)) λv=>.eq (λ_=>.eq (λ_=>.bind λ_ _=>.ne (λ_=>.bind λ_ h=>.some (j h)) λ_=>.bind λ_ _=>.some nofun) λ_=>?_) λ_=>?_
  all_goals
   refine .bind λo q=>.not (λ_=>.bind λ_ h=>.some (j h)) λ_=>.bind λx w=>.some λc=>?_;obtain⟨a1,a2⟩:=JrJ w c;exact⟨J8z h2 v,a2▸a1,o,q,a2⟩
 exact n _ e c
def JvH(k:J6)(e:Int)(c:JA)(p:Int):Prop:=JM k=some true/\ ¬InP k.2.2.2.1 p/\ ∃y,J2N (k,e,c)=some y/\p=y.1.2.2.2.2.2.2.1.1
theorem JH7{k:J6}{g:Int}{l:JA}{y:J7z}(e:J2D (k,g,l)=some y)(c:y.2.1=3):JvH k g l y.2.2.2.1:=by
 have n: ∀{e:Int} {k:J6} {r:J0L} {Q:Prop},Jz e=some r->(k,r).2.1=3->Q:=fun{e k r Q} h c=>by have:=J7H h;dsimp only at c;omega
 have j:Par (J2D (k,g,l)) λy=>y.2.1=3->JvH k g l y.2.2.2.1:=by unfold J2D;refine .bind λx h2=>.ne (λ_=>.bind λ_ h=>.some (n h)) λq=>.ne (λ_=>.bind λ_ h=>.some (n h)) λ_=>.bind λo h5=>.not (λ_=>.some nofun) λ_=>.bind λw v=>.some λc=>?_;obtain⟨a1,a2⟩:=JrJ v c;exact⟨J8z h2 q,a2▸a1,o,h5,a2⟩
 exact j _ e c
theorem JzY{e:Int}{y:J0L}(h:Jz e=some y):y.2.2.2.2=e:=by unfold Jz at h;injection h with h;subst h;rfl
theorem JKT{x:JMy}{y:J7z}(e:J2i x=some y)(c:y.2.1=5): ¬y.2.2.2.2.2=0:=by
 have j: ∀{e:Int} {k:J6} {r:J0L},¬e=0->Jz e=some r->(k,r).2.1=5-> ¬(k,r).2.2.2.2.2=0:=fun{e k r} n h _=>by have:=JzY h;dsimp only;omega
 have g:Par (J2i x) λy=>y.2.1=5-> ¬y.2.2.2.2.2=0:=by unfold J2i;exact .bind λo h2=>.not (λc=>.some nofun) λ_=>.bind λ_ _=>.bind λ_ _=>.ne (λc=>.bind λ_ h=>.some (j c h)) λ_=>.bind λ_ _=>.ne (λc=>.bind λ_ h=>.some (j c h)) λ_=>.eq (λ_=>.bind λ_ _=>.not (λ_=>.bind λ_ _=>.some nofun) λ_=>.some nofun) λ_=>.some nofun
 exact g _ e c
theorem JMx{k:J6}{n:Int}{y:J7z}(e:J1k (k,n)=some y)(c:y.2.1=5): ¬y.2.2.2.2.2=0:=by
 have g: ∀{e:Int} {k:J6} {r:J0L},¬e=0->Jz e=some r->(k,r).2.1=5-> ¬(k,r).2.2.2.2.2=0:=fun{e k r} z h _=>by have:=JzY h;dsimp only;omega
 have j:Par (J1k (k,n)) λy=>y.2.1=5-> ¬y.2.2.2.2.2=0:=by
  unfold J1k;refine .bind λA h2=>.ne (λc=>.bind λ_ h=>.some (g c h)) λq=>.eq (λ_=>.eq (λ_=>.bind λ_ _=>.ne (λc=>.bind λ_ h=>.some (g c h)) λ_=>.bind λ_ _=>.some nofun) λ_=>?_) λ_=>?_
  all_goals
   exact .bind λv x=>.not (λ_=>.bind λ_ h=>.some (g (by decide) h)) λ_=>.bind λw o=>.some λc=>JKT o c
 exact j _ e c
theorem JFL{k:J6}{j:Int}{y:J7z}(e:J1k (k,j)=some y)(c: ¬y.2.1=5):JM k=some true:=by
 have g:Par (J1k (k,j)) λy=> ¬y.2.1=5->JM k=some true:=by unfold J1k;refine .bind λo h2=>.ne (λ_=>.bind λ_ h=>.some λc=>absurd (J7H h) c) λn=>λ_ _ _=>J8z h2 n
 exact g _ e c
theorem JFD{k:J6}{j:Int}{l:JA}{y:J7z}(e:J2D (k,j,l)=some y)(c: ¬y.2.1=5):JM k=some true:=by
 have g:Par (J2D (k,j,l)) λy=> ¬y.2.1=5->JM k=some true:=by unfold J2D;refine .bind λo h2=>.ne (λ_=>.bind λ_ h=>.some λc=>absurd (J7H h) c) λn=>λ_ _ _=>J8z h2 n
 exact g _ e c
def JeW(e:Int)(k:J6)(p:Int):Prop:= ∃y,J1k (k,e)=some y/\y.2.1=3/\y.2.2.2.1=p
def Jsh(e:Int)(l:JA)(k:J6)(p:Int):Prop:= ∃y,J2D (k,e,l)=some y/\y.2.1=3/\y.2.2.2.1=p
theorem JeW.want{g:Int}{k:J6}{p:Int}(h:JeW g k p):Jwo k g p:=by obtain⟨y,e,c,d⟩:=h;exact d▸JFl e c
theorem Jsh.want{g:Int}{l:JA}{k:J6}{p:Int}(h:Jsh g l k p):JvH k g l p:=by obtain⟨y,e,c,d⟩:=h;exact d▸JH7 e c
theorem Jpl{k y:J6}{p:Int}(W:J6->Int->Prop)(g: ∀{k p},W k p->JM k=some true/\ ¬InP k.2.2.2.1 p)(same: ∀{p q},JeR k y->W k p->W y q->q=p)(h:W k p)(r:J3y k y)(hp:Je5 y.2.2.2.1 p)(hy:Ty.fit B S JE y.2.2.2.1)(hl:J0 y.2.2.1.2.1=J0 k.2.2.1.2.1)(o:BS B S 0 0:=by omega)(v:B<=9223372036854775807:=by omega): ∀q,¬W y q:=by
 intro q hq;obtain⟨a1,a2⟩:=g hq;obtain⟨j,n,m,e⟩:=r;have hm:m=[]:=by rw[e]at hl;unfold J0 at hl;rw[JbN]at hl;exact List.length_eq_zero_iff.1 oo
 subst hm;rw[J59]at e;have ks:JeR k y:=⟨(g h).1,a1,j,n,e⟩;rw[same ks h hq]at a2;exact a2 (hp.inP (B:=B) (S:=S) (J4M a1).2.1 hy)
theorem JQ0{j:Int}{k y:J6}{p q:Int}(ks:JeR k y)(h:Jwo k j p)(g:Jwo y j q):q=p:=by obtain⟨_,_,a,ha,e⟩:=h;obtain⟨_,_,b,hb,f⟩:=g;rw[JML ks,ha]at hb;injection hb with hb;subst hb;rw[e,f]
theorem JTD{j:Int}{l:JA}{k y:J6}{p q:Int}(ks:JeR k y)(h:JvH k j l p)(g:JvH y j l q):q=p:=by obtain⟨_,_,a,ha,e⟩:=h;obtain⟨_,_,b,hb,f⟩:=g;rw[JIq ks,ha]at hb;injection hb with hb;subst hb;rw[e,f]
theorem JdR{k:J6}(h:JM k=some true):J0 k.2.2.1.2.1<=4096:=(JiT (J4M h).1).2.2
open Classical in
noncomputable def left(W:J6->Int->Prop)(k:J6):Int:=2*(4097-J0 k.2.2.1.2.1)+if∃p,W k p then 1 else 0
open Classical in
theorem JJP{W:J6->Int->Prop}{k y:J6}(h:J0 y.2.2.1.2.1=J0 k.2.2.1.2.1+1)(hk: ¬∃p,W k p):left W y<left W k:=by have e1:(if∃p,W k p then(1:Int)else 0)=0:=if_neg hk;unfold left;rw[e1];split<;>omega
open Classical in
theorem JqH{W:J6->Int->Prop}{k y:J6}{p:Int}(hk:W k p)(h:J0 k.2.2.1.2.1<=J0 y.2.2.1.2.1)(hy:J0 y.2.2.1.2.1=J0 k.2.2.1.2.1-> ∀q,¬W y q):left W y<left W k:=by
 have e1:(if∃p,W k p then(1:Int)else 0)=1:=if_pos ⟨p,hk⟩;unfold left;rw[e1];by_cases e:J0 y.2.2.1.2.1=J0 k.2.2.1.2.1
 ·have e2:(if∃p,W y p then(1:Int)else 0)=0:=if_neg fun⟨q,hq⟩=>hy e q hq;rw[e2];omega
 ·split<;>omega
open Classical in
theorem JjL{W:J6->Int->Prop}{k:J6}(h:J0 k.2.2.1.2.1<=4097):0<=left W k:=by unfold left;split<;>omega
theorem JU2{y:J0L}(g:0<=B)(e:0<=S)(h:Ty.fit 0 0 J03 y):Ty.fit B S J03 y:=h.u
abbrev sZ:Jx:=((0,0,(0,[],0),(0,[],0),([],[]),[],[],[]),[],0,[],false,[])
theorem JuT{x1:J42}(h:Ty.fit B S tq4 x1)(C:0<=B:=by omega)(x:0<=S:=by omega)(K:16384<=B:=by omega)(J:1073741824<=S:=by omega)(P:B<=1000000:=by omega)(O:S<=1000000000000:=by omega):Tot (J3h x1) λy=>Ty.fit B S tq4 y/\(y.2=0->J0 x1.1.1.2.2.1.2.1<=J0 y.1.1.2.2.1.2.1):=by
 obtain⟨s,k⟩:=x1;obtain⟨hs,o⟩:=h;dsimp only at hs o⊢;have z0:Ty.fit B S Jp sZ:=JC C x Jp;unfold J3h;dsimp only;refine .bind (J1i hs.1) λN h2=>.not (λ_=>.some ⟨⟨z0,fkn 15⟩,nofun⟩) λ_=>.bind (J2X (x1:=(s.1.2.2.2.2.2.1,k)) ⟨hs.1.2.2.2.2.2.1,o⟩) λL _=>.lt (λ_=>.some ⟨⟨z0,fkn 16⟩,nofun⟩) λ_=>Ja (τ:=Jx) (λq=>(k,q,sZ)) (λq=>Ty.fit B S Jp q/\J0 s.1.2.2.1.2.1<=J0 q.1.2.2.1.2.1) (λq=>left (JeW k) q.1) ?_ s rfl ⟨hs,J0U _⟩;rintro q ⟨g1,g2⟩;unfold JdY;dsimp only;refine .bind (JhY (x1:=(q,k)) ⟨g1,o⟩) λM _=>.ite (λ_=>?_) λ_=>.some ⟨⟨g1,fk0⟩,λ_=>g2⟩;refine .bind ((Jpt (x1:=(q.1,k)) ⟨g1.1,o⟩).eqn) λn j=>.eq (λI=>.some ⟨⟨z0,j.1.1.g⟩,λc=>absurd c (JMx j.2 I)⟩) λA=>.eq (λc=>?_) λz=>?_
 ·have w:JeW k q.1 n.2.2.2.1:=⟨n,j.2,c,rfl⟩;refine .bind ((J7U (x1:=(q,n.2.2.2.1)) ⟨g1,j.1.1.d.1⟩).eqn) λD r=>.ne (λF=>.some ⟨⟨z0,r.1.1.2⟩,λc=>absurd c F⟩) λv=>?_;obtain⟨E,H⟩:=JaE (B:=B) (S:=S) g1.1.2.2.2.1 r.2 v;have hl:=r.1.2 v;refine .some ⟨D.1,rfl,⟨r.1.1.1,Jfi g2 hl⟩,JqH w hl λe=>Jpl (B:=B) (S:=S) (JeW k) (λh=>⟨h.want.1,h.want.2.1⟩) (λks h g=>JQ0 ks h.want g.want) w E H r.1.1.1.1.d.1 e,JjL ?_⟩;have:=JdR w.want.1;omega
 ·have h1:n.2.1=1/\J0 n.1.2.2.1.2.1=J0 q.1.2.2.1.2.1+1:=by
   rcases j.1.2 with h|h|h
   ·exact h
   ·exact absurd h z
   ·exact absurd h A
  have G: ¬∃p,JeW k q.1 p:=fun⟨p,y,e,c,_⟩=>by rw[j.2]at e;injection e with e;subst e;exact z c
  refine .some ⟨(n.1,q.2),rfl,⟨⟨j.1.1.1,g1.2⟩,?_⟩,JJP h1.2 G,JjL ?_⟩
  ·show J0 s.1.2.2.1.2.1<=J0 n.1.2.2.1.2.1;omega
  ·have:=JdR (JFL j.2 A);omega
end
section
variable {B S:Int}
open Classical in
theorem JLY{x1:JM6}(h:Ty.fit B S (.pr Jp tq8) x1)(G:BH B S:=by omega)(K:B<=1000000:=by omega)(J:S<=1000000000000:=by omega):Tot (JeS x1) λy=>Ty.fit B S JMi y/\J0 x1.1.1.2.2.1.2.1<=J0 y.1.1.2.2.1.2.1:=by
 obtain⟨s,n,a⟩:=x1;obtain⟨hs,k,ha⟩:=h;unfold JeS;dsimp only at hs k ha⊢;refine Ja (τ:=Jx) (λq=>(n,q,a,((0,0,(0,[],0),(0,[],0),([],[]),[],[],[]),[],0,[],false,[]),0,0,0,(false,[]),0)) (λq=>Ty.fit B S Jp q/\J0 s.1.2.2.1.2.1<=J0 q.1.2.2.1.2.1) (λq=>if Je5 q.1.2.2.2.1 a.2.1 then 0 else 1) ?_ s rfl ⟨hs,J0U _⟩;rintro q ⟨g1,g2⟩;unfold Jpk;dsimp only;refine .bind ((JMu (x1:=(q.1,n,a)) ⟨g1.1,k,ha⟩).eqn) λg h3=>?_;have hy:Ty.fit B S Jp (g.1,q.2):=⟨h3.1.1.1,g1.2⟩;have hl:J0 s.1.2.2.1.2.1<=J0 g.1.2.2.1.2.1:=Jfi g2 h3.1.2;have fin: ∀{y:J0L},Ty.fit B S J03 y->Ty.fit B S JMi ((g.1,q.2),y)/\J0 s.1.2.2.1.2.1<=J0 ((g.1,q.2),y).1.1.2.2.1.2.1:=λhr=>⟨⟨hy,hr⟩,hl⟩;refine .eq (λc=>?_) λ_=>?_
 ·obtain⟨w1,w2,w3,F⟩:=JM8 h3.2 c;refine .bind ((J7U (x1:=((g.1,q.2),g.2.2.2.1)) ⟨hy,h3.1.1.d.1⟩).eqn) λE h4=>.ne (λ_=>.bind (J08 (B:=B) (S:=S) h4.1.1.2) λI h5=>.some (fin h5.1.u)) λA=>?_;obtain⟨H,v⟩:=JaE (B:=B) (S:=S) hy.1.2.2.2.1 h4.2 A;rw[F]at v;have v:Je5 E.1.1.2.2.2.1 a.2.1:=v;have C: ¬Je5 q.1.2.2.2.1 a.2.1:=λhp=>w2 (hp.inP (B:=B) (S:=S) (J4M w1).2.1 g1.1.2.2.2.1);refine .some ⟨E.1,rfl,⟨h4.1.1.1,Jfi hl (h4.1.2 A)⟩,?_,?_⟩
  ·rw[if_pos v,if_neg C];decide
  ·rw[if_neg C];decide
 ·have rb:Tot ((J2U ((g.1,q.2),n)).bind λx=>if x=true then(J3h ((g.1,q.2),n)).bind λj=>if neI j.2 0=true then(Jz j.2).bind λw=>some (Sum.inr ((g.1,q.2),w))else some (Sum.inr (j.1,g.2))else some (Sum.inr ((g.1,q.2),g.2))) fun(r:(TQ23)⊕(TQ91))=> ∃y,r=.inr y/\Ty.fit B S JMi y/\J0 s.1.2.2.1.2.1<=J0 y.1.1.2.2.1.2.1:=by
   refine .bind (JhY (x1:=((g.1,q.2),n)) ⟨hy,k⟩) λx _=>.ite (λ_=>.bind (JuT (x1:=((g.1,q.2),n)) ⟨hy,k⟩) λj o=>.ne (λ_=>.bind (J08 (B:=B) (S:=S) o.1.2) λw z=>.some ⟨_,rfl,fin z.1.u⟩) λD=>.some ⟨_,rfl,⟨o.1.1,h3.1.1.2⟩,Jfi hl (o.2 D)⟩) λ_=>.some ⟨_,rfl,fin h3.1.1.2⟩
  refine .eqf (λ_=>.eq (λ_=>.eqf (λ_=>.eq (λ_=>?_) λ_=>.some (fin h3.1.1.2)) λ_=>?_) λ_=>.some (fin h3.1.1.2)) λ_=>?_
  all_goals
   exact rb.mono λr ⟨y,e,h⟩=>by subst e;exact h
end
theorem JGD{B S:Int}{x1:JrT}(h:Ty.fit B S JOL x1)(r:BG B S:=by omega):Tot (J2D x1) λy=>Ty.fit B S tq5 y/\((y.2.1=1/\(J0 y.1.2.2.1.2.1=J0 x1.1.2.2.1.2.1+1\/y.2.2.1=0))\/y.2.1=3\/y.2.1=5):=by
 unfold J2D;refine .bind (J8t (B:=B) (S:=S) (⟨h.1,h.2.1⟩)) λA h1=>.ne (λq=>?_) λq=>?_
 ·refine .bind (J08 h1.2) λv h4=>.some ⟨(⟨h.1,h4.1.u⟩),om⟩
 ·have:=J1.1 h1.1.2.1;refine .ne (λk=>?_) λk=>?_
  ·refine .bind (J08 (B:=0) (S:=0) (fkn 15)) λx j=>.some ⟨(⟨h.1,j.1.u⟩),om⟩
  ·refine .bind (Jj9 (B:=B) (S:=S) (h)) λw n=>.not (λo=>?_) λo=>?_
   ·have:J0 x1.1.2.2.1.2.1<=B:=h.1.c.1.2.1.1;exact .some ⟨(⟨h.1,fkn 1,fk0,fk0,⟨trivial,Jd⟩,fk0⟩),om⟩
   ·refine .bind (Jfr (B:=B) (S:=S) (⟨h.1,h1.1.u,n.1.u⟩)) λg e=>?_;have:=J1.1 e.1.2.z.1;have:J0 g.1.2.2.1.2.1=_:=Jm e.1.1.c.1.2.1;have:J0 x1.1.2.2.1.2.1=_:=Jm h.1.c.1.2.1;have:(g.2.1=1/\J0 g.1.2.2.1.2.1=J0 x1.1.2.2.1.2.1+1)\/g.2.1=3\/g.2.1=5:=e.2;exact .some ⟨(⟨e.1.1,e.1.2.z.u⟩),om⟩
section
variable {B S:Int}
theorem JEM{x1:JDs}(h:Ty.fit B S (.pr Jp J9) x1)(L:BH B S:=by omega)(P:B<=1000000:=by omega)(N:S<=1000000000000:=by omega):Tot (Jcr x1) λy=>Ty.fit B S JL3 y/\J0 x1.1.1.2.2.1.2.1<=J0 y.1.1.2.2.1.2.1/\(¬y.2.1=0->J0 x1.1.1.2.2.1.2.1+1<=J0 y.1.1.2.2.1.2.1/\J0 x1.1.1.2.2.1.2.1<=4096):=by
 obtain⟨s,o,l⟩:=x1;obtain⟨hs,v,hl⟩:=h;dsimp only at hs v hl⊢;unfold Jcr;dsimp only;refine Ja (τ:=Int×Jx) (λq=>(o,q.1,q.2,l,sZ)) (λq=>Ty.fit B S Jp q.2/\0<=q.1/\q.1+J0 s.1.2.2.1.2.1<=J0 q.2.1.2.2.1.2.1/\(¬q.1=0->J0 s.1.2.2.1.2.1<=4096)) (λq=>left (Jsh o l) q.2.1) ?_ (0,s) rfl ⟨hs,J0U _,by dsimp only;omega,λc=>absurd rfl c⟩;rintro⟨n,q⟩ ⟨g1,g2,K,A⟩;dsimp only at g1 g2 K A;unfold Jla;dsimp only;have:=Jf n 1;have:J0 q.1.2.2.1.2.1<=B:=g1.1.2.2.1.2.1.1;have:=J4 (l:=s.1.2.2.1.2.1);have fn:Ty.fit B S (.i .i64) n:=by rw[J1];omega
 have fin: ∀{e:Int},Ty.fit B S (.i .i64) e->Ty.fit B S JL3 (q,n,e)/\J0 s.1.2.2.1.2.1<=J0 ((q,n,e):Jv3).1.1.2.2.1.2.1/\(¬((q,n,e):Jv3).2.1=0->J0 s.1.2.2.1.2.1+1<=J0 ((q,n,e):Jv3).1.1.2.2.1.2.1/\J0 s.1.2.2.1.2.1<=4096):=fun{e} he=>⟨⟨g1,fn,he⟩,by dsimp only;omega,λc=>by dsimp only at c⊢;have:=A c;omega⟩;refine .bind ((JGD (x1:=(q.1,o,l)) ⟨g1.1,v,hl⟩).eqn) λj k=>.eq (λO=>.some (fin k.1.1.g)) λF=>.eq (λc=>?_) λE=>.eq (λc=>.some (fin fk0)) λH=>?_
 ·have w:Jsh o l q.1 j.2.2.2.1:=⟨j,k.2,c,rfl⟩;refine .bind ((J7U (x1:=(q,j.2.2.2.1)) ⟨g1,k.1.1.d.1⟩).eqn) λC r=>.ne (λM=>.some (fin r.1.1.2)) λD=>?_;obtain⟨G,J⟩:=JaE (B:=B) (S:=S) g1.1.2.2.2.1 r.2 D;have x:=r.1.2 D;dsimp only at x;refine .some ⟨(n,C.1),rfl,⟨r.1.1.1,g2,by show n+_<=J0 C.1.1.2.2.1.2.1;omega,A⟩,JqH w x λe=>Jpl (B:=B) (S:=S) (Jsh o l) (λh=>⟨h.want.1,h.want.2.1⟩) (λks h g=>JTD ks h.want g.want) w G J r.1.1.1.1.d.1 e,JjL ?_⟩;have:=JdR w.want.1;show J0 q.1.2.2.1.2.1<=4097;omega
 ·have h1:j.2.1=1/\J0 j.1.2.2.1.2.1=J0 q.1.2.2.1.2.1+1:=by
   rcases k.1.2 with⟨h,z|z⟩|h|h
   ·exact⟨h,z⟩
   ·exact absurd z H
   ·exact absurd h E
   ·exact absurd h F
  have I: ¬∃p,Jsh o l q.1 p:=fun⟨p,y,e,c,_⟩=>by rw[k.2]at e;injection e with e;subst e;exact E c
  have hv:=JdR (JFD k.2 F);refine .some ⟨(J2 .i64 n 1,(j.1,q.2)),rfl,⟨⟨k.1.1.1,g1.2⟩,by show 0<=J2 .i64 n 1;omega,by show J2 .i64 n 1+_<=J0 j.1.2.2.1.2.1;omega,λ_=>by omega⟩,JJP h1.2 I,JjL (by show J0 q.1.2.2.1.2.1<=4097;omega)⟩
theorem JLh{x1:JM6}(h:Ty.fit B S (.pr Jp tq8) x1)(n:0<=B:=by omega)(k:0<=S:=by omega)(z:16384<=B:=by omega)(x:1073741824<=S:=by omega)(D:B<=1000000:=by omega)(C:S<=1000000000000:=by omega):Tot (Jf6 x1) λy=>Ty.fit B S JMi y:=by obtain⟨s,g,a⟩:=x1;obtain⟨hs,e,ha⟩:=h;dsimp only at hs e ha⊢;unfold Jf6;dsimp only;refine Ja (τ:=Jx) (λq=>(g,q,a,sZ,0,0,0,(false,[]),0)) (λq=>Ty.fit B S Jp q) (λq=>4097-J0 q.1.2.2.1.2.1) ?_ s rfl hs;rintro q g1;unfold Jpy;dsimp only;refine .bind (JLY (x1:=(q,g,a)) ⟨g1,e,ha⟩) λj h3=>.ne (λ_=>.some h3.1) λ_=>.bind (Jwb (x1:=(j.1.1,g)) ⟨h3.1.1.1,e⟩) λo h4=>.not (λ_=>.some h3.1) λ_=>.bind (JEM (x1:=(j.1,o.1,o.2.1)) ⟨h3.1.1,h4.1,h4.2.1⟩) λr h5=>.ne (λ_=>.bind (J08 (B:=B) (S:=S) h5.1.c) λA v=>.some ⟨h5.1.1,JU2 n k v.1⟩) λ_=>.eq (λ_=>.some ⟨h5.1.1,h3.1.2⟩) λc=>?_;obtain⟨e1,e2⟩:=h5.c c;have w:=h3.2;dsimp only at e1 e2 w;exact .some ⟨r.1,rfl,h5.1.1,oo,oo⟩
theorem JGv{x1:Jx}(h:Ty.fit B S Jp x1)(E:0<=B:=by omega)(D:0<=S:=by omega)(L:16384<=B:=by omega)(K:1073741824<=S:=by omega)(R:B<=1000000:=by omega)(P:S<=1000000000000:=by omega):Tot (Jcb x1) λy=>Ty.fit B S (.pr Jp JGy) y:=by
 have z0:Ty.fit B S Jp sZ:=JC E D Jp;unfold Jcb;refine .bind (J1i h.1) λN _=>.not (λ_=>.some ⟨z0,trivial,fkn 15⟩) λ_=>.gt (λc=>?_) λ_=>?_
 ·exact .bind (Jg h.1.i (J0U _) c) λG h3=>.bind (J7U (x1:=(x1,G.1)) ⟨h,h3.1.1⟩) λO h4=>.some ⟨h4.1.1,trivial,h4.1.2⟩
 refine .bind (JEf h.1) λj h5=>.eq (λ_=>.some ⟨h,trivial,fk0⟩) λI=>?_;have o:=J4 (l:=j);have x:0<J0 j:=by omega
 have v:(0:Int).toNat<j.length:=by unfold J0 at x;omega
 have C:idx j 0=some j[(0:Int).toNat]:=by unfold idx;rw[if_pos (J0U _),JK v]
 have hx:=h5.2 _ (Jgq v);generalize j[(0:Int).toNat]=n at C hx;refine Ja (τ:=Jx) (λq=>(j,q,sZ)) (λq=>Ty.fit B S Jp q) (λq=>left (JeW n) q.1) ?_ x1 rfl h;rintro q g1;unfold Jjf;dsimp only;rw[C];show Tot ((J1k (q.1,n)).bind _) _;refine .bind ((Jpt (x1:=(q.1,n)) ⟨g1.1,hx⟩).eqn) λz r=>.eq (λQ=>.some ⟨z0,trivial,r.1.1.g⟩) λI=>.ne (λ_=>.some ⟨⟨r.1.1.1,g1.2⟩,trivial,fk0⟩) λc=>?_;have w:JeW n q.1 z.2.2.2.1:=⟨z,r.2,c,rfl⟩;refine .bind ((J7U (x1:=(q,z.2.2.2.1)) ⟨g1,r.1.1.d.1⟩).eqn) λF k=>.ne (λM=>.some ⟨z0,trivial,k.1.1.2⟩) λA=>?_;obtain⟨H,J⟩:=JaE (B:=B) (S:=S) g1.1.2.2.2.1 k.2 A;have hl:=k.1.2 A;refine .some ⟨F.1,rfl,k.1.1.1,JqH w hl λe=>Jpl (B:=B) (S:=S) (JeW n) (λh=>⟨h.want.1,h.want.2.1⟩) (λks h g=>JQ0 ks h.want g.want) w H J k.1.1.1.1.d.1 e,JjL ?_⟩;have:=JdR w.want.1;show J0 q.1.2.2.1.2.1<=4097;omega
end
theorem JlQ{B S:Int}{x1:TQ4}(h:Ty.fit B S (.pr J0T tq0) x1)(p0:J0 x1.2.2.2.2.2.2.2.2.2.2.2.2.2.2.2.2.2.2.2.2.1<=16000)(U:J0 x1.2.2.2.2.2.2.2.2.2.2.2.2.2.2.2.2.2.2.2.2.2<=16000)(O:BH B S:=by omega)(Y:B<=1000000:=by omega)(W:S<=1000000000000:=by omega):Tot (J53 x1) λy=>Ty.fit B S JKE y/\(J0 y.2.2.2.2.2.2.2.2.2.2.2.2.2.2.2.2.2.2.2.2.1<=J0 x1.2.2.2.2.2.2.2.2.2.2.2.2.2.2.2.2.2.2.2.2.1+1/\J0 y.2.2.2.2.2.2.2.2.2.2.2.2.2.2.2.2.2.2.2.2.2<=J0 x1.2.2.2.2.2.2.2.2.2.2.2.2.2.2.2.2.2.2.2.2.2+1):=by
 unfold J53;have:J0 x1.2.2.2.2.2.2.2.2.2.2.2.2.2.2.2.2.2.2.2.2.1<=B:=h.k.k.c.1.1;have:=J4 (l:=x1.2.2.2.2.2.2.2.2.2.2.2.2.2.2.2.2.2.2.2.2.1);have:=J4 (l:=x1.2.2.2.2.2.2.2.2.2.2.2.2.2.2.2.2.2.2.2.2.2);have:J0 x1.2.2.2.2.2.2.2.2.2.2.2.2.2.2.2.2.2.2.2.2.2=_:=Jm h.k.k.d;have o:Ty.fit 16000 S (.l (.i .i64)) x1.2.2.2.2.2.2.2.2.2.2.2.2.2.2.2.2.2.2.2.2.1:=⟨(by omega:J0 x1.2.2.2.2.2.2.2.2.2.2.2.2.2.2.2.2.2.2.2.2.1<=16000),λx hx=>h.k.k.c.1.2 x hx⟩;have q:Ty.fit 16000 S (.l J0v) x1.2.2.2.2.2.2.2.2.2.2.2.2.2.2.2.2.2.2.2.2.2:=⟨(by omega:J0 x1.2.2.2.2.2.2.2.2.2.2.2.2.2.2.2.2.2.2.2.2.2<=16000),λx hx=>h.k.k.e x hx⟩;have:=J1.1 h.1.z.2.1;refine .ltf (λJ=>?_) λJ=>?_
 ·refine .gtf (λG=>?_) λG=>?_
  ·have:=J0y x1.1.2.1 1;refine .bind (J6p (l:=x1.2.2.2.2.2.2.2.2.2.2.2.2.2.2.2.2.2.2.2.2.1)) λ_ _=>.bind (JeQ o) λQ L=>.eq (λC=>?_) λC=>?_
   ·refine .bind (J08 (B:=0) (S:=0) (fkn 16)) λV E=>.some ⟨(⟨E.1.u,h.2.1,h.c.1,h.d.1,h.e.1,h.g.1,h.h.1,h.i.1,h.j.1,h.k.1,h.k.2.1,h.k.c.1,h.k.d.1,h.k.e.1,h.k.g.1,h.k.h.1,h.k.i.1,trivial,h.k.k.1,trivial,o.u,q.u⟩),om⟩
   ·refine .bind (J6p (l:=x1.2.2.2.2.2.2.2.2.2.2.2.2.2.2.2.2.2.2.2.2.1)) λ_ _=>.bind (JeQ o) λT v=>.bind (JLh (B:=B) (S:=S) (⟨⟨⟨h.2.1,h.c.1,⟨h.d.1,h.e.1,h.g.1⟩,⟨h.h.1,h.i.1,h.j.1⟩,⟨h.k.1,h.k.2.1⟩,h.k.c.1,h.k.d.1,h.k.e.1⟩,h.k.g.1,h.k.h.1,h.k.i.1,trivial,h.k.k.1⟩,v.1,h.1.z.2.2.2.2.2.u⟩)) λP n=>.eq (λI=>?_) λI=>?_
    ·exact .some ⟨(⟨n.2.z.u,h.2.1,h.c.1,h.d.1,h.e.1,h.g.1,h.h.1,h.i.1,h.j.1,h.k.1,h.k.2.1,h.k.c.1,h.k.d.1,h.k.e.1,h.k.g.1,h.k.h.1,h.k.i.1,trivial,h.k.k.1,trivial,o.u,q.u⟩),om⟩
    ·refine .eq (λH=>?_) λH=>?_
     ·have:=J1.1 h.1.z.2.2.2.2.2.1;refine .eq (λA=>?_) λA=>?_
      ·refine .bind (Jco n.1.1.c.1) λR D=>.bind (J0K (B:=16001) (Bl:=16000) (Bm:=1) (S:=S) (J0 x1.2.2.2.2.2.2.2.2.2.2.2.2.2.2.2.2.2.2.2.2.2) 1 q (J0n (B:=1) (S:=S) (t:=J0v) oo (⟨v.1,h.1.z.2.2.2.2.2.2.1,h.1.z.2.2.2.2.2.2.2.1,D,n.2.z.2.2.2.1.u⟩))) λK r=>?_;have:J0 K=_:=Jm r.1;exact .some ⟨(⟨n.2.z.u,n.1.1.1,n.1.1.2.1,n.1.1.c.1.1,n.1.1.c.1.2.1,n.1.1.c.1.c,n.1.1.d.1.1,n.1.1.d.1.2.1,n.1.1.d.1.c,n.1.1.e.1.1,n.1.1.e.1.2,n.1.1.g.1,n.1.1.h.1,n.1.1.i,n.1.2.1,n.1.c.1,n.1.d.1,trivial,n.1.g,trivial,o.u,r.1.u⟩),om⟩
      ·exact .some ⟨(⟨n.2.z.u,n.1.1.1,n.1.1.2.1,n.1.1.c.1.1,n.1.1.c.1.2.1,n.1.1.c.1.c,n.1.1.d.1.1,n.1.1.d.1.2.1,n.1.1.d.1.c,n.1.1.e.1.1,n.1.1.e.1.2,n.1.1.g.1,n.1.1.h.1,n.1.1.i,n.1.2.1,n.1.c.1,n.1.d.1,trivial,n.1.g,trivial,o.u,q.u⟩),om⟩
     ·exact .some ⟨(⟨n.2.z.u,n.1.1.1,n.1.1.2.1,n.1.1.c.1.1,n.1.1.c.1.2.1,n.1.1.c.1.c,n.1.1.d.1.1,n.1.1.d.1.2.1,n.1.1.d.1.c,n.1.1.e.1.1,n.1.1.e.1.2,n.1.1.g.1,n.1.1.h.1,n.1.1.i,n.1.2.1,n.1.c.1,n.1.d.1,trivial,n.1.g,trivial,o.u,q.u⟩),om⟩
  ·refine .bind (J08 (B:=0) (S:=0) (fkn 16)) λM F=>.some ⟨(⟨F.1.u,h.2.1,h.c.1,h.d.1,h.e.1,h.g.1,h.h.1,h.i.1,h.j.1,h.k.1,h.k.2.1,h.k.c.1,h.k.d.1,h.k.e.1,h.k.g.1,h.k.h.1,h.k.i.1,trivial,h.k.k.1,trivial,o.u,q.u⟩),om⟩
 ·refine .bind (J08 (B:=0) (S:=0) (fkn 16)) λN w=>.some ⟨(⟨w.1.u,h.2.1,h.c.1,h.d.1,h.e.1,h.g.1,h.h.1,h.i.1,h.j.1,h.k.1,h.k.2.1,h.k.c.1,h.k.d.1,h.k.e.1,h.k.g.1,h.k.h.1,h.k.i.1,trivial,h.k.k.1,trivial,o.u,q.u⟩),om⟩
theorem Jn2{B S:Int}{x1:List UInt8}(h:Ty.fit B S .s x1)(v:BS B S 0 0:=by omega)(z:S<=4611686018427387887:=by omega):Tot (J84 x1) λy=>Ty.fit 0 (S+16) .s y:=by
 unfold J84;have s0:Ty.fit 0 S .s x1:=h;have:J0 x1<=S:=s0;have:=J4 (l:=x1);refine .gt (λo=>?_) λo=>?_
 ·exact .some Jd
 ·refine .bind (JW (B:=0) (S:=0) (⟨Jd,J3M s0 oo,fkn 4⟩)) λg h4=>?_;have h5:Ty.fit 0 8 .s g:=h4.1.u;have:J0 g<=8:=h5;have:=J4 (l:=g);refine .bind (J3u) λn x=>?_;have e:Ty.fit 0 (S+8) .s n:=(by omega:J0 n<=(S+8));refine .bind (Jdo e) λw r=>.bind (JW (B:=0) (S:=(S+8)) (⟨e,Jal,fkn 4⟩)) λq j=>?_;have k:Ty.fit 0 (S+16) .s q:=j.1.u;exact .some k
theorem Jr5{B S:Int}{x1:(List UInt8)×J1y}(h:Ty.fit B S (.pr .s Jj) x1)(q:BS B S 0 0:=by omega)(r:S<=2305843009213693948:=by omega):Tot (J93 x1) λy=>Ty.fit 0 (2*S+8) .s y:=by
 unfold J93;have s0:Ty.fit 0 S (.pr .s Jj) x1:=h;refine .not (λn=>?_) λn=>?_
 ·refine .bind (JW (B:=0) (S:=S) (⟨s0.1,fkn 255,fkn 1⟩)) λv h2=>.some h2.1.u
 ·refine .bind (JW (B:=0) (S:=S) (⟨s0.1,J3M s0.2.2 oo,fkn 1⟩)) λj k=>?_;have:J0 j<=(S+8):=k.1;have:J0 x1.2.2<=S:=s0.2.2;refine .bind (J3u) λe o=>?_;have g:Ty.fit 0 (2*S+8) .s e:=(by omega:J0 e<=(2*S+8));exact .some g
theorem Jyf{B S:Int}{x1:Js}(h:Ty.fit B S Jh x1)(a6:BS B S 0 0:=by omega):Tot (J9x x1) λy=>Ty.fit 0 40992 tq7 y:=by
 unfold J9x;have s0:Ty.fit 0 S Jh x1:=h;refine .bind ((J3R (B:=0) (S:=S) (x1:=x1) s0).eqn) λy2 h1=>.not (λG=>?_) λG=>?_
 ·exact .some (⟨Jd,fkn 12⟩)
 ·have v3:=J35 (x:=x1) s0 h1.2 G;have:=J4 (l:=x1.2.2.2.2.2.2.2);have j:Ty.fit 0 8192 Jh x1:=v3.2;refine .bind (JW (B:=0) (S:=0) (⟨Jd,j.1,fkn 8⟩)) λZ r=>?_;have I:Ty.fit 0 8 .s Z:=r.1.u;refine .bind (JW (B:=0) (S:=8) (⟨I,j.2.1,fkn 1⟩)) λy4 K=>?_;have z:Ty.fit 0 16 .s y4:=K.1.u;refine .bind (JW (B:=0) (S:=16) (⟨z,j.c.1,fkn 4⟩)) λy5 H=>?_;have E:Ty.fit 0 24 .s y5:=H.1.u;refine .bind (JW (B:=0) (S:=24) (⟨E,j.d.1,fkn 8⟩)) λy6 O=>?_;have q:Ty.fit 0 32 .s y6:=O.1.u;refine .bind (JW (B:=0) (S:=32) (⟨q,j.e.1,fkn 8⟩)) λY L=>?_;have C:Ty.fit 0 40 .s Y:=L.1.u;refine .bind (JW (B:=0) (S:=40) (⟨C,j.g.1,fkn 8⟩)) λy8 T=>?_;have v:Ty.fit 0 48 .s y8:=T.1.u;refine .bind (JW (B:=0) (S:=48) (⟨v,j.h.1.1,fkn 4⟩)) λy9 Q=>?_;have P:Ty.fit 0 56 .s y9:=Q.1.u;refine .bind (JW (B:=0) (S:=56) (⟨P,j.h.1.2.1,fkn 1⟩)) λw U=>?_;have J:Ty.fit 0 64 .s w:=U.1.u;refine .bind (Jr5 (B:=0) (S:=8192) (⟨J.u,j.h.1.c.1⟩)) λW D=>?_;have o:Ty.fit 0 16392 .s W:=D.u;refine .bind (Jr5 (B:=0) (S:=16392) (⟨o,j.h.1.d.u⟩)) λM A=>?_;have R:Ty.fit 0 32792 .s M:=A.u;refine .bind (JW (B:=0) (S:=32792) (⟨R,J3M j.i oo,fkn 4⟩)) λk F=>?_;have V:Ty.fit 0 32800 .s k:=F.1.u;have:J0 k<=32800:=V;have:=J4 (l:=k);refine .bind (J3u) λn a5=>?_;have N:Ty.fit 0 40992 .s n:=(by omega:J0 n<=40992);exact .some (⟨N,fk0⟩)
theorem JnS{B S:Int}{x1:Js}(h:Ty.fit B S Jh x1)(g:BS B S 0 0:=by omega):Tot (J81 x1) λy=>Ty.fit 0 41008 .s y:=by unfold J81;refine .bind (Jyf (B:=0) (S:=S) h.z) λj h1=>.bind (Jn2 h1.1) λe h2=>?_;have h3:Ty.fit 0 41008 .s e:=h2.u;exact .some h3
theorem JHI{B S x1:Int}(h:Ty.fit B S (.i .i64) x1)(n:BS B S 0 0:=by omega):Tot (JbJ x1) λy=>Ty.fit 0 28 .s y:=by unfold JbJ;refine .bind (JW (B:=0) (S:=4) (⟨Jqp 4 rfl oo,h,fkn 8⟩)) λk h1=>?_;have h2:Ty.fit 0 12 .s k:=h1.1.u;refine .bind (Jn2 h2) λg e=>?_;have j:Ty.fit 0 28 .s g:=e.u;exact .some j
theorem Jau{B S:Int}{x1:J8w}(h:Ty.fit B S tq9 x1)(a1:BC B S 0 0:=by omega):Tot (J4O x1) λy=>Ty.fit 0 335937564 .s y:=by
 unfold J4O;refine .bind ((J2k h.1).eqn) λy2 h1=>.not (λK=>?_) λK=>?_
 ·exact .some Jd
 ·have v3:=J1Y h.1 h1.2 K;have:=J4 (l:=x1.1.2.1);have:J0 x1.1.2.1=_:=Jm h.1.2.1;have k:Ty.fit 4096 8192 JS x1.1:=v3.2;refine .bind (JHI k.1) λv A=>?_;have:J0 v<=28:=A;have:=J4 (l:=v);refine Ja (τ:=(List UInt8)×(List UInt8)×Int) (λq=>(x1.2,q.1,q.2.1,q.2.2,x1.1)) (λq=>(Ty.fit 0 0 (.i .i64) q.2.2/\0<=q.2.2/\(q.2.2<=J0 x1.1.2.1\/q.2.2<=0))/\(Ty.fit 0 167968796 .s q.1/\J0 q.1<=41008*q.2.2+J0 v)/\(Ty.fit 0 167968768 .s q.2.1/\J0 q.2.1<=41008*q.2.2+0)) (λq=>J0 x1.1.2.1-q.2.2) ?_ (v,[],0) rfl ?_
  ·rintro⟨g,e,j⟩ D;dsimp only at D;obtain⟨⟨M,Y,V⟩,⟨r,a0⟩,n,U⟩:=D;unfold JgX
   try dsimp only
   have:=J1.1 M;refine .lt (λN=>?_) λN=>?_
   ·refine .bind (Jg k.2.1) λy5 a3=>.le (λO=>?_) λO=>?_
    ·refine .bind (Jg k.2.1) λy6 Q=>.bind (JnS (B:=0) (S:=8192) Q.1.z) λF H=>?_;have:J0 g<=167968796:=r;have:=J4 (l:=g);have:J0 F<=41008:=H;have:=J4 (l:=F);refine .bind (J3u) λE W=>?_;have J:Ty.fit 0 167968796 .s E:=(by omega:J0 E<=167968796);have:=Jf j 1;exact .some ⟨(E,e,J2 .i64 j 1),rfl,⟨⟨J7,om,om⟩,⟨J,om⟩,n,om⟩,om,om⟩
    ·refine .bind (Jg k.2.1) λy9 G=>.bind (JnS (B:=0) (S:=8192) G.1.z) λw P=>?_;have:J0 e<=167968768:=n;have:=J4 (l:=e);have:J0 w<=41008:=P;have:=J4 (l:=w);refine .bind (J3u) λo Z=>?_;have L:Ty.fit 0 167968768 .s o:=(by omega:J0 o<=167968768);have:=Jf j 1;exact .some ⟨(g,o,J2 .i64 j 1),rfl,⟨⟨J7,om,om⟩,⟨r,om⟩,L,om⟩,om,om⟩
   ·refine .inr ?_;have:=Jjv x1.2 0;have:J0 e<=167968768:=n;have:=J4 (l:=e);have:=Jz6 (J4a x1.2 0) (J0 e);refine .bind (J7T n) λC R=>?_;have T:Ty.fit 0 167968768 .s C:=R.1;have:J0 g<=167968796:=r;have:=J4 (l:=g);have:=J4 (l:=C);refine .bind (J3u) λx a2=>?_;have I:Ty.fit 0 335937564 .s x:=(by omega:J0 x<=335937564);exact .some I
  ·have:J0 ([]:List UInt8)=0:=rfl
   try dsimp only
   exact⟨⟨fk0,oo,oo⟩,⟨A.u,oo⟩,Jd,oo⟩
theorem JBS{B S:Int}{x1:JDs}(h:Ty.fit B S (.pr Jp J9) x1)(G:BG B S:=by omega):Tot (JaD x1) λy=>Ty.fit B S (.pr JV .s) y:=by
 unfold JaD;refine .bind ((J5v (B:=B) (S:=S) (x1:=(x1.1.1.2.2.2.1,x1.2.2.1)) (⟨h.1.1.d.1,h.c.1⟩)).eqn) λx h1=>?_;have:J0 x1.1.1.2.2.2.1.2.1=_:=Jm h.1.1.d.1.2.1;have: -1<=x/\x<J0 x1.1.1.2.2.2.1.2.1:=h1.1.2;refine .ge (λC=>?_) λC=>?_
 ·refine .bind (Jg h.1.1.d.1.2.1) λI M=>.ite (λA=>?_) λA=>?_
  ·refine .bind (Jg h.1.1.d.1.2.1) λO j=>.bind (J9B (B:=0) (S:=S) j.1.z.1) λK o=>.bind (Jg h.1.1.d.1.2.1) λL k=>.bind (JaC (B:=B) (S:=S) (⟨h.1.1,k.1.z.1.2.1⟩)) λH e=>.bind (JGI (B:=B) (S:=S) (⟨h.1.2,h.c.1,o.1.u,h.d⟩)) λJ q=>.eq (λr=>?_) λr=>?_
   ·refine .bind (Jau (B:=B) (S:=S) (⟨e.1.c.1,h.2.1⟩)) λN v=>.some (⟨q.1.u,v.u⟩)
   ·refine .bind (Jau (B:=B) (S:=S) (⟨e.1.c.1,h.2.1⟩)) λD g=>.some (⟨h.1.2,g.u⟩)
  ·refine .bind (Jau (B:=B) (S:=S) (⟨h.1.1.c.1,h.2.1⟩)) λF w=>.some (⟨h.1.2,w.u⟩)
 ·refine .bind (Jau (B:=B) (S:=S) (⟨h.1.1.c.1,h.2.1⟩)) λE n=>.some (⟨h.1.2,n.u⟩)
theorem JhF{B S:Int}{x1:J2A}(h:Ty.fit B S tq7 x1)(G:BS B S 0 0:=by omega)(J:S<=9223372036854775807:=by omega):Tot (J6r x1) λy=>Ty.fit 0 S Jv y/\(y.2.2=0->0<=y.2.1/\y.2.1<=J0 x1.1/\J0 y.1<=8392):=by
 unfold J6r;have s0:Ty.fit 0 S tq7 x1:=h;have:=J1.1 s0.2;refine .ltf (λA=>?_) λA=>?_
 ·have:J0 x1.1<=S:=s0.1;have:=J4 (l:=x1.1);refine .gt (λC=>?_) λC=>?_
  ·exact .some ⟨(⟨Jd,fk0,fkn 1⟩),om⟩
  ·refine .bind ((J1e (B:=0) (S:=S) (x1:=(x1.1,x1.2,4)) (⟨s0.1,s0.2,fkn 4⟩)).eqn) λe z=>.ne (λn=>?_) λn=>?_
   ·exact .some ⟨(⟨Jd,fk0,fkn 5⟩),om⟩
   ·have v9:=J6H (x:=(x1.1,x1.2,4)) (⟨s0.1,s0.2,fkn 4⟩) z.2 n;have:=J1.1 z.1.1;have:1<=(4:Int)/\(4:Int)<=8/\0<=x1.2/\x1.2<=J0 x1.1/\(4:Int)<=J0 x1.1-x1.2/\((4:Int)<=4->0<=e.1/\e.1<=4294967295)/\((4:Int)=1->e.1<=255)/\((4:Int)=2->e.1<=65535):=v9.1;refine .gt (λg=>?_) λg=>?_
    ·exact .some ⟨(⟨Jd,fk0,fkn 2⟩),om⟩
    ·have:=J0y (J0 x1.1) x1.2;have:=Jf e.1 8;refine .lt (λr=>?_) λr=>?_
     ·exact .some ⟨(⟨Jd,fk0,fkn 5⟩),om⟩
     ·refine .bind ((J1e (B:=0) (S:=S) (x1:=(x1.1,J2 .i64 (J2 .i64 x1.2 4) e.1,4)) (⟨s0.1,J7,fkn 4⟩)).eqn) λH F=>?_;have:=Jf x1.2 4;have:=Jf (J2 .i64 x1.2 4) e.1;refine .bind (JcQ s0.1) λD k=>?_;have o:Ty.fit 0 S .s D:=k.1;refine .bind (Jdo o) λI E=>.ne (λv=>?_) λv=>?_
      ·exact .some ⟨(⟨Jd,fk0,fkn 3⟩),om⟩
      ·refine .bind (JcQ s0.1) λq j=>?_;have w:Ty.fit 0 S .s q:=j.1;have:=Jf x1.2 8;have:=Jf (J2 .i64 x1.2 8) e.1;have:=J4 (l:=q);exact .some ⟨(⟨w,J7,fk0⟩),om⟩
 ·have:J0 x1.1<=S:=s0.1;exact .some ⟨(⟨Jd,fk0,fkn 1⟩),om⟩
theorem JbD{B S:Int}{x1:JDI}(h:Ty.fit B S JH5 x1)(p0:0<=x1.2.2.1)(r:x1.2.2.1<=J0 x1.2.1)(w:0<=x1.1)(q:x1.1<=4294967295)(o:BS B S 0 0:=by omega)(v:S<=9223372036854775807:=by omega):Tot (J3B x1) λy=>Ty.fit 0 S (.pr .s Jv) y/\(0<=y.2.2.1/\y.2.2.1<=J0 y.2.1):=by
 unfold J3B;have s0:Ty.fit 0 S JH5 x1:=h;have:=J1.1 s0.2.2.1;have:J0 x1.2.1<=S:=s0.2.1;have:=J4 (l:=x1.2.1);refine .ne (λk=>?_) λk=>?_
 ·exact .some ⟨(⟨Jd,s0.2⟩),om⟩
 ·have:=J0y (J0 x1.2.1) x1.2.2.1;refine .gt (λj=>?_) λj=>?_
  ·exact .some ⟨(⟨Jd,s0.2.1,s0.2.2.1,fkn 5⟩),om⟩
  ·have:=Jf x1.2.2.1 x1.1;have:=J0y (J2 .i64 x1.2.2.1 x1.1) x1.1;refine .bind (JcQ s0.2.1) λn g=>?_;have e:Ty.fit 0 S .s n:=g.1;exact .some ⟨(⟨e,s0.2.1,J7,s0.2.2.2⟩),om⟩
theorem J15{B S:Int}{x1:JDI}(h:Ty.fit B S JH5 x1)(p0:0<=x1.2.2.1)(q:x1.2.2.1<=J0 x1.2.1)(o:BS B S 0 0:=by omega)(r:S<=9223372036854775807:=by omega):Tot (J0x x1) λy=>Ty.fit 0 S JH5 y/\(0<=y.2.2.1/\y.2.2.1<=J0 y.2.1/\(x1.1<=4->0<=y.1/\y.1<=4294967295)/\(x1.1=1->y.1<=255)):=by
 unfold J0x;have s0:Ty.fit 0 S JH5 x1:=h;have:=J1.1 s0.2.2.1;have:J0 x1.2.1<=S:=s0.2.1;refine .ne (λn=>?_) λn=>?_
 ·have:=J1.1 s0.1;exact .some ⟨(⟨fk0,s0.2⟩),om⟩
 ·refine .bind ((J1e (B:=0) (S:=S) (x1:=(x1.2.1,x1.2.2.1,x1.1)) (⟨s0.2.1,s0.2.2.1,s0.1⟩)).eqn) λg e=>.ne (λk=>?_) λk=>?_
  ·have:=J1.1 s0.1;exact .some ⟨(⟨fk0,s0.2.1,s0.2.2.1,e.1.2⟩),om⟩
  ·have j:=J6H (x:=(x1.2.1,x1.2.2.1,x1.1)) (⟨s0.2.1,s0.2.2.1,s0.1⟩) e.2 k;have:=J1.1 s0.1;have:=J1.1 e.1.1;have:1<=x1.1/\x1.1<=8/\0<=x1.2.2.1/\x1.2.2.1<=J0 x1.2.1/\x1.1<=J0 x1.2.1-x1.2.2.1/\(x1.1<=4->0<=g.1/\g.1<=4294967295)/\(x1.1=1->g.1<=255)/\(x1.1=2->g.1<=65535):=j.1;have:=Jf x1.2.2.1 x1.1;exact .some ⟨(⟨e.1.1,s0.2.1,J7,s0.2.2.2⟩),om⟩
theorem JcL{B S:Int}{x1:JZ}(h:Ty.fit B S Jv x1)(p0:0<=x1.2.1)(v:x1.2.1<=J0 x1.1)(r:BS B S 0 0:=by omega)(w:S<=9223372036854775807:=by omega):Tot (J48 x1) λy=>Ty.fit 0 S (.pr Jj Jv) y/\(0<=y.2.2.1/\y.2.2.1<=J0 y.2.1):=by
 unfold J48;refine .bind (J15 (B:=0) (S:=S) (⟨fkn 1,h.z⟩) om om) λj h4=>?_;have:=J1.1 h4.1.c.1;have:=J1.1 h4.1.1;have:0<=j.2.2.1/\j.2.2.1<=J0 j.2.1/\0<=j.1/\j.1<=255:=⟨h4.2.1,h4.c.1,(h4.d.1 (show(1:Int)<=4 by decide)).1,h4.e rfl⟩;refine .nef (λo=>?_) λo=>?_
 ·refine .eq (λn=>?_) λn=>?_
  ·exact .some ⟨(⟨⟨trivial,Jd⟩,h4.1.2⟩),om⟩
  ·refine .gt (λq=>?_) λq=>?_
   ·exact .some ⟨(⟨⟨trivial,Jd⟩,h4.1.2.1,h4.1.c.1,fkn 4⟩),om⟩
   ·refine .bind (JbD (B:=0) (S:=S) (h4.1) om om om om) λk g=>?_;have:0<=k.2.2.1/\k.2.2.1<=J0 k.2.1:=g.2;exact .some ⟨(⟨⟨trivial,g.1.1⟩,g.1.2⟩),om⟩
 ·exact .some ⟨(⟨⟨trivial,Jd⟩,h4.1.2⟩),om⟩
theorem Jyl{B S:Int}{x1:List UInt8}(h:Ty.fit B S .s x1)(W:BS B S 0 0:=by omega)(Y:S<=9223372036854775807:=by omega):Tot (J9w x1) λy=>Ty.fit 0 8192 (.pr Jh (.i .i64)) y:=by
 unfold J9w;have:=J4 (l:=x1);refine .bind (J15 (B:=0) (S:=S) (⟨fkn 8,h.z,fzr⟩) om om) λO h1=>?_;have:=J1.1 h1.1.c.1;refine .bind (J15 (B:=0) (S:=S) (⟨fkn 1,h1.1.2⟩) om om) λI F=>?_;have:=J1.1 F.1.c.1;refine .bind (J15 (B:=0) (S:=S) (⟨fkn 4,F.1.2⟩) om om) λN k=>?_;have:=J1.1 k.1.c.1;refine .bind (J15 (B:=0) (S:=S) (⟨fkn 8,k.1.2⟩) om om) λK q=>?_;have:=J1.1 q.1.c.1;refine .bind (J15 (B:=0) (S:=S) (⟨fkn 8,q.1.2⟩) om om) λL n=>?_;have:=J1.1 n.1.c.1;refine .bind (J15 (B:=0) (S:=S) (⟨fkn 8,n.1.2⟩) om om) λH o=>?_;have:=J1.1 o.1.c.1;refine .bind (J15 (B:=0) (S:=S) (⟨fkn 4,o.1.2⟩) om om) λJ j=>?_;have:=J1.1 j.1.c.1;refine .bind (J15 (B:=0) (S:=S) (⟨fkn 1,j.1.2⟩) om om) λM v=>?_;have:=J1.1 v.1.c.1;refine .bind (JcL v.1.2 om om) λA r=>?_;have:=J1.1 r.1.c.1;refine .bind (JcL r.1.2 om om) λE w=>?_;have:=J1.1 w.1.c.1;refine .bind (J15 (B:=0) (S:=S) (⟨fkn 4,w.1.2⟩) om om) λg e=>?_;have:=J1.1 e.1.c.1;have:=J1.1 e.1.1;have:0<=g.2.2.1/\g.2.2.1<=J0 g.2.1/\0<=g.1/\g.1<=4294967295:=⟨e.2.1,e.c.1,e.d.1 (show(4:Int)<=4 by decide)⟩;refine .bind (JbD (B:=0) (S:=S) (e.1) om om om om) λC D=>.ne (λP=>?_) λP=>?_
 ·exact .some (⟨⟨fk0,fk0,fk0,fk0,fk0,fk0,⟨fk0,fk0,⟨trivial,Jd⟩,trivial,Jd⟩,Jd⟩,D.1.d⟩)
 ·refine .ne (λT=>?_) λT=>?_
  ·exact .some (⟨⟨fk0,fk0,fk0,fk0,fk0,fk0,⟨fk0,fk0,⟨trivial,Jd⟩,trivial,Jd⟩,Jd⟩,fkn 4⟩)
  ·refine .bind ((J3R (B:=0) (S:=S) (x1:=(O.1,I.1,N.1,K.1,L.1,H.1,(J.1,M.1,A.1,E.1),C.1)) (⟨h1.1.1,F.1.1,k.1.1,q.1.1,n.1.1,o.1.1,⟨j.1.1,v.1.1,r.1.1,w.1.1⟩,D.1.1⟩)).eqn) λV R=>.not (λG=>?_) λG=>?_
   ·exact .some (⟨⟨fk0,fk0,fk0,fk0,fk0,fk0,⟨fk0,fk0,⟨trivial,Jd⟩,trivial,Jd⟩,Jd⟩,fkn 12⟩)
   ·have U:=J35 (x:=(O.1,I.1,N.1,K.1,L.1,H.1,(J.1,M.1,A.1,E.1),C.1)) (⟨h1.1.1,F.1.1,k.1.1,q.1.1,n.1.1,o.1.1,⟨j.1.1,v.1.1,r.1.1,w.1.1⟩,D.1.1⟩) R.2 G;have Q:Ty.fit 0 8192 Jh (O.1,I.1,N.1,K.1,L.1,H.1,(J.1,M.1,A.1,E.1),C.1):=U.2;exact .some (⟨Q,fk0⟩)
theorem JDJ{B S:Int}{x1:List UInt8}(h:Ty.fit B S .s x1)(V:BS B S 0 0:=by omega)(Z:S<=9223372036854775807:=by omega):Tot (Jcu x1) λy=>Ty.fit 4096 8192 tq9 y:=by
 unfold Jcu;have s0:Ty.fit 0 S .s x1:=h;refine .bind (JhF (B:=0) (S:=S) (⟨s0,fk0⟩)) λo h1=>?_;have:=J1.1 h1.1.2.1;have:o.2.2=0->0<=o.2.1/\o.2.1<=J0 x1/\J0 o.1<=8392:=h1.2;refine .nef (λO=>?_) λO=>?_
 ·refine .nef (λG=>?_) λG=>?_
  ·refine .bind (J7T h1.1.1) λY U=>.ite (λF=>?_) λF=>?_
   ·exact .some (⟨fzr,fkn 4⟩)
   ·refine .bind ((J1e (B:=0) (S:=S) (x1:=(o.1,4,8)) (⟨h1.1.1,fkn 4,fkn 8⟩)).eqn) λH j=>.ltf (λM=>?_) λM=>?_
    ·refine .gt (λL=>?_) λL=>?_
     ·exact .some (⟨fzr,fkn 4⟩)
     ·refine Ja (τ:=Int×(List Js)×Int) (λq=>(x1,q.1,[],0,0,q.2.1,[],H.1,q.2.2)) (λq=>Ty.fit 0 0 (.i .i64) q.1/\Ty.fit 4096 8192 (.l Jh) q.2.1/\Ty.fit 0 0 (.i .i64) q.2.2/\(J0 q.2.1<=4096)/\(0<=q.1)/\(q.1<=J0 x1)) (λq=>4096-J0 q.2.1) ?_ (o.2.1,[],JI .i64 H.1 1) rfl ?_
      ·rintro⟨Q,g,P⟩ z;dsimp only at z;obtain⟨K,e,n,R,T,W⟩:=z;unfold Jj1
       try dsimp only
       have:=J4 (l:=g);have:J0 g=_:=Jm e;refine .lt (λC=>?_) λC=>?_
       ·refine .bind (JhF (B:=0) (S:=S) (⟨s0,K⟩)) λr k=>?_;have:=J1.1 k.1.2.1;have:r.2.2=0->0<=r.2.1/\r.2.1<=J0 x1/\J0 r.1<=8392:=k.2;refine .ne (λD=>?_) λD=>?_
        ·exact .some (⟨⟨j.1.1,e,n⟩,fk0⟩)
        ·refine .bind (Jyl k.1.1) λN v=>.nef (λJ=>?_) λJ=>?_
         ·have:=J1.1 v.1.1;refine .ne (λE=>?_) λE=>?_
          ·exact .some (⟨⟨j.1.1,e,n⟩,fk0⟩)
          ·refine .bind (J0K (B:=4097) (Bl:=4096) (Bm:=1) (S:=8192) (J0 g) 1 e (J0n (B:=1) (S:=8192) (t:=Jh) oo v.1.u)) λw A=>?_;have:J0 w=_:=Jm A.1;have I:Ty.fit 4096 8192 (.l Jh) w:=⟨(by omega:J0 w<=4096),λx hx=>A.1.2 x hx⟩;exact .some ⟨(r.2.1,w,N.1.1),rfl,⟨k.1.2.1,I,v.1.1,om,om,om⟩,om,om⟩
         ·exact .some (⟨⟨j.1.1,e,n⟩,fk0⟩)
       ·exact .some (⟨⟨j.1.1,e,n⟩,fk0⟩)
      ·try dsimp only
       exact⟨h1.1.2.1,Jb,J0Y,om,om,om⟩
    ·exact .some (⟨fzr,fkn 4⟩)
  ·exact .some (⟨fzr,fkn 4⟩)
 ·exact .some (⟨fzr,fkn 4⟩)
theorem JHB{B S:Int}{x1:Jef}(h:Ty.fit B S JxZ x1)(j:BS B S 0 0:=by omega):Tot (Jcg x1) λy=>Ty.fit 0 0 .b y:=by
 unfold Jcg;refine .ne (λg=>?_) λg=>?_
 ·exact .some trivial
 ·have:=J1.1 h.1.2.1.2;refine .ne (λe=>?_) λe=>?_
  ·exact .some trivial
  ·exact .some trivial
theorem JDT{B S:Int}{x1:JiN}(h:Ty.fit B S JDY x1)(ac:BS B S 0 0:=by omega)(hB:B<=17179869183:=by omega):Tot (Jcc x1) λy=>Ty.fit (2*B+1) S (.l J5) y/\(J0 y<=J0 x1.1+1):=by
 unfold Jcc;have:J0 x1.1<=B:=h.1.1;have:=J4 (l:=x1.1);have:J0 x1.1=_:=Jm h.1;refine Ja (τ:=Int) (λq=>(x1.1,q,x1.2)) (λq=>(Ty.fit 0 0 (.i .i64) q/\0<=q/\(q<=J0 x1.1\/q<=0))) (λq=>J0 x1.1-q) ?_ 0 rfl ?_
 ·rintro n ⟨i4,w5,z6⟩;unfold Jk5
  try dsimp only
  have:=J1.1 i4;refine .lt (λc7=>?_) λc7=>?_
  ·refine .bind (Jg h.1) λy3 O=>.bind (JHB (B:=0) (S:=0) (⟨O.1,h.2⟩)) λy4 a5=>.ite (λM=>?_) λM=>?_
   ·have:=Jf n 1;exact .some ⟨J2 .i64 n 1,rfl,⟨J7,om,om⟩,om,om⟩
   ·refine .inr ?_;refine .lt (λa2=>?_) λa2=>?_
    ·refine .bind (Jg h.1) λy5 a6=>.ite (λE=>?_) λE=>?_
     ·have aa:=J1S.1 E;exact .some ⟨h.1.u,om⟩
     ·refine .bind (J97 h.1) λG e=>.clo e.1 oo (by decide) ?_;have:J0 G<=B:=e.1.1;have:J0 G=_:=Jm e.1;refine .bind (J0K (B:=(B+1)) (Bl:=B) (Bm:=1) (S:=S) (J0 G) 1 e.1 ((J0n (B:=1) (S:=0) (t:=J5) oo h.2).u)) λR F=>.bind (J6A h.1) λH k=>?_;have:J0 R=_:=Jm F.1;have:J0 H<=B:=k.1.1;have:J0 H=_:=Jm k.1;refine .bind (J0K (B:=(2*B+1)) (Bl:=(B+1)) (Bm:=B) (S:=S) (J0 R) (J0 H) F.1 k.1) λK v=>?_;have:J0 K=_:=Jm v.1;exact .some ⟨v.1,om⟩
    ·refine .bind (J97 h.1) λZ A=>.clo A.1 oo (by decide) ?_;refine .bind (J0K (B:=(B+1)) (Bl:=B) (Bm:=1) (S:=S) (J0 Z) 1 A.1 ((J0n (B:=1) (S:=0) (t:=J5) oo h.2).u)) λL a1=>.bind (J6A h.1) λW Y=>.bind (J0K (B:=(2*B+1)) (Bl:=(B+1)) (Bm:=B) (S:=S) (J0 L) (J0 W) a1.1 Y.1) λa8 V=>.some ⟨V.1,om⟩
  ·refine .inr ?_;refine .lt (λN=>?_) λN=>?_
   ·refine .bind (Jg h.1) λab a9=>.ite (λz=>?_) λz=>?_
    ·have ad:=J1S.1 z;exact .some ⟨h.1.u,om⟩
    ·refine .bind (J97 h.1) λQ C=>.clo C.1 oo (by decide) ?_;refine .bind (J0K (B:=(B+1)) (Bl:=B) (Bm:=1) (S:=S) (J0 Q) 1 C.1 ((J0n (B:=1) (S:=0) (t:=J5) oo h.2).u)) λU a0=>.bind (J6A h.1) λT I=>.bind (J0K (B:=(2*B+1)) (Bl:=(B+1)) (Bm:=B) (S:=S) (J0 U) (J0 T) a0.1 I.1) λa7 J=>.some ⟨J.1,om⟩
   ·refine .bind (J97 h.1) λo g=>.clo g.1 oo (by decide) ?_;have:J0 o<=B:=g.1.1;have:J0 o=_:=Jm g.1;refine .bind (J0K (B:=(B+1)) (Bl:=B) (Bm:=1) (S:=S) (J0 o) 1 g.1 ((J0n (B:=1) (S:=0) (t:=J5) oo h.2).u)) λr D=>.bind (J6A h.1) λj x=>?_;have:J0 r=_:=Jm D.1;have:=J4 (l:=j);have:J0 j=_:=Jm x.1;refine .bind (J0K (B:=(2*B+1)) (Bl:=(B+1)) (Bm:=B) (S:=S) (J0 r) (J0 j) D.1 x.1) λP w=>?_;have:J0 P=_:=Jm w.1;exact .some ⟨w.1,om⟩
 ·try dsimp only
  exact⟨fk0,oo,oo⟩
section
variable {B S:Int}
theorem JCe{x1:J04×List Jq}(h:Ty.fit B S (.pr JS (.l Jl)) x1)(J:BH B S:=by omega)(C:B<=20000:=by omega):Tot (Jam x1) λy=>Ty.fit 400000001 0 (.pr (.l J5) (.i .i64)) y:=by
 obtain⟨l,e⟩:=x1;obtain⟨hl,v⟩:=h;unfold Jam;dsimp only;have:J0 e<=20000:=Jfi v.1 C;have E:=J4 (l:=e);refine Ja (τ:=Jws) (λq=>(e,q.1,q.2,l)) (λq=>0<=q.2/\q.2<=J0 e/\Ty.fit 400000001 0 (.l J5) q.1/\J0 q.1<=20000*q.2) (λq=>J0 e-q.2) ?_ ([],0) rfl ⟨J0U _,E,Jb,by show(0:Int)<=20000*0;omega⟩;rintro⟨out,i⟩ ⟨r,h1,h2,h3⟩;dsimp only at r h1 h2 h3;unfold Jit;dsimp only;have a1:=Jf i 1;refine .lt (λc=>?_) λc=>.some ⟨h2,fk0⟩;have n:i.toNat<e.length:=by unfold J0 at c;omega
 have x:idx e i=some e[i.toNat]:=by unfold idx;rw[if_pos r,JK n]
 have hx:=v.2 _ (Jgq n);generalize e[i.toNat]=t at x hx;have:J0 t.2.2.2.2.1<=20000:=Jfi hx.2.2.2.2.1.1 C;refine Ja (τ:=Jws) (λq=>(e,q.1,i,q.2,l)) (λq=>0<=q.2/\q.2<=J0 t.2.2.2.2.1/\Ty.fit 400000001 0 (.l J5) q.1/\J0 q.1<=20000*i+q.2) (λq=>J0 t.2.2.2.2.1-q.2) ?_ (out,0) rfl ⟨J0U _,J4,h2,by show J0 out<=20000*i+0;omega⟩;rintro⟨out,k⟩ ⟨w,g1,g2,H⟩;dsimp only at w g1 g2 H;unfold JgO;dsimp only;rw[x];have a2:=Jf k 1;show Tot (if ltI k (J0 t.2.2.2.2.1)=true then _ else _) _;refine .lt (λz=>?_) λz=>.some ⟨(out,J2 .i64 i 1),rfl,⟨by show 0<=J2 .i64 i 1;omega,by show J2 .i64 i 1<=J0 e;omega,g2,by show J0 out<=20000*J2 .i64 i 1;omega⟩,by show J0 e-J2 .i64 i 1<J0 e-i;omega,oo⟩;show Tot ((idx t.2.2.2.2.1 k).bind _) _;refine .bind (Jg hx.2.2.2.2.1 w z) λF G=>.bind (J4l (x1:=(l,F)) ⟨hl,G.1⟩) λg o=>.ne (λ_=>.inr (.some ⟨Jb,fkn 14⟩)) λ_=>.nef (λ_=>?_) λ_=>.inr (.some ⟨Jb,fkn 13⟩);show Tot (if neI g.1.2.2.1 t.1=true then _ else _) _;refine .ne (λ_=>.inr (.some ⟨Jb,fkn 13⟩)) λ_=>?_;have D:Ty.fit 0 0 J5 (g.1.2.2.1,(g.1.2.2.2.2.2.2.1.1,g.1.2.2.2.2.2.2.1.2.1),2):=⟨o.1.2.2.1,⟨o.1.2.2.2.2.2.2.1.1,o.1.2.2.2.2.2.2.1.2.1⟩,fkn 2⟩;have:=J4 (l:=out);refine .bind (JDT (B:=J0 out) (S:=0) (x1:=(out,g.1.2.2.1,(g.1.2.2.2.2.2.2.1.1,g.1.2.2.2.2.2.2.1.2.1),2)) ⟨⟨J0U _,g2.2⟩,D⟩) λj A=>?_;have I:J0 j<=J0 out+1:=A.2;exact .some ⟨(j,J2 .i64 k 1),rfl,⟨by show 0<=J2 .i64 k 1;omega,by show J2 .i64 k 1<=J0 t.2.2.2.2.1;omega,⟨by show J0 j<=400000001;omega,A.1.2⟩,by show J0 j<=20000*i+J2 .i64 k 1;omega⟩,by show J0 t.2.2.2.2.1-J2 .i64 k 1<J0 t.2.2.2.2.1-k;omega,oo⟩
end
theorem JyA{B S:Int}{x1:List UInt8}(h:Ty.fit B S .s x1)(N:BS B S 0 0:=by omega)(T:S<=9223372036854775807:=by omega):Tot (J9e x1) λy=>Ty.fit 64 0 JxW y:=by
 unfold J9e;have s0:Ty.fit 0 S .s x1:=h;refine .bind ((J1e (B:=0) (S:=S) (x1:=(x1,0,2)) (⟨s0,fk0,fkn 2⟩)).eqn) λk h1=>.nef (λF=>?_) λF=>?_
 ·have v4:=J6H (x:=(x1,0,2)) (⟨s0,fk0,fkn 2⟩) h1.2 F;have:=J1.1 h1.1.1;have:1<=(2:Int)/\(2:Int)<=8/\0<=(0:Int)/\(0:Int)<=J0 x1/\(2:Int)<=J0 x1-(0:Int)/\((2:Int)<=4->0<=k.1/\k.1<=4294967295)/\((2:Int)=1->k.1<=255)/\((2:Int)=2->k.1<=65535):=v4.1;have:=JGa 24 k.1;refine .lt (λJ=>?_) λJ=>?_
  ·exact .some (⟨Jb,fkn 5⟩)
  ·refine .gt (λv=>?_) λv=>?_
   ·exact .some (⟨Jb,fkn 4⟩)
   ·refine Ja (τ:=JgY) (λq=>(x1,k.1,q.1,[],q.2)) (λq=>(Ty.fit 0 0 (.i .i64) q.1/\0<=q.1/\(q.1<=k.1\/q.1<=0))/\(Ty.fit 65535 0 (.l J9) q.2/\J0 q.2<=1*q.1+0)) (λq=>k.1-q.1) ?_ (0,[]) rfl ?_
    ·rintro⟨e,g⟩ n;dsimp only at n;obtain⟨⟨D,M,L⟩,j,K⟩:=n;unfold Jfo
     try dsimp only
     have:=J1.1 D;refine .lt (λI=>?_) λI=>?_
     ·refine .bind ((J1e (B:=0) (S:=S) (x1:=(x1,J2 .i64 2 (J20 .i64 24 e),8)) (⟨s0,J7,fkn 8⟩)).eqn) λR G=>.bind ((J1e (B:=0) (S:=S) (x1:=(x1,J2 .i64 10 (J20 .i64 24 e),8)) (⟨s0,J7,fkn 8⟩)).eqn) λP E=>.bind ((J1e (B:=0) (S:=S) (x1:=(x1,J2 .i64 18 (J20 .i64 24 e),8)) (⟨s0,J7,fkn 8⟩)).eqn) λQ z=>?_;have:J0 g<=65535:=j.1;have:=J4 (l:=g);have:J0 g=_:=Jm j;refine .bind (J0K (B:=65535) (Bl:=65535) (Bm:=1) (S:=0) (J0 g) 1 j (J0n (B:=1) (S:=0) (t:=J9) oo (⟨G.1.1,E.1.1,z.1.1⟩))) λw r=>?_;have:=Jf e 1;have:J0 w=_:=Jm r.1;exact .some ⟨(J2 .i64 e 1,w),rfl,⟨⟨J7,om,om⟩,r.1,om⟩,om,om⟩
     ·refine .inr ?_;refine .bind ((J5Y j).eqn) λO C=>.not (λo=>?_) λo=>?_
      ·exact .some (⟨Jb,fkn 28⟩)
      ·have A:=J4N j C.2 o;have H:Ty.fit 64 0 (.l J9) g:=A.2;exact .some (⟨H,fk0⟩)
    ·have:J0 ([]:List T_api_Row)=0:=rfl
     try dsimp only
     exact⟨⟨fk0,oo,oo⟩,Jb,oo⟩
 ·exact .some (⟨Jb,fkn 5⟩)
theorem J26{B S:Int}{x1:JFx}(h:Ty.fit B S JGs x1)(p0:0<=x1.2.2.1)(n:x1.2.2.1<=J0 x1.2.1)(k:BS B S 0 0:=by omega)(o:S<=9223372036854775807:=by omega):Tot (J14 x1) λy=>Ty.fit 0 S JGs y/\(0<=y.2.2.1/\y.2.2.1<=J0 y.2.1/\(x1.1<=4->0<=y.1/\y.1<=4294967295)/\(x1.1=1->y.1<=255)/\(x1.1=2->y.1<=65535)):=by
 unfold J14;have s0:Ty.fit 0 S JGs x1:=h;have:=J1.1 s0.2.2.1;have:J0 x1.2.1<=S:=s0.2.1;refine .bind ((J1e (B:=0) (S:=S) (x1:=(x1.2.1,x1.2.2.1,x1.1)) (⟨s0.2.1,s0.2.2.1,s0.1⟩)).eqn) λe h4=>.itf (λj=>?_) λj=>?_
 ·have:=J1.1 h4.1.2;refine .ne (λg=>?_) λg=>?_
  ·have:=J1.1 s0.1;exact .some ⟨(⟨fk0,s0.2.1,s0.2.2.1,trivial⟩),om⟩
  ·have v9:=J6H (x:=(x1.2.1,x1.2.2.1,x1.1)) (⟨s0.2.1,s0.2.2.1,s0.1⟩) h4.2 g;have:=J1.1 s0.1;have:=J1.1 h4.1.1;have:1<=x1.1/\x1.1<=8/\0<=x1.2.2.1/\x1.2.2.1<=J0 x1.2.1/\x1.1<=J0 x1.2.1-x1.2.2.1/\(x1.1<=4->0<=e.1/\e.1<=4294967295)/\(x1.1=1->e.1<=255)/\(x1.1=2->e.1<=65535):=v9.1;have:=Jf x1.2.2.1 x1.1;exact .some ⟨(⟨h4.1.1,s0.2.1,J7,trivial⟩),om⟩
 ·have:=J1.1 s0.1;exact .some ⟨(⟨fk0,s0.2.1,s0.2.2.1,trivial⟩),om⟩
theorem JcG{B S:Int}{x1:JFx}(h:Ty.fit B S JGs x1)(p0:1<=x1.1)(O:x1.1<=2)(N:0<=x1.2.2.1)(M:x1.2.2.1<=J0 x1.2.1)(K:BS B S 0 0:=by omega)(P:S<=9223372036854775807:=by omega):Tot (J47 x1) λy=>Ty.fit 65535 S (.pr (.l (.i .i64)) J0q) y/\(0<=y.2.2.1/\y.2.2.1<=J0 y.2.1):=by
 unfold J47;have s0:Ty.fit 0 S JGs x1:=h;refine .bind (J26 (B:=0) (S:=S) (s0) om om) λe h5=>?_;have:=J1.1 h5.1.c.1;have:=J1.1 h5.1.1;have:0<=e.2.2.1/\e.2.2.1<=J0 e.2.1/\(x1.1<=4->0<=e.1/\e.1<=4294967295)/\(x1.1=1->e.1<=255)/\(x1.1=2->e.1<=65535):=h5.2;refine Ja (τ:=JOG) (λq=>(q.1,q.2.1,q.2.2)) (λq=>Ty.fit 0 0 (.i .i64) q.1/\Ty.fit 0 S J0q q.2.1/\Ty.fit 65535 0 (.l (.i .i64)) q.2.2/\(J0 q.2.2+q.1<=65535)/\(0<=q.1)/\(J0 q.2.2<=65535)/\(0<=q.2.1.2.1)/\(q.2.1.2.1<=J0 q.2.1.1)) (λq=>q.1) ?_ (e.1,e.2,[]) rfl ?_
 ·rintro⟨o,E,n⟩ r;dsimp only at r;obtain⟨D,g,k,J,I,L,G,H⟩:=r;unfold Jbk
  try dsimp only
  have:=J4 (l:=n);have:=J1.1 D;have:=J1.1 g.2.1;refine .gt (λz=>?_) λz=>?_
  ·refine .not (λA=>?_) λA=>?_
   ·refine .bind (J26 (B:=0) (S:=S) (⟨fkn 8,g⟩) om om) λF j=>?_;have:=J1.1 j.1.c.1;refine .bind (J0K (B:=65536) (Bl:=65535) (Bm:=1) (S:=0) (J0 n) 1 k (J0n (B:=1) (S:=0) (t:=(.i .i64)) oo j.1.1)) λv C=>?_;have w:Ty.fit 65535 0 (.l (.i .i64)) v:=⟨(by omega:J0 v<=65535),λx hx=>C.1.2 x hx⟩;have:=J0y o 1;exact .some ⟨(JI .i64 o 1,F.2,v),rfl,⟨J0Y,j.1.2,w,om,om,om,om,om⟩,om,om⟩
   ·exact .some ⟨(⟨k.u,g.u⟩),om⟩
  ·exact .some ⟨(⟨k.u,g.u⟩),om⟩
 ·try dsimp only
  exact⟨h5.1.1,h5.1.2,Jb,om,om,om,om,om⟩
theorem Jxq{B S:Int}{x1:List UInt8}(h:Ty.fit B S .s x1)(a3:BS B S 0 0:=by omega)(hS:S<=9223372036854775807:=by omega):Tot (J9v x1) λy=>Ty.fit 4096 0 tq2 y:=by
 unfold J9v;have:=J4 (l:=x1);refine .bind (J26 (B:=0) (S:=S) (⟨fkn 2,h.z,fk0,trivial⟩) om om) λk h1=>?_;have:=J1.1 h1.1.c.1;have:=J1.1 h1.1.1;have:0<=k.2.2.1/\k.2.2.1<=J0 k.2.1/\0<=k.1/\k.1<=65535:=⟨h1.2.1,h1.c.1,(h1.d.1 (show(2:Int)<=4 by decide)).1,h1.g rfl⟩;refine Ja (τ:=Int×J2p×(List Jq)) (λq=>(x1,q.1,q.2.1,q.2.2)) (λq=>Ty.fit 0 0 (.i .i64) q.1/\Ty.fit 0 S J0q q.2.1/\Ty.fit 65535 S (.l Jl) q.2.2/\(J0 q.2.2+q.1<=65535)/\(J0 q.2.2<=65535)/\(0<=q.2.1.2.1)/\(q.2.1.2.1<=J0 q.2.1.1)/\(0<=q.1)) (λq=>q.1) ?_ (k.1,k.2,[]) rfl ?_
 ·rintro⟨r,V,e⟩ E;dsimp only at E;obtain⟨W,K,j,a1,Z,a2,a0,a5⟩:=E;unfold Jfn
  try dsimp only
  have:=J4 (l:=e);have:J0 e=_:=Jm j;have:=J1.1 W;refine .gt (λN=>?_) λN=>?_
  ·refine .not (λI=>?_) λI=>?_
   ·refine .bind (J26 (B:=0) (S:=S) (⟨fkn 4,K⟩) om om) λy4 x=>?_;have:=J1.1 x.1.c.1;refine .bind (J26 (B:=0) (S:=S) (⟨fkn 1,x.1.2⟩) om om) λy5 A=>?_;have:=J1.1 A.1.c.1;refine .bind (J26 (B:=0) (S:=S) (⟨fkn 8,A.1.2⟩) om om) λy6 C=>?_;have:=J1.1 C.1.c.1;refine .bind (J26 (B:=0) (S:=S) (⟨fkn 8,C.1.2⟩) om om) λy7 v=>?_;have:=J1.1 v.1.c.1;refine .bind (JcG (B:=0) (S:=S) (⟨fkn 2,v.1.2⟩) om om om om) λy8 w=>?_;have:=J1.1 w.1.2.z.2.1;refine .bind (JcG (B:=0) (S:=S) (⟨fkn 1,w.1.2.z⟩) om om om om) λY D=>?_;have:=J1.1 D.1.2.z.2.1;refine .bind (J0K (B:=65535) (Bl:=65535) (Bm:=65535) (S:=S) (J0 e) 1 j (J0n (B:=65535) (S:=S) (t:=Jl) oo (⟨x.1.1,A.1.1,C.1.1,v.1.1,w.1.1,D.1.1⟩))) λn o=>?_;have:J0 n<=65535:=o.1.1;have:=J4 (l:=n);have:J0 n=_:=Jm o.1;have:=J0y r 1;exact .some ⟨(JI .i64 r 1,Y.2,n),rfl,⟨J0Y,D.1.2.z,o.1,om,om,om,om,om⟩,om,om⟩
   ·refine .inr ?_;refine .ite (λR=>?_) λR=>?_
    ·exact .some (⟨Jb,fkn 5⟩)
    ·refine .ne (λM=>?_) λM=>?_
     ·exact .some (⟨Jb,fkn 4⟩)
     ·refine .bind ((J3U j).eqn) λa6 T=>.not (λF=>?_) λF=>?_
      ·exact .some (⟨Jb,fkn 15⟩)
      ·have O:=J2F j T.2 F;have Q:Ty.fit 4096 0 (.l Jl) e:=O.2;exact .some (⟨Q,fk0⟩)
  ·refine .inr ?_;refine .ite (λP=>?_) λP=>?_
   ·exact .some (⟨Jb,fkn 5⟩)
   ·refine .ne (λJ=>?_) λJ=>?_
    ·exact .some (⟨Jb,fkn 4⟩)
    ·refine .bind ((J3U j).eqn) λa4 U=>.not (λG=>?_) λG=>?_
     ·exact .some (⟨Jb,fkn 15⟩)
     ·have L:=J2F j U.2 G;have H:Ty.fit 4096 0 (.l Jl) e:=L.2;exact .some (⟨H,fk0⟩)
 ·try dsimp only
  exact⟨h1.1.1,h1.1.2,Jb,om,om,om,om,om⟩
theorem Jzf{B S:Int}{x1:List UInt8}(h:Ty.fit B S .s x1)(ac:BH B S:=by omega)(hS:S<=9223372036854775807:=by omega):Tot (J9f x1) λy=>Ty.fit 4096 0 (.pr J19 (.i .i64)) y:=by
 unfold J9f;have s0:Ty.fit 0 S .s x1:=h;refine .bind ((J1e (B:=0) (S:=S) (x1:=(x1,0,2)) (⟨s0,fk0,fkn 2⟩)).eqn) λy2 h1=>.bind ((J1e (B:=0) (S:=S) (x1:=(x1,2,4)) (⟨s0,fkn 2,fkn 4⟩)).eqn) λJ h2=>.bind ((J1e (B:=0) (S:=S) (x1:=(x1,6,4)) (⟨s0,fkn 6,fkn 4⟩)).eqn) λg h3=>.nef (λN=>?_) λN=>?_
 ·have v6:=J6H (x:=(x1,6,4)) (⟨s0,fkn 6,fkn 4⟩) h3.2 N;have:J0 x1<=S:=s0;have:=J1.1 h3.1.1;have:1<=(4:Int)/\(4:Int)<=8/\0<=(6:Int)/\(6:Int)<=J0 x1/\(4:Int)<=J0 x1-(6:Int)/\((4:Int)<=4->0<=g.1/\g.1<=4294967295)/\((4:Int)=1->g.1<=255)/\((4:Int)=2->g.1<=65535):=v6.1;have:=Ju5 (J0 x1) 10;refine .gt (λK=>?_) λK=>?_
  ·exact .some (⟨fzr,fkn 5⟩)
  ·have:=J99 10 g.1;refine .bind (JcQ s0) λM F=>?_;have L:Ty.fit 0 S .s M:=F.1;refine .bind ((J1e (B:=0) (S:=S) (x1:=(x1,J2 .i64 10 g.1,1)) (⟨s0,J7,fkn 1⟩)).eqn) λk A=>.nef (λz=>?_) λz=>?_
   ·have v20:=J6H (x:=(x1,J2 .i64 10 g.1,1)) (⟨s0,J7,fkn 1⟩) A.2 z;have:=J1.1 A.1.1;have:1<=(1:Int)/\(1:Int)<=8/\0<=(J2 .i64 10 g.1)/\(J2 .i64 10 g.1)<=J0 x1/\(1:Int)<=J0 x1-(J2 .i64 10 g.1)/\((1:Int)<=4->0<=k.1/\k.1<=4294967295)/\((1:Int)=1->k.1<=255)/\((1:Int)=2->k.1<=65535):=v20.1;have:=Ju5 (J0 x1) (J2 .i64 10 g.1);have:=Ju5 (JI .i64 (J0 x1) (J2 .i64 10 g.1)) 1;have:=JGa 17 k.1;refine .lt (λW=>?_) λW=>?_
    ·exact .some (⟨fzr,fkn 5⟩)
    ·refine Ja (τ:=Int×Int×(List T_api_Row)) (λq=>(x1,M,q.1,k.1,q.2.1,[],0,0,[],[],q.2.2,y2.1,J.1,[],[])) (λq=>Ty.fit 0 0 (.i .i64) q.1/\Ty.fit 0 0 (.i .i64) q.2.1/\Ty.fit 255 0 (.l J9) q.2.2/\(0<=q.2.1)/\(q.2.1<=k.1)/\(q.1+17*(k.1-q.2.1)<=J0 x1)/\(0<=q.1)/\(J0 q.2.2<=q.2.1)) (λq=>k.1-q.2.1) ?_ (J2 .i64 (J2 .i64 10 g.1) 1,0,[]) rfl ?_
     ·rintro⟨j,r,e⟩ E;dsimp only at E;obtain⟨C,H,n,a8,ad,ab,aa,a7⟩:=E;unfold JgA
      try dsimp only
      have:=J1.1 H;have:=J1.1 C;have:J0 e<=255:=n.1;have:=J4 (l:=e);have:J0 e=_:=Jm n;refine .lt (λG=>?_) λG=>?_
      ·refine .bind ((J1e (B:=0) (S:=S) (x1:=(x1,j,1)) (⟨s0,C,fkn 1⟩)).eqn) λy8 Y=>.bind ((J1e (B:=0) (S:=S) (x1:=(x1,J2 .i64 j 1,8)) (⟨s0,J7,fkn 8⟩)).eqn) λy9 Q=>.bind ((J1e (B:=0) (S:=S) (x1:=(x1,J2 .i64 j 9,8)) (⟨s0,J7,fkn 8⟩)).eqn) λa5 U=>.bind (J0K (B:=256) (Bl:=255) (Bm:=1) (S:=0) (J0 e) 1 n (J0n (B:=1) (S:=0) (t:=J9) oo (⟨Y.1.1,Q.1.1,U.1.1⟩))) λo D=>?_;have:J0 o=_:=Jm D.1;have a1:Ty.fit 255 0 (.l J9) o:=⟨(by omega:J0 o<=255),λx hx=>D.1.2 x hx⟩;have:=J99 r 1;have:=J99 j 17;exact .some ⟨(J2 .i64 j 17,J2 .i64 r 1,o),rfl,⟨J7,J7,a1,om,om,om,om,om⟩,om,om⟩
      ·refine .inr ?_;refine .bind (Jxq L) λV w=>.ne (λR=>?_) λR=>?_
       ·exact .some (⟨fzr,w.2⟩)
       ·refine .bind (Jgn s0) λI O=>?_;have P:Ty.fit 0 S .s I:=O.1;refine .bind (JyA P) λT v=>.ne (λZ=>?_) λZ=>?_
        ·exact .some (⟨fzr,v.2⟩)
        ·have a0:Ty.fit 16384 1073741824 J19 (y2.1,J.1,V.1,e,T.1):=⟨h1.1.1,h2.1.1,w.1.u,n.u,v.1.u⟩;refine .bind (JoE a0) λa9 a6=>.not (λa2=>?_) λa2=>?_
         ·exact .some (⟨fzr,fkn 24⟩)
         ·exact .some (⟨⟨h1.1.1,h2.1.1,w.1,n.u,v.1.u⟩,fk0⟩)
     ·have:=J99 (J2 .i64 10 g.1) 1
      try dsimp only
      exact⟨J7,fk0,Jb,om,om,om,om,om⟩
   ·exact .some (⟨fzr,fkn 5⟩)
 ·exact .some (⟨fzr,fkn 5⟩)
theorem Jzt{B S:Int}{x1:J04}(h:Ty.fit B S JS x1)(F:BG B S:=by omega):Tot (J9d x1) λy=>Ty.fit 4096 0 (.pr J19 (.pr (.i .i64) .b)) y:=by
 unfold J9d;refine .bind ((J2k h).eqn) λJ h1=>.not (λr=>?_) λr=>?_
 ·exact .some (⟨fzr,fk0,trivial⟩)
 ·have v3:=J1Y h h1.2 r;have:=J4 (l:=x1.2.1);have:J0 x1.2.1=_:=Jm h.2.1;have g:Ty.fit 4096 8192 JS x1:=v3.2;have:=J0y (J0 x1.2.1) 1;refine Ja (τ:=Int) (λq=>(q,x1,0,0,[],[],[])) (λq=>(Ty.fit 0 0 (.i .i64) q/\q<=JI .i64 (J0 x1.2.1) 1)) (λq=>q-0) ?_ (JI .i64 (J0 x1.2.1) 1) rfl ?_
  ·rintro e ⟨x,E⟩;unfold Jgj
   try dsimp only
   have:=J1.1 x;refine .ge (λn=>?_) λn=>?_
   ·refine .bind (Jg g.2.1) λI D=>.ne (λk=>?_) λk=>?_
    ·have:=J0y e 1;exact .some ⟨JI .i64 e 1,rfl,⟨J0Y,om⟩,om,om⟩
    ·refine .bind (Jg g.2.1) λC o=>?_;have A:Ty.fit 16384 1073741824 .s C.2.2.2.2.2.2.2:=o.1.z.2.2.2.2.2.2.2.u;refine .bind (Jzf A) λH j=>.eq (λv=>?_) λv=>?_
     ·refine .bind (Jg g.2.1) λG w=>.some (⟨j.1,w.1.z.1,trivial⟩)
     ·have:=J0y e 1;exact .some ⟨JI .i64 e 1,rfl,⟨J0Y,om⟩,om,om⟩
   ·exact .some (⟨fzr,fk0,trivial⟩)
  ·try dsimp only
   exact⟨J0Y,oo⟩
theorem JAw{B S:Int}{x1:J8w}(h:Ty.fit B S tq9 x1)(k:BG B S:=by omega):Tot (Jaq x1) λy=>Ty.fit 4096 0 JEL y:=by
 unfold Jaq;refine .bind (Jzt h.1) λo h1=>.not (λe=>?_) λe=>?_
 ·have:=J1.1 h.1.1;refine .gt (λg=>?_) λg=>?_
  ·exact .some (⟨fzr,fkn 24⟩)
  ·refine .bind (JsZ h.2) λn h5=>.some (⟨⟨h.2,fkn 1,fk0,Jb,Jb,Jb,h5.1.u⟩,fk0⟩)
 ·have:=J1.1 h1.1.1;refine .ne (λj=>?_) λj=>?_
  ·exact .some (⟨fzr,fkn 24⟩)
  ·exact .some (⟨⟨h.2,h1.1.2.1,h1.2.1,h1.1.c.1,Jb,h1.1.d⟩,fk0⟩)
section
variable {B S:Int}
theorem Jhn{un:List T_api_Row}{n:Js}(h:Ty.fit B S (.l J9) un)(hn:Ty.fit B S Jh n)(N:BS B S 0 0:=by omega)(R:B<=17179869183:=by omega):Tot (Jc Jca (un,false,0,n,[])) λy=>Ty.fit (B+1) S (.l J9) y/\J0 y<=J0 un+1:=by
 have hl:J0 un<=B:=h.1;have H:=J4 (l:=un);refine Ja (τ:=Bool×Int×List T_api_Row) (λq=>(un,q.1,q.2.1,n,q.2.2)) (λq=>0<=q.2.1/\q.2.1<=J0 un/\Ty.fit (B+1) S (.l J9) q.2.2/\J0 q.2.2<=q.2.1+1/\(q.1=false->J0 q.2.2<=q.2.1)) (λq=>J0 un-q.2.1) ?_ (false,0,[]) rfl ⟨J0U _,H,Jb,by show(0:Int)<=0+1;omega,λ_=>J0U _⟩;rintro⟨done,i,out⟩ ⟨F,h1,h2,h3,h4⟩;dsimp only at F h1 h2 h3 h4;unfold Jca;dsimp only;have:=Jf i 1;have app: ∀{x:T_api_Row} {l:List T_api_Row},Ty.fit (B+1) S (.l J9) l->Ty.fit (B+1) S J9 x->J0 l+1<=B+1->Tot (JN 24 l [x]) λr=>Ty.fit (B+1) S (.l J9) r/\J0 r=J0 l+1:=λhl hx J=>
  (J0K (B:=B+1) (Bl:=B+1) (Bm:=B+1) (S:=S) _ 1 hl (J0n oo hx) rfl rfl (J0U _) (J0U _) J oo (by decide)).mono λ_ h=>⟨h.1,h.2.1⟩
 have o:Ty.fit (B+1) S J9 (n.2.2.2.2.2.2.1.1,n.1,n.1):=⟨hn.2.2.2.2.2.2.1.1,hn.1,hn.1⟩;have A:Tot (J07 n) λ_=>True:=(J2w hn).mono λ_ _=>trivial;have v: ∀{d:Bool} {l:List T_api_Row},i<J0 un->Ty.fit (B+1) S (.l J9) l->J0 l<=i+2->(d=false->J0 l<=i+1)->(∃c':Bool×Int×List T_api_Row,(un,d,J2 .i64 i 1,n,l)=(un,c'.1,c'.2.1,n,c'.2.2)/\(0<=c'.2.1/\c'.2.1<=J0 un/\Ty.fit (B+1) S (.l J9) c'.2.2/\J0 c'.2.2<=c'.2.1+1/\(c'.1=false->J0 c'.2.2<=c'.2.1))/\J0 un-c'.2.1<J0 un-i/\0<=J0 un-i):=fun{d l} a1 a2 a3 a4=>
  ⟨(d,J2 .i64 i 1,l),rfl,⟨by show 0<=J2 .i64 i 1;omega,by show J2 .i64 i 1<=_;omega,a2,by show J0 l<=J2 .i64 i 1+1;omega,λe=>by show J0 l<=J2 .i64 i 1;have:=a4 e;omega⟩,by show J0 un-J2 .i64 i 1<J0 un-i;omega,oo⟩
 refine .lt (λc=>?_) λc=>Tot.map (P:=λy:List T_api_Row=>Ty.fit (B+1) S (.l J9) y/\J0 y<=J0 un+1) ?_ λ_ h=>h
 ·have M:Tot (idx un i) λr=>Ty.fit (B+1) S J9 r:=(Jg h F c).mono λ_ h=>h.1.u;refine .bind M λg k=>?_
  have body: ∀{d:Bool} {l:List T_api_Row},Ty.fit (B+1) S (.l J9) l->J0 l<=i+1->(d=false->J0 l<=i)->Tot (ρ:=(JEJ)⊕(List T_api_Row)) (if eqI g.1 n.2.2.2.2.2.2.1.1 then
     (J07 n).bind λC=>
     if C then
      (JN 24 l [(g.1,g.2.1,n.1)]).bind λG=>
      some (.inl (un,true,J2 .i64 i 1,n,G))
     else
      if geI n.2.2.2.2.2.1 g.2.2 then
       some (.inl (un,true,J2 .i64 i 1,n,l))
      else
       if geI n.2.2.2.2.2.1 g.2.1 then
        (JN 24 l [(g.1,J2 .i64 n.2.2.2.2.2.1 1,g.2.2)]).bind λw=>
        some (.inl (un,true,J2 .i64 i 1,n,w))
       else
        (JN 24 l [g]).bind λE=>
        some (.inl (un,true,J2 .i64 i 1,n,E))
    else
     (JN 24 l [g]).bind λK=>
     some (.inl (un,d,J2 .i64 i 1,n,K))) λr=>match r with
      | .inl z=> ∃c':Bool×Int×List T_api_Row,z=(un,c'.1,c'.2.1,n,c'.2.2)/\(0<=c'.2.1/\c'.2.1<=J0 un/\Ty.fit (B+1) S (.l J9) c'.2.2/\J0 c'.2.2<=c'.2.1+1/\(c'.1=false->J0 c'.2.2<=c'.2.1))/\J0 un-c'.2.1<J0 un-i/\0<=J0 un-i
      | .inr y=>Ty.fit (B+1) S (.l J9) y/\J0 y<=J0 un+1:=fun{d l} b1 b2 L=>
   .eq (λ_=>.bind A λC _=>.ite (λ_=>.bind (app b1 ⟨k.1,k.2.1,hn.1⟩ oo) λG D=>.some (v c D.1 (by have:=D.2;omega) λe=>by cases e)) λ_=>.ge (λ_=>.some (v c b1 oo λe=>by cases e)) λ_=>.ge (λ_=>.bind (app b1 ⟨k.1,J7,k.2.2⟩ oo) λw j=>.some (v c j.1 (by have:=j.2;omega) λe=>by cases e)) λ_=>.bind (app b1 k oo) λw j=>.some (v c j.1 (by have:=j.2;omega) λe=>by cases e)) λ_=>.bind (app b1 k oo) λw j=>.some (v c j.1 (by have:=j.2;omega) λe=>by have:=j.2;have:=L e;omega)
  refine .gt (λ_=>.not (λd=>.bind A λO _=>.ite (λ_=>.bind (app h2 o (by have:=h4 d;omega)) λQ I=>?_) λ_=>?_) λd=>?_) λ_=>?_
  ·exact(body (d:=true) I.1 (by have:=I.2;have:=h4 d;omega) λe=>by cases e).mono λr h=>by cases r<;>exact h
  all_goals
   exact(body (d:=done) h2 h3 h4).mono λr h=>by cases r<;>exact h
 ·exact .not (λd=>.bind A λy _=>.ite (λ_=>.bind (app h2 o (by have:=h4 d;omega)) λy f=>.some ⟨f.1,by have:=f.2;have:=h4 d;omega⟩) λ_=>.some ⟨h2,oo⟩) λ_=>.some ⟨h2,oo⟩
theorem J69{x1:JKu}(h:Ty.fit B S Jzg x1)(e:BS B S 0 0:=by omega)(g:B<=17179869183:=by omega):Tot (J34 x1) λy=>Ty.fit (B+1) S (.l J9) y/\J0 y<=J0 x1.1+1:=by unfold J34;refine .bind (J2w h.2) λj _=>.not (λ_=>.ne (λ_=>.some ⟨h.1.u,oo⟩) λ_=>Jhn h.1 h.2) λ_=>Jhn h.1 h.2
end
theorem JF4{B S:Int}{x1:J1Z×Js}(h:Ty.fit B S (.pr J2K Jh) x1)(p0:J0 x1.1.2.2.2.2.2.1<=16000)(aj:BG B S:=by omega):Tot (JbA x1) λy=>Ty.fit B S JEL y/\(J0 y.1.2.2.2.2.2.1<=J0 x1.1.2.2.2.2.2.1+1):=by
 unfold JbA;have h4:Ty.fit 16000 S (.l J9) x1.1.2.2.2.2.2.1:=⟨(by omega:J0 x1.1.2.2.2.2.2.1<=16000),λx hx=>h.1.g.1.2 x hx⟩;refine .gt (λc5=>?_) λc5=>?_
 ·refine .bind ((J2X (B:=B) (S:=S) (x1:=(x1.1.2.2.2.1,x1.2.2.2.1)) (⟨h.1.d.1,h.2.z.2.2.1⟩)).eqn) λy2 h7=>.lt (λa3=>?_) λa3=>?_
  ·refine .bind (JmD (B:=B) (S:=S) (⟨h.1.d.1,h.2.z.2.2.1⟩)) λy3 v=>.ne (λZ=>?_) λZ=>?_
   ·exact .some ⟨(⟨h.1,v.2⟩),om⟩
   ·have a6:Ty.fit 16384 S Jz7 (y3.1,x1.2):=⟨v.1.u,h.2.z.u⟩;refine .bind (J5F a6) λy4 j=>.ne (λa1=>?_) λa1=>?_
    ·exact .some ⟨(⟨⟨h.1.1,h.1.2.1,h.1.c.1,v.1.u,h.1.e⟩,j.2⟩),om⟩
    ·refine .bind (J5o (B:=B) (S:=S) (⟨h.1.h,h.2.z.u⟩)) λy5 q=>.ne (λa0=>?_) λa0=>?_
     ·exact .some ⟨(⟨⟨h.1.1,J4w h.1.2.1 J7,h.1.c.1,j.1.u,h.1.e⟩,q.2⟩),om⟩
     ·refine .bind (J2w (B:=0) (S:=S) h.2.z) λy6 ae=>.ite (λO=>?_) λO=>?_
      ·have:=J1.1 h.2.z.2.2.2.2.2.2.1.1;refine .ge (λP=>?_) λP=>?_
       ·exact .some ⟨(⟨⟨h.1.1,J4w h.1.2.1 J7,h.1.c.1,j.1.u,h.1.e.1,h4.u,q.1.u⟩,fkn 1⟩),om⟩
       ·refine .bind (J69 (B:=16000) (S:=S) (⟨h4,h.2.z.u⟩)) λL F=>?_;have W:Ty.fit 16001 S (.l J9) L:=F.1.u;have:J0 L<=J0 x1.1.2.2.2.2.2.1+1:=F.2;exact .some ⟨(⟨⟨h.1.1,J4w h.1.2.1 J7,h.1.c.1,j.1.u,h.1.e.1,W.u,q.1.u⟩,fk0⟩),om⟩
      ·refine .bind (J69 (B:=16000) (S:=S) (⟨h4,h.2.z.u⟩)) λY w=>?_;have M:Ty.fit 16001 S (.l J9) Y:=w.1.u;have:J0 Y<=J0 x1.1.2.2.2.2.2.1+1:=w.2;exact .some ⟨(⟨⟨h.1.1,J4w h.1.2.1 J7,h.1.c.1,j.1.u,h.1.e.1,M.u,q.1.u⟩,fk0⟩),om⟩
  ·refine .bind (J5F (B:=B) (S:=S) (⟨h.1.d.1,h.2.z.u⟩)) λy9 k=>.ne (λa8=>?_) λa8=>?_
   ·exact .some ⟨(⟨h.1,k.2⟩),om⟩
   ·refine .bind (J5o (B:=B) (S:=S) (⟨h.1.h,h.2.z.u⟩)) λac r=>.ne (λa5=>?_) λa5=>?_
    ·exact .some ⟨(⟨⟨h.1.1,J4w h.1.2.1 J7,h.1.c.1,k.1.u,h.1.e⟩,r.2⟩),om⟩
    ·refine .bind (J2w (B:=0) (S:=S) h.2.z) λai ah=>.ite (λa4=>?_) λa4=>?_
     ·have:=J1.1 h.2.z.2.2.2.2.2.2.1.1;refine .ge (λK=>?_) λK=>?_
      ·exact .some ⟨(⟨⟨h.1.1,J4w h.1.2.1 J7,h.1.c.1,k.1.u,h.1.e.1,h4.u,r.1.u⟩,fkn 1⟩),om⟩
      ·refine .bind (J69 (B:=16000) (S:=S) (⟨h4,h.2.z.u⟩)) λG J=>?_;have a2:Ty.fit 16001 S (.l J9) G:=J.1.u;have:J0 G<=J0 x1.1.2.2.2.2.2.1+1:=J.2;exact .some ⟨(⟨⟨h.1.1,J4w h.1.2.1 J7,h.1.c.1,k.1.u,h.1.e.1,a2.u,r.1.u⟩,fk0⟩),om⟩
     ·refine .bind (J69 (B:=16000) (S:=S) (⟨h4,h.2.z.u⟩)) λC H=>?_;have R:Ty.fit 16001 S (.l J9) C:=H.1.u;have:J0 C<=J0 x1.1.2.2.2.2.2.1+1:=H.2;exact .some ⟨(⟨⟨h.1.1,J4w h.1.2.1 J7,h.1.c.1,k.1.u,h.1.e.1,R.u,r.1.u⟩,fk0⟩),om⟩
 ·refine .bind (J5F (B:=B) (S:=S) (⟨h.1.d.1,h.2.z.u⟩)) λaf n=>.ne (λU=>?_) λU=>?_
  ·exact .some ⟨(⟨h.1,n.2⟩),om⟩
  ·refine .bind (J5o (B:=B) (S:=S) (⟨h.1.h,h.2.z.u⟩)) λad o=>.ne (λT=>?_) λT=>?_
   ·exact .some ⟨(⟨⟨h.1.1,J4w h.1.2.1 J7,h.1.c.1,n.1.u,h.1.e⟩,o.2⟩),om⟩
   ·refine .bind (J2w (B:=0) (S:=S) h.2.z) λag ab=>.ite (λV=>?_) λV=>?_
    ·have:=J1.1 h.2.z.2.2.2.2.2.2.1.1;refine .ge (λQ=>?_) λQ=>?_
     ·exact .some ⟨(⟨⟨h.1.1,J4w h.1.2.1 J7,h.1.c.1,n.1.u,h.1.e.1,h4.u,o.1.u⟩,fkn 1⟩),om⟩
     ·refine .bind (J69 (B:=16000) (S:=S) (⟨h4,h.2.z.u⟩)) λD A=>?_;have N:Ty.fit 16001 S (.l J9) D:=A.1.u;have:J0 D<=J0 x1.1.2.2.2.2.2.1+1:=A.2;exact .some ⟨(⟨⟨h.1.1,J4w h.1.2.1 J7,h.1.c.1,n.1.u,h.1.e.1,N.u,o.1.u⟩,fk0⟩),om⟩
    ·refine .bind (J69 (B:=16000) (S:=S) (⟨h4,h.2.z.u⟩)) λE I=>?_;have a7:Ty.fit 16001 S (.l J9) E:=I.1.u;have:J0 E<=J0 x1.1.2.2.2.2.2.1+1:=I.2;exact .some ⟨(⟨⟨h.1.1,J4w h.1.2.1 J7,h.1.c.1,n.1.u,h.1.e.1,a7.u,o.1.u⟩,fk0⟩),om⟩
end Go.Am
end
section
namespace Go.Am
set_option linter.unusedVariables false
set_option maxRecDepth 20000
set_option maxHeartbeats 4000000
theorem JvI{B S:Int}{x1:J8w}(h:Ty.fit B S tq9 x1)(ab:BG B S:=by omega):Tot (J8m x1) λy=>Ty.fit 400000001 1073741824 JEL y:=by
 unfold J8m;refine .bind ((J2k h.1).eqn) λy2 h1=>.not (λP=>?_) λP=>?_
 ·exact .some (⟨fzr,fkn 26⟩)
 ·have v3:=J1Y h.1 h1.2 P;have:=J4 (l:=x1.1.2.1);have:J0 x1.1.2.1=_:=Jm h.1.2.1;have C:Ty.fit 4096 8192 JS x1.1:=v3.2;refine .ltf (λN=>?_) λN=>?_
  ·refine .gt (λT=>?_) λT=>?_
   ·exact .some (⟨fzr,fkn 1⟩)
   ·have O:Ty.fit 16384 1073741824 tq9 (x1.1,x1.2):=⟨C.u,h.2⟩;refine .bind (JAw O) λD A=>.ne (λa0=>?_) λa0=>?_
    ·exact .some (⟨fzr,A.2⟩)
    ·refine Ja (τ:=Int×J1Z) (λq=>(q.1,x1.1,(0,0,0,[],[],[],[]),q.2)) (λq=>Ty.fit 0 0 (.i .i64) q.1/\Ty.fit 16384 1073741824 J2K q.2/\(0<=q.1)/\(q.1<=J0 x1.1.2.1)/\(J0 q.2.2.2.2.2.2.1<=4096+q.1)) (λq=>J0 x1.1.2.1-q.1) ?_ (0,D.1) rfl ?_
     ·rintro⟨r,e⟩ H;dsimp only at H;obtain⟨V,j,z20,a7,a1⟩:=H;unfold JeM
      try dsimp only
      have:=J1.1 V;have:J0 e.2.2.2.2.2.1<=16384:=j.2.2.2.2.2.1.1;have:=J4 (l:=e.2.2.2.2.2.1);have:J0 e.2.2.2.2.2.1=_:=Jm j.2.2.2.2.2.1;refine .lt (λU=>?_) λU=>?_
      ·refine .bind (Jg C.2.1) λy5 a4=>.le (λK=>?_) λK=>?_
       ·have a5:Ty.fit 8192 1073741824 (.l J9) e.2.2.2.2.2.1:=⟨(by omega:J0 e.2.2.2.2.2.1<=8192),λx hx=>j.2.2.2.2.2.1.2 x hx⟩;have:=Jf r 1;exact .some ⟨(J2 .i64 r 1,e),rfl,⟨J7,j,om,om,om⟩,om,om⟩
       ·refine .bind (Jg C.2.1) λy6 Y=>.bind (JF4 (B:=16384) (S:=1073741824) (⟨j,Y.1.z.u⟩) om) λw E=>?_;have v:Ty.fit 16384 1073741824 JEL w:=E.1.u;have:J0 w.1.2.2.2.2.2.1<=16384:=v.1.g.1.1;have:=J4 (l:=w.1.2.2.2.2.2.1);have:J0 w.1.2.2.2.2.2.1=_:=Jm v.1.g.1;have:J0 w.1.2.2.2.2.2.1<=J0 e.2.2.2.2.2.1+1:=E.2;refine .ne (λR=>?_) λR=>?_
        ·exact .some (⟨fzr,v.2⟩)
        ·have a8:Ty.fit 8192 1073741824 (.l J9) w.1.2.2.2.2.2.1:=⟨(by omega:J0 w.1.2.2.2.2.2.1<=8192),λx hx=>v.1.g.1.2 x hx⟩;have:=Jf r 1;exact .some ⟨(J2 .i64 r 1,w.1),rfl,⟨J7,v.1,om,om,om⟩,om,om⟩
      ·refine .inr ?_;have:J0 e.2.2.2.1<=16384:=j.2.2.2.1.1;have:=J4 (l:=e.2.2.2.1);have:J0 e.2.2.2.1=_:=Jm j.2.2.2.1;refine Ja (τ:=Int×(List Jq)) (λq=>(q.1,x1.1,(0,0,0,[],[],[],[]),e,q.2)) (λq=>(Ty.fit 0 0 (.i .i64) q.1/\0<=q.1/\(q.1<=J0 e.2.2.2.1\/q.1<=0))/\(Ty.fit 16384 1073741824 (.l Jl) q.2/\J0 q.2<=1*q.1+0)) (λq=>J0 e.2.2.2.1-q.1) ?_ (0,[]) rfl ?_
       ·rintro⟨o,k⟩ G;dsimp only at G;obtain⟨⟨Z,a2,a6⟩,n,ac⟩:=G;unfold JeN
        try dsimp only
        have:=J1.1 Z;refine .lt (λQ=>?_) λQ=>?_
        ·refine .bind (Jg j.2.2.2.1) λy9 aa=>.gt (λW=>?_) λW=>?_
         ·refine .bind (Jg j.2.2.2.1) λa3 M=>?_;have:J0 k<=16384:=n.1;have:=J4 (l:=k);have:J0 k=_:=Jm n;refine .bind (J0K (B:=16384) (Bl:=16384) (Bm:=16384) (S:=1073741824) (J0 k) 1 n (J0n (B:=16384) (S:=1073741824) (t:=Jl) oo M.1)) λJ I=>?_;have:=Jf o 1;have:J0 J=_:=Jm I.1;exact .some ⟨(J2 .i64 o 1,J),rfl,⟨⟨J7,om,om⟩,I.1,om⟩,om,om⟩
         ·have:=Jf o 1;have:J0 k=_:=Jm n;exact .some ⟨(J2 .i64 o 1,k),rfl,⟨⟨J7,om,om⟩,n,om⟩,om,om⟩
        ·refine .inr ?_;refine .bind (JCe (B:=16384) (S:=1073741824) (⟨C.u,n⟩)) λa9 F=>.ne (λL=>?_) λL=>?_
         ·exact .some (⟨fzr,F.2⟩)
         ·exact .some (⟨⟨j.1,j.2.1,j.2.2.1,n.u,F.1.u,j.2.2.2.2.2.u⟩,fk0⟩)
       ·have:J0 ([]:List Jq)=0:=rfl
        try dsimp only
        exact⟨⟨fk0,oo,oo⟩,Jb,oo⟩
     ·have:J0 D.1.2.2.2.2.2.1<=4096:=A.1.g.1.1;have:=J4 (l:=D.1.2.2.2.2.2.1);have:J0 D.1.2.2.2.2.2.1=_:=Jm A.1.g.1
      try dsimp only
      exact⟨fk0,A.1.u,om,om,om⟩
  ·exact .some (⟨fzr,fkn 1⟩)
theorem JAJ{B S:Int}{x1:J04×J1Z×Int}(h:Ty.fit B S (.pr JS JEL) x1)(N:BG B S:=by omega):Tot (Jaz x1) λy=>Ty.fit 16384 1073741824 tq1 y:=by
 unfold Jaz;refine .bind (Jtc h.c) λv h1=>.ne (λJ=>?_) λJ=>?_
 ·exact .some (⟨fzr,fkn 1⟩)
 ·refine .bind ((J1i (B:=B) (S:=S) (x1:=(x1.2.1.1,x1.2.1.2.1,x1.1,v.1,(x1.2.1.2.2.2.2.1,[]),x1.2.1.2.2.2.1,x1.2.1.2.2.2.2.2.2,x1.2.1.2.2.2.2.2.1)) (⟨h.2.1.1,h.2.1.2.1,h.1,h1.1.u,⟨h.2.1.e.1,Jb⟩,h.2.1.d.1,h.2.1.h,h.2.1.g.1⟩)).eqn) λP h4=>.not (λG=>?_) λG=>?_
  ·exact .some (⟨fzr,fkn 15⟩)
  ·have I:=J1r (x:=(x1.2.1.1,x1.2.1.2.1,x1.1,v.1,(x1.2.1.2.2.2.2.1,[]),x1.2.1.2.2.2.1,x1.2.1.2.2.2.2.2.2,x1.2.1.2.2.2.2.2.1)) (⟨h.2.1.1,h.2.1.2.1,h.1,h1.1.u,⟨h.2.1.e.1,Jb⟩,h.2.1.d.1,h.2.1.h,h.2.1.g.1⟩) h4.2 G;have j:Ty.fit 4096 8192 J3 (x1.2.1.1,x1.2.1.2.1,x1.1,v.1,(x1.2.1.2.2.2.2.1,[]),x1.2.1.2.2.2.1,x1.2.1.2.2.2.2.2.2,x1.2.1.2.2.2.2.2.1):=I.2;have:J0 x1.2.1.2.2.2.1<=4096:=j.g.1.1;have:=J4 (l:=x1.2.1.2.2.2.1);have:J0 x1.2.1.2.2.2.1=_:=Jm j.g.1;refine Ja (τ:=J5b) (λq=>(q.1,x1.1,x1.2.1,(0,0,(0,[],0),(0,[],0),([],[]),[],[],[]),v.1,q.2)) (λq=>(Ty.fit 0 0 (.i .i64) q.1/\0<=q.1/\(q.1<=J0 x1.2.1.2.2.2.1\/q.1<=0))/\Ty.fit 16384 1073741824 J3 q.2) (λq=>J0 x1.2.1.2.2.2.1-q.1) ?_ (0,(x1.2.1.1,x1.2.1.2.1,x1.1,v.1,(x1.2.1.2.2.2.2.1,[]),x1.2.1.2.2.2.1,x1.2.1.2.2.2.2.2.2,x1.2.1.2.2.2.2.2.1)) rfl ?_
   ·rintro⟨k,o⟩ z;dsimp only at z;obtain⟨⟨F,L,O⟩,n⟩:=z;unfold Ji6
    try dsimp only
    have:=J1.1 F;refine .lt (λD=>?_) λD=>?_
    ·refine .bind (Jg j.g.1) λQ M=>.eq (λH=>?_) λH=>?_
     ·have:=Jf k 1;exact .some ⟨(J2 .i64 k 1,o),rfl,⟨⟨J7,om,om⟩,n⟩,om,om⟩
     ·refine .bind (Jg j.g.1) λE w=>.bind ((J5g (B:=16384) (S:=1073741824) (x1:=(o,0,4,E.1,0,0,0,(0,0,(false,[]),false,[]),[])) (⟨n,fk0,fkn 4,w.1.1,fk0,fk0,fk0,⟨fk0,fk0,⟨trivial,Jd⟩,trivial,Jd⟩,Jd⟩)).eqn) λC r=>.ne (λA=>?_) λA=>?_
      ·exact .some (⟨fzr,r.1.1.c⟩)
      ·have K:Has C.1.2.2.2.2.2.1 E.1:=JsU (⟨n,fk0,fkn 4,w.1.1,fk0,fk0,fk0,⟨fk0,fk0,⟨trivial,Jd⟩,trivial,Jd⟩,Jd⟩) r.2 A;have:=Jf k 1;exact .some ⟨(J2 .i64 k 1,C.1),rfl,⟨⟨J7,om,om⟩,r.1.1.1⟩,om,om⟩
    ·exact .some (⟨n,fk0⟩)
   ·try dsimp only
    exact⟨⟨fk0,oo,oo⟩,j.1,j.2.1,j.c.1.u,j.d.1.u,⟨j.e.1.1.u,Jb⟩,j.g.u⟩
theorem JH1{B S:Int}{x1:JM2}(h:Ty.fit B S (.pr JV Jv) x1)(o:BH B S:=by omega)(r:S<=9223372036854775807:=by omega):Tot (JbF x1) λy=>Ty.fit B S tq4 y:=by
 unfold JbF;refine .bind (JDJ (B:=0) (S:=S) h.2.z.1) λn h1=>.ne (λg=>?_) λg=>?_
 ·exact .some (⟨⟨fzr,Jb,fk0,Jb,trivial,Jb⟩,h1.2⟩)
 ·have h5:Ty.fit 16384 1073741824 tq9 (n.1,x1.2.2.1):=⟨h1.1.u,h.2.z.2.1⟩;refine .bind (JvI h5) λq h4=>.ne (λk=>?_) λk=>?_
  ·exact .some (⟨⟨fzr,Jb,fk0,Jb,trivial,Jb⟩,h4.2⟩)
  ·refine .bind (JAJ (B:=400000001) (S:=1073741824) (⟨h1.1.u,h4.1,h.2.z.2.2⟩)) λv e=>.ne (λj=>?_) λj=>?_
   ·exact .some (⟨⟨fzr,Jb,fk0,Jb,trivial,Jb⟩,e.2⟩)
   ·exact .some (⟨⟨e.1.u,h.1⟩,fk0⟩)
theorem JHA{B S:Int}{x1:JM2}(h:Ty.fit B S (.pr JV Jv) x1)(e:BH B S:=by omega)(g:S<=9223372036854775807:=by omega):Tot (Jbx x1) λy=>Ty.fit B S tq4 y:=by unfold Jbx;refine .bind (JH1 (B:=B) (S:=S) (⟨h.1,h.2.z.1.u,h.2.z.2.1,h.2.z.2.2⟩)) λj h1=>.some (h1)
theorem JiM{B S:Int}{x1:TQ4}(h:Ty.fit B S (.pr J0T tq0) x1)(p0:J0 x1.2.2.2.2.2.2.2.2.2.2.2.2.2.2.2.2.2.2.2.2.1<=16000)(U:J0 x1.2.2.2.2.2.2.2.2.2.2.2.2.2.2.2.2.2.2.2.2.2<=16000)(P:BG B S:=by omega)(V:S<=9223372036854775807:=by omega):Tot (J4m x1) λy=>Ty.fit B S JKE y/\(J0 y.2.2.2.2.2.2.2.2.2.2.2.2.2.2.2.2.2.2.2.2.1<=J0 x1.2.2.2.2.2.2.2.2.2.2.2.2.2.2.2.2.2.2.2.2.1+1/\J0 y.2.2.2.2.2.2.2.2.2.2.2.2.2.2.2.2.2.2.2.2.2<=J0 x1.2.2.2.2.2.2.2.2.2.2.2.2.2.2.2.2.2.2.2.2.2+1):=by
 unfold J4m;have:=J4 (l:=x1.2.2.2.2.2.2.2.2.2.2.2.2.2.2.2.2.2.2.2.2.1);have J:Ty.fit 16000 S (.l (.i .i64)) x1.2.2.2.2.2.2.2.2.2.2.2.2.2.2.2.2.2.2.2.2.1:=⟨(by omega:J0 x1.2.2.2.2.2.2.2.2.2.2.2.2.2.2.2.2.2.2.2.2.1<=16000),λx hx=>h.k.k.c.1.2 x hx⟩;have G:Ty.fit 16000 S (.l J0v) x1.2.2.2.2.2.2.2.2.2.2.2.2.2.2.2.2.2.2.2.2.2:=⟨(by omega:J0 x1.2.2.2.2.2.2.2.2.2.2.2.2.2.2.2.2.2.2.2.2.2<=16000),λx hx=>h.k.k.e x hx⟩;refine .bind (JBS (B:=B) (S:=S) (⟨⟨⟨h.2.1,h.c.1,⟨h.d.1,h.e.1,h.g.1⟩,⟨h.h.1,h.i.1,h.j.1⟩,⟨h.k.1,h.k.2.1⟩,h.k.c.1,h.k.d.1,h.k.e.1⟩,h.k.g.1,h.k.h.1,h.k.i.1,trivial,h.k.k.1⟩,h.1.z.2.2.2.1,h.1.z.2.2.1,h.1.z.2.2.2.2.1⟩)) λK I=>.bind (JHA (B:=B) (S:=S) (⟨I.1,I.2.z.u,h.2.1,h.h.1⟩)) λD n=>Ja (τ:=JDi) (λq=>(D.2,q.1,x1.2.1,x1.2.2.1,x1.2.2.2.1,x1.2.2.2.2.1,x1.2.2.2.2.2.1,x1.2.2.2.2.2.2.1,x1.2.2.2.2.2.2.2.1,x1.2.2.2.2.2.2.2.2.1,x1.2.2.2.2.2.2.2.2.2.1,x1.2.2.2.2.2.2.2.2.2.2.1,x1.2.2.2.2.2.2.2.2.2.2.2.1,x1.2.2.2.2.2.2.2.2.2.2.2.2.1,x1.2.2.2.2.2.2.2.2.2.2.2.2.2.1,x1.2.2.2.2.2.2.2.2.2.2.2.2.2.2.1,x1.2.2.2.2.2.2.2.2.2.2.2.2.2.2.2.1,x1.2.2.2.2.2.2.2.2.2.2.2.2.2.2.2.2.1,x1.2.2.2.2.2.2.2.2.2.2.2.2.2.2.2.2.2.1,x1.2.2.2.2.2.2.2.2.2.2.2.2.2.2.2.2.2.2.1,x1.2.2.2.2.2.2.2.2.2.2.2.2.2.2.2.2.2.2.2.1,q.2,x1.2.2.2.2.2.2.2.2.2.2.2.2.2.2.2.2.2.2.2.2.2,x1.1,(0,0,0,(false,[]),0),K.1,D.1)) (λq=>Ty.fit 0 0 (.i .i64) q.1/\Ty.fit 16000 S (.l (.i .i64)) q.2/\(0<=q.1)/\(q.1<=J0 q.2)/\(J0 q.2=J0 x1.2.2.2.2.2.2.2.2.2.2.2.2.2.2.2.2.2.2.2.2.1)) (λq=>J0 q.2-q.1) ?_ (0,x1.2.2.2.2.2.2.2.2.2.2.2.2.2.2.2.2.2.2.2.2.1) rfl ?_
 ·rintro⟨o,r⟩ w;dsimp only at w;obtain⟨H,v,N,L,O⟩:=w;unfold J8J
  try dsimp only
  have:=J1.1 H;refine .lt (λC=>?_) λC=>?_
  ·refine .bind (J6p (l:=r)) λ_ _=>.bind (JeQ v) λT M=>?_;have:=Jf o 1;have:J0 (J0w r (Int.toNat o) 0)<=16000:=(J4E (t:=(.i .i64)) (i:=Int.toNat o) (x:=0) v fk0).1;have:=J4 (l:=J0w r (Int.toNat o) 0);have:J0 (J0w r (Int.toNat o) 0)=J0 r:=J6L;exact .some ⟨(J2 .i64 o 1,J0w r (Int.toNat o) 0),rfl,⟨J7,J4E (t:=(.i .i64)) (i:=Int.toNat o) (x:=0) v fk0,om,om,om⟩,om,om⟩
  ·refine .inr ?_;refine .ne (λA=>?_) λA=>?_
   ·refine .bind (J5m n.2) λQ E=>.some ⟨(⟨E.u,h.2.1,h.c.1,h.d.1,h.e.1,h.g.1,h.h.1,h.i.1,h.j.1,h.k.1,h.k.2.1,h.k.c.1,h.k.d.1,h.k.e.1,h.k.g.1,h.k.h.1,h.k.i.1,trivial,h.k.k.1,trivial,v.u,G.u⟩),om⟩
   ·refine .bind (J5m (B:=0) (S:=0) fk0) λR F=>.some ⟨(⟨F.u,n.1.1.1,n.1.1.2.1,n.1.1.c.1.1,n.1.1.c.1.2.1,n.1.1.c.1.c,n.1.1.d.1.1,n.1.1.d.1.2.1,n.1.1.d.1.c,n.1.1.e.1.1,n.1.1.e.1.2,n.1.1.g.1,n.1.1.h.1,n.1.1.i,n.1.2.1,n.1.c.1,n.1.d.1,trivial,n.1.g,trivial,v.u,G.u⟩),om⟩
 ·try dsimp only
  exact⟨fk0,J,om,om,om⟩
theorem J3t{B S:Int}{x1:TQ2}(h:Ty.fit B S (.pr Jp (.pr (.i .i64) tq0)) x1)(q:BH B S:=by omega):Tot (J1z x1) λy=>Ty.fit B S JKE y/\(J0 y.2.2.2.2.2.2.2.2.2.2.2.2.2.2.2.2.2.2.2.2.1=J0 x1.2.2.2.2.2.2.2.2.2.2.2.2.2.2.2.2.2.2.2.2.2.1/\J0 y.2.2.2.2.2.2.2.2.2.2.2.2.2.2.2.2.2.2.2.2.2=J0 x1.2.2.2.2.2.2.2.2.2.2.2.2.2.2.2.2.2.2.2.2.2.2):=by
 unfold J1z;refine .eq (λo=>?_) λo=>?_
 ·refine .bind (J5m h.2.1) λv h3=>.some ⟨(⟨h3.u,h.1.1.1,h.1.1.2.1,h.1.1.c.1.1,h.1.1.c.1.2.1,h.1.1.c.1.c,h.1.1.d.1.1,h.1.1.d.1.2.1,h.1.1.d.1.c,h.1.1.e.1.1,h.1.1.e.1.2,h.1.1.g.1,h.1.1.h.1,h.1.1.i,h.1.2.1,h.1.c.1,h.1.d.1,trivial,h.1.g,trivial,h.k.k.d⟩),om⟩
 ·refine .bind (J5m h.2.1) λr n=>.some ⟨(⟨n.u,h.c.1,h.d.1,h.e.1,h.g.1,h.h.1,h.i.1,h.j.1,h.k.1,h.k.2.1,h.k.c.1,h.k.d.1,h.k.e.1,h.k.g.1,h.k.h.1,h.k.i.1,h.k.j.1,trivial,h.k.k.2.1,trivial,h.k.k.d⟩),om⟩
theorem JjY{B S:Int}{x1:TQ4}(h:Ty.fit B S (.pr J0T tq0) x1)(p0:J0 x1.2.2.2.2.2.2.2.2.2.2.2.2.2.2.2.2.2.2.2.2.1<=16000)(p1:J0 x1.2.2.2.2.2.2.2.2.2.2.2.2.2.2.2.2.2.2.2.2.2<=16000)(ad:BH B S:=by omega)(hB:B<=1000000:=by omega)(hS:S<=1000000000000:=by omega):Tot (J4z x1) λy=>Ty.fit B S JKE y/\(J0 y.2.2.2.2.2.2.2.2.2.2.2.2.2.2.2.2.2.2.2.2.1<=J0 x1.2.2.2.2.2.2.2.2.2.2.2.2.2.2.2.2.2.2.2.2.1+1/\J0 y.2.2.2.2.2.2.2.2.2.2.2.2.2.2.2.2.2.2.2.2.2<=J0 x1.2.2.2.2.2.2.2.2.2.2.2.2.2.2.2.2.2.2.2.2.2+1):=by
 unfold J4z;have:=J4 (l:=x1.2.2.2.2.2.2.2.2.2.2.2.2.2.2.2.2.2.2.2.2.1);have:J0 x1.2.2.2.2.2.2.2.2.2.2.2.2.2.2.2.2.2.2.2.2.2=_:=Jm h.k.k.d;have E:Ty.fit 16000 S (.l (.i .i64)) x1.2.2.2.2.2.2.2.2.2.2.2.2.2.2.2.2.2.2.2.2.1:=⟨(by omega:J0 x1.2.2.2.2.2.2.2.2.2.2.2.2.2.2.2.2.2.2.2.2.1<=16000),λx hx=>h.k.k.c.1.2 x hx⟩;have D:Ty.fit 16000 S (.l J0v) x1.2.2.2.2.2.2.2.2.2.2.2.2.2.2.2.2.2.2.2.2.2:=⟨(by omega:J0 x1.2.2.2.2.2.2.2.2.2.2.2.2.2.2.2.2.2.2.2.2.2<=16000),λx hx=>h.k.k.e x hx⟩;refine .eq (λc8=>?_) λc8=>?_
 ·refine .bind (JBI (B:=B) (S:=S) (⟨⟨h.2.1,h.c.1,⟨h.d.1,h.e.1,h.g.1⟩,⟨h.h.1,h.i.1,h.j.1⟩,⟨h.k.1,h.k.2.1⟩,h.k.c.1,h.k.d.1,h.k.e.1⟩,h.k.g.1,h.k.h.1,h.k.i.1,trivial,h.k.k.1⟩)) λy2 C=>.eq (λU=>?_) λU=>?_
  ·refine .bind (J0K (B:=16001) (Bl:=16000) (Bm:=1) (S:=S) (J0 x1.2.2.2.2.2.2.2.2.2.2.2.2.2.2.2.2.2.2.2.2.1) 1 E ((J0n (B:=1) (S:=0) (t:=(.i .i64)) oo C.2.1).u)) λy3 P=>.bind (J3t (B:=B) (S:=S) (⟨C.1,C.c,h.2.1,h.c.1,h.d.1,h.e.1,h.g.1,h.h.1,h.i.1,h.j.1,h.k.1,h.k.2.1,h.k.c.1,h.k.d.1,h.k.e.1,h.k.g.1,h.k.h.1,h.k.i.1,trivial,h.k.k.1,trivial,P.1.u,D.u⟩)) λO n=>?_;have:J0 O.2.2.2.2.2.2.2.2.2.2.2.2.2.2.2.2.2.2.2.2.2=_:=Jm n.1.k.k.d;have:J0 O.2.2.2.2.2.2.2.2.2.2.2.2.2.2.2.2.2.2.2.2.1=J0 y3/\J0 O.2.2.2.2.2.2.2.2.2.2.2.2.2.2.2.2.2.2.2.2.2=J0 x1.2.2.2.2.2.2.2.2.2.2.2.2.2.2.2.2.2.2.2.2.2:=n.2;exact .some ⟨(⟨⟨n.1.1.z.1,C.2.1,n.1.1.z.2.2.u⟩,n.1.2.1,n.1.c.1,n.1.d.1,n.1.e.1,n.1.g.1,n.1.h.1,n.1.i.1,n.1.j.1,n.1.k.1,n.1.k.2.1,n.1.k.c.1,n.1.k.d.1,n.1.k.e.1,n.1.k.g.1,n.1.k.h.1,n.1.k.i.1,trivial,n.1.k.k.1,trivial,n.1.k.k.c⟩),om⟩
  ·refine .bind (J3t (B:=B) (S:=S) (⟨C.1,C.c,h.2.1,h.c.1,h.d.1,h.e.1,h.g.1,h.h.1,h.i.1,h.j.1,h.k.1,h.k.2.1,h.k.c.1,h.k.d.1,h.k.e.1,h.k.g.1,h.k.h.1,h.k.i.1,trivial,h.k.k.1,trivial,E.u,D.u⟩)) λN o=>?_;have:J0 N.2.2.2.2.2.2.2.2.2.2.2.2.2.2.2.2.2.2.2.2.2=_:=Jm o.1.k.k.d;have:J0 N.2.2.2.2.2.2.2.2.2.2.2.2.2.2.2.2.2.2.2.2.1=J0 x1.2.2.2.2.2.2.2.2.2.2.2.2.2.2.2.2.2.2.2.2.1/\J0 N.2.2.2.2.2.2.2.2.2.2.2.2.2.2.2.2.2.2.2.2.2=J0 x1.2.2.2.2.2.2.2.2.2.2.2.2.2.2.2.2.2.2.2.2.2:=o.2;exact .some ⟨(⟨⟨o.1.1.z.1,C.2.1,o.1.1.z.2.2.u⟩,o.1.2.1,o.1.c.1,o.1.d.1,o.1.e.1,o.1.g.1,o.1.h.1,o.1.i.1,o.1.j.1,o.1.k.1,o.1.k.2.1,o.1.k.c.1,o.1.k.d.1,o.1.k.e.1,o.1.k.g.1,o.1.k.h.1,o.1.k.i.1,trivial,o.1.k.k.1,trivial,o.1.k.k.c⟩),om⟩
 ·refine .eq (λR=>?_) λR=>?_
  ·refine .bind (JlQ (B:=B) (S:=S) (⟨h.1.z.u,h.2.1,h.c.1,h.d.1,h.e.1,h.g.1,h.h.1,h.i.1,h.j.1,h.k.1,h.k.2.1,h.k.c.1,h.k.d.1,h.k.e.1,h.k.g.1,h.k.h.1,h.k.i.1,trivial,h.k.k.1,trivial,E.u,D.u⟩) om om) λY w=>?_;have:J0 Y.2.2.2.2.2.2.2.2.2.2.2.2.2.2.2.2.2.2.2.2.1<=J0 x1.2.2.2.2.2.2.2.2.2.2.2.2.2.2.2.2.2.2.2.2.1+1/\J0 Y.2.2.2.2.2.2.2.2.2.2.2.2.2.2.2.2.2.2.2.2.2<=J0 x1.2.2.2.2.2.2.2.2.2.2.2.2.2.2.2.2.2.2.2.2.2+1:=w.2;exact .some ⟨(⟨w.1.1.z.u,w.1.2.1,w.1.c.1,w.1.d.1,w.1.e.1,w.1.g.1,w.1.h.1,w.1.i.1,w.1.j.1,w.1.k.1,w.1.k.2.1,w.1.k.c.1,w.1.k.d.1,w.1.k.e.1,w.1.k.g.1,w.1.k.h.1,w.1.k.i.1,trivial,w.1.k.k.1,trivial,w.1.k.k.c⟩),om⟩
  ·refine .eq (λa4=>?_) λa4=>?_
   ·refine .bind (JAN (B:=B) (S:=S) (⟨⟨⟨h.2.1,h.c.1,⟨h.d.1,h.e.1,h.g.1⟩,⟨h.h.1,h.i.1,h.j.1⟩,⟨h.k.1,h.k.2.1⟩,h.k.c.1,h.k.d.1,h.k.e.1⟩,h.k.g.1,h.k.h.1,h.k.i.1,trivial,h.k.k.1⟩,h.1.z.2.2.1⟩)) λy7 J=>.bind (J3t (B:=B) (S:=S) (⟨J.1,J.2,h.2.1,h.c.1,h.d.1,h.e.1,h.g.1,h.h.1,h.i.1,h.j.1,h.k.1,h.k.2.1,h.k.c.1,h.k.d.1,h.k.e.1,h.k.g.1,h.k.h.1,h.k.i.1,trivial,h.k.k.1,trivial,E.u,D.u⟩)) λM q=>?_;have:J0 M.2.2.2.2.2.2.2.2.2.2.2.2.2.2.2.2.2.2.2.2.2=_:=Jm q.1.k.k.d;have:J0 M.2.2.2.2.2.2.2.2.2.2.2.2.2.2.2.2.2.2.2.2.1=J0 x1.2.2.2.2.2.2.2.2.2.2.2.2.2.2.2.2.2.2.2.2.1/\J0 M.2.2.2.2.2.2.2.2.2.2.2.2.2.2.2.2.2.2.2.2.2=J0 x1.2.2.2.2.2.2.2.2.2.2.2.2.2.2.2.2.2.2.2.2.2:=q.2;exact .some ⟨(⟨q.1.1.z.u,q.1.2.1,q.1.c.1,q.1.d.1,q.1.e.1,q.1.g.1,q.1.h.1,q.1.i.1,q.1.j.1,q.1.k.1,q.1.k.2.1,q.1.k.c.1,q.1.k.d.1,q.1.k.e.1,q.1.k.g.1,q.1.k.h.1,q.1.k.i.1,trivial,q.1.k.k.1,trivial,q.1.k.k.c⟩),om⟩
   ·refine .eq (λa0=>?_) λa0=>?_
    ·refine .bind (Jrs (B:=B) (S:=S) (⟨⟨h.2.1,h.c.1,⟨h.d.1,h.e.1,h.g.1⟩,⟨h.h.1,h.i.1,h.j.1⟩,⟨h.k.1,h.k.2.1⟩,h.k.c.1,h.k.d.1,h.k.e.1⟩,h.k.g.1,h.k.h.1,h.k.i.1,trivial,h.k.k.1⟩)) λy9 L=>.bind (J3t (B:=B) (S:=S) (⟨L.1,L.c,h.2.1,h.c.1,h.d.1,h.e.1,h.g.1,h.h.1,h.i.1,h.j.1,h.k.1,h.k.2.1,h.k.c.1,h.k.d.1,h.k.e.1,h.k.g.1,h.k.h.1,h.k.i.1,trivial,h.k.k.1,trivial,E.u,D.u⟩)) λG r=>?_;have:J0 G.2.2.2.2.2.2.2.2.2.2.2.2.2.2.2.2.2.2.2.2.2=_:=Jm r.1.k.k.d;have:J0 G.2.2.2.2.2.2.2.2.2.2.2.2.2.2.2.2.2.2.2.2.1=J0 x1.2.2.2.2.2.2.2.2.2.2.2.2.2.2.2.2.2.2.2.2.1/\J0 G.2.2.2.2.2.2.2.2.2.2.2.2.2.2.2.2.2.2.2.2.2=J0 x1.2.2.2.2.2.2.2.2.2.2.2.2.2.2.2.2.2.2.2.2.2:=r.2;exact .some ⟨(⟨r.1.1.z.u,r.1.2.1,r.1.c.1,r.1.d.1,r.1.e.1,r.1.g.1,r.1.h.1,r.1.i.1,r.1.j.1,r.1.k.1,r.1.k.2.1,r.1.k.c.1,r.1.k.d.1,r.1.k.e.1,r.1.k.g.1,r.1.k.h.1,r.1.k.i.1,trivial,r.1.k.k.1,trivial,r.1.k.k.c⟩),om⟩
    ·refine .eq (λT=>?_) λT=>?_
     ·refine .bind (Jco (B:=B) (S:=S) (⟨h.d.1,h.e.1,h.g.1⟩)) λac a1=>.bind (Jeb (B:=B) (S:=S) (⟨⟨h.d.1,h.e.1,h.g.1⟩,a1⟩)) λab F=>.eq (λV=>?_) λV=>?_
      ·refine .bind (J5m F.1.2) λa7 a2=>.some ⟨(⟨a2.u,h.2.1,h.c.1,F.1.1.1,F.1.1.2.1.u,F.1.1.c,h.h.1,h.i.1,h.j.1,h.k.1,h.k.2.1,h.k.c.1,h.k.d.1,h.k.e.1,h.k.g.1,h.k.h.1,h.k.i.1,trivial,h.k.k.1,trivial,E.u,D.u⟩),om⟩
      ·refine .bind (J5m F.1.2) λa9 Q=>.some ⟨(⟨Q.u,h.2.1,h.c.1,h.d.1,h.e.1,h.g.1,h.h.1,h.i.1,h.j.1,h.k.1,h.k.2.1,h.k.c.1,h.k.d.1,h.k.e.1,h.k.g.1,h.k.h.1,h.k.i.1,trivial,h.k.k.1,trivial,E.u,D.u⟩),om⟩
     ·refine .eq (λW=>?_) λW=>?_
      ·refine .bind (JiM (B:=B) (S:=S) (⟨h.1.z.u,h.2.1,h.c.1,h.d.1,h.e.1,h.g.1,h.h.1,h.i.1,h.j.1,h.k.1,h.k.2.1,h.k.c.1,h.k.d.1,h.k.e.1,h.k.g.1,h.k.h.1,h.k.i.1,trivial,h.k.k.1,trivial,E.u,D.u⟩) om om) λK A=>?_;have:J0 K.2.2.2.2.2.2.2.2.2.2.2.2.2.2.2.2.2.2.2.2.1<=J0 x1.2.2.2.2.2.2.2.2.2.2.2.2.2.2.2.2.2.2.2.2.1+1/\J0 K.2.2.2.2.2.2.2.2.2.2.2.2.2.2.2.2.2.2.2.2.2<=J0 x1.2.2.2.2.2.2.2.2.2.2.2.2.2.2.2.2.2.2.2.2.2+1:=A.2;exact .some ⟨(⟨A.1.1.z.u,A.1.2.1,A.1.c.1,A.1.d.1,A.1.e.1,A.1.g.1,A.1.h.1,A.1.i.1,A.1.j.1,A.1.k.1,A.1.k.2.1,A.1.k.c.1,A.1.k.d.1,A.1.k.e.1,A.1.k.g.1,A.1.k.h.1,A.1.k.i.1,trivial,A.1.k.k.1,trivial,A.1.k.k.c⟩),om⟩
      ·refine .eq (λa3=>?_) λa3=>?_
       ·refine .bind (JGv (B:=B) (S:=S) (⟨⟨h.2.1,h.c.1,⟨h.d.1,h.e.1,h.g.1⟩,⟨h.h.1,h.i.1,h.j.1⟩,⟨h.k.1,h.k.2.1⟩,h.k.c.1,h.k.d.1,h.k.e.1⟩,h.k.g.1,h.k.h.1,h.k.i.1,trivial,h.k.k.1⟩)) λaa I=>.bind (J3t (B:=B) (S:=S) (⟨I.1,I.c,h.2.1,h.c.1,h.d.1,h.e.1,h.g.1,h.h.1,h.i.1,h.j.1,h.k.1,h.k.2.1,h.k.c.1,h.k.d.1,h.k.e.1,h.k.g.1,h.k.h.1,h.k.i.1,trivial,h.k.k.1,trivial,E.u,D.u⟩)) λH v=>?_;have:J0 H.2.2.2.2.2.2.2.2.2.2.2.2.2.2.2.2.2.2.2.2.2=_:=Jm v.1.k.k.d;have:J0 H.2.2.2.2.2.2.2.2.2.2.2.2.2.2.2.2.2.2.2.2.1=J0 x1.2.2.2.2.2.2.2.2.2.2.2.2.2.2.2.2.2.2.2.2.1/\J0 H.2.2.2.2.2.2.2.2.2.2.2.2.2.2.2.2.2.2.2.2.2=J0 x1.2.2.2.2.2.2.2.2.2.2.2.2.2.2.2.2.2.2.2.2.2:=v.2;exact .some ⟨(⟨v.1.1.z.u,v.1.2.1,v.1.c.1,v.1.d.1,v.1.e.1,v.1.g.1,v.1.h.1,v.1.i.1,v.1.j.1,v.1.k.1,v.1.k.2.1,v.1.k.c.1,v.1.k.d.1,v.1.k.e.1,v.1.k.g.1,v.1.k.h.1,v.1.k.i.1,trivial,v.1.k.k.1,trivial,v.1.k.k.c⟩),om⟩
       ·refine .bind (J08 (B:=0) (S:=0) (fkn 1)) λa8 Z=>.some ⟨(⟨Z.1.u,h.2.1,h.c.1,h.d.1,h.e.1,h.g.1,h.h.1,h.i.1,h.j.1,h.k.1,h.k.2.1,h.k.c.1,h.k.d.1,h.k.e.1,h.k.g.1,h.k.h.1,h.k.i.1,trivial,h.k.k.1,trivial,E.u,D.u⟩),om⟩
theorem JIk{B S:Int}{x1:Jx×(List J57)}(h:Ty.fit B S (.pr Jp (.l J0T)) x1)(av:BH B S:=by omega)(hB:B<=1000000:=by omega)(hS:S<=1000000000000:=by omega):Tot (Jds x1) λy=>Ty.fit B S (.pr Jp (.pr (.l J03) (.l J0v))) y:=by
 unfold Jds;refine Ja (τ:=Int×(List Int)×(List J7O)×Int×Int×Int×(List Js)×Int×Int×(List JP)×Int×(List T_api_Grant)×(List T_api_Grant)×(List Jq)×(List T_api_Row)×(List T_api_Row)×(List (List UInt8))×Int×(List Int)×Bool×(List JQ)×Bool×(List J0L)) (λq=>(x1.2,q.1,x1.1,((0,0,(0,[],0),(0,[],0),([],[]),[],[],[]),[],0,[],false,[]),q.2.1,q.2.2.1,q.2.2.2.1,q.2.2.2.2.1,q.2.2.2.2.2.1,q.2.2.2.2.2.2.1,q.2.2.2.2.2.2.2.1,q.2.2.2.2.2.2.2.2.1,q.2.2.2.2.2.2.2.2.2.1,q.2.2.2.2.2.2.2.2.2.2.1,q.2.2.2.2.2.2.2.2.2.2.2.1,q.2.2.2.2.2.2.2.2.2.2.2.2.1,q.2.2.2.2.2.2.2.2.2.2.2.2.2.1,q.2.2.2.2.2.2.2.2.2.2.2.2.2.2.1,q.2.2.2.2.2.2.2.2.2.2.2.2.2.2.2.1,q.2.2.2.2.2.2.2.2.2.2.2.2.2.2.2.2.1,q.2.2.2.2.2.2.2.2.2.2.2.2.2.2.2.2.2.1,q.2.2.2.2.2.2.2.2.2.2.2.2.2.2.2.2.2.2.1,q.2.2.2.2.2.2.2.2.2.2.2.2.2.2.2.2.2.2.2.1,q.2.2.2.2.2.2.2.2.2.2.2.2.2.2.2.2.2.2.2.2.1,q.2.2.2.2.2.2.2.2.2.2.2.2.2.2.2.2.2.2.2.2.2.1,q.2.2.2.2.2.2.2.2.2.2.2.2.2.2.2.2.2.2.2.2.2.2)) (λq=>Ty.fit 0 0 (.i .i64) q.1/\Ty.fit 1000 S (.l (.i .i64)) q.2.1/\Ty.fit 1000 S (.l J0v) q.2.2.1/\Ty.fit 0 0 (.i .i64) q.2.2.2.1/\Ty.fit 0 0 (.i .i64) q.2.2.2.2.1/\Ty.fit 0 0 (.i .i64) q.2.2.2.2.2.1/\Ty.fit B S (.l Jh) q.2.2.2.2.2.2.1/\Ty.fit 0 0 (.i .i64) q.2.2.2.2.2.2.2.1/\Ty.fit 0 0 (.i .i64) q.2.2.2.2.2.2.2.2.1/\Ty.fit B S (.l JF) q.2.2.2.2.2.2.2.2.2.1/\Ty.fit 0 0 (.i .i64) q.2.2.2.2.2.2.2.2.2.2.1/\Ty.fit B S (.l J5) q.2.2.2.2.2.2.2.2.2.2.2.1/\Ty.fit B S (.l J5) q.2.2.2.2.2.2.2.2.2.2.2.2.1/\Ty.fit B S (.l Jl) q.2.2.2.2.2.2.2.2.2.2.2.2.2.1/\Ty.fit B S (.l J9) q.2.2.2.2.2.2.2.2.2.2.2.2.2.2.1/\Ty.fit B S (.l J9) q.2.2.2.2.2.2.2.2.2.2.2.2.2.2.2.1/\Ty.fit B S (.l .s) q.2.2.2.2.2.2.2.2.2.2.2.2.2.2.2.2.1/\Ty.fit 0 0 (.i .i64) q.2.2.2.2.2.2.2.2.2.2.2.2.2.2.2.2.2.1/\Ty.fit B S (.l (.i .i64)) q.2.2.2.2.2.2.2.2.2.2.2.2.2.2.2.2.2.2.1/\Ty.fit B S (.l JO) q.2.2.2.2.2.2.2.2.2.2.2.2.2.2.2.2.2.2.2.2.1/\Ty.fit 1000 S (.l J03) q.2.2.2.2.2.2.2.2.2.2.2.2.2.2.2.2.2.2.2.2.2.2/\(0<=q.1)/\(q.1<=1000)/\(J0 q.2.1<=q.1)/\(J0 q.2.2.1<=q.1)/\(J0 q.2.2.2.2.2.2.2.2.2.2.2.2.2.2.2.2.2.2.2.2.2.2<=q.1)) (λq=>1001-q.1) ?_ (0,[],[],x1.1.1.1,x1.1.1.2.1,x1.1.1.2.2.1.1,x1.1.1.2.2.1.2.1,x1.1.1.2.2.1.2.2,x1.1.1.2.2.2.1.1,x1.1.1.2.2.2.1.2.1,x1.1.1.2.2.2.1.2.2,x1.1.1.2.2.2.2.1.1,x1.1.1.2.2.2.2.1.2,x1.1.1.2.2.2.2.2.1,x1.1.1.2.2.2.2.2.2.1,x1.1.1.2.2.2.2.2.2.2,x1.1.2.1,x1.1.2.2.1,x1.1.2.2.2.1,x1.1.2.2.2.2.1,x1.1.2.2.2.2.2,false,[]) rfl ?_
 ·rintro⟨O,A,w,an,ao,ap,aq,ac,ae,ak,am,af,ah,ai,a8,aa,al,aj,ag,a9,ab,ad,r⟩ Y;dsimp only at Y;obtain⟨i1,i2,N,V,Q,W,R,P,U,G,L,M,F,I,C,D,E,J,K,H,v,az,ax,ay,au,aw⟩:=Y;unfold Jni
  try dsimp only
  have:J0 A<=1000:=i2.1;have:=J4 (l:=A);have:J0 w<=1000:=N.1;have:=J4 (l:=w);have:J0 w=_:=Jm N;have:J0 r<=1000:=v.1;have:=J4 (l:=r);have:J0 r=_:=Jm v;have:J0 x1.2=_:=Jm h.2;refine .lt (λa5=>?_) λa5=>?_
  ·refine .lt (λa3=>?_) λa3=>?_
   ·refine .not (λa4=>?_) λa4=>?_
    ·refine .bind (Jg h.2) λy3 a6=>.bind (JjY (B:=B) (S:=S) (⟨a6.1.z.u,V,Q,W,R,P,U,G,L,M,F,I,C,D,E,J,K,trivial,H,trivial,i2.u,N.u⟩) om om) λo n=>?_;have:J0 o.2.2.2.2.2.2.2.2.2.2.2.2.2.2.2.2.2.2.2.2.2=_:=Jm n.1.k.k.d;have:J0 o.2.2.2.2.2.2.2.2.2.2.2.2.2.2.2.2.2.2.2.2.1<=J0 A+1/\J0 o.2.2.2.2.2.2.2.2.2.2.2.2.2.2.2.2.2.2.2.2.2<=J0 w+1:=n.2;refine .bind (J0K (B:=1001) (Bl:=1000) (Bm:=1) (S:=S) (J0 r) 1 v (J0n (B:=1) (S:=S) (t:=J03) oo (n.1.1.z.u))) λT Z=>?_;have a7:Ty.fit 1000 S (.l (.i .i64)) o.2.2.2.2.2.2.2.2.2.2.2.2.2.2.2.2.2.2.2.2.1:=⟨(by omega:J0 o.2.2.2.2.2.2.2.2.2.2.2.2.2.2.2.2.2.2.2.2.1<=1000),λx hx=>n.1.k.k.c.1.2 x hx⟩;have a2:Ty.fit 1000 S (.l J0v) o.2.2.2.2.2.2.2.2.2.2.2.2.2.2.2.2.2.2.2.2.2:=⟨(by omega:J0 o.2.2.2.2.2.2.2.2.2.2.2.2.2.2.2.2.2.2.2.2.2<=1000),λx hx=>n.1.k.k.e x hx⟩;have:J0 T=_:=Jm Z.1;have a1:Ty.fit 1000 S (.l J03) T:=⟨(by omega:J0 T<=1000),λx hx=>Z.1.2 x hx⟩;have:=Jf O 1;exact .some ⟨(J2 .i64 O 1,o.2.2.2.2.2.2.2.2.2.2.2.2.2.2.2.2.2.2.2.2.1,o.2.2.2.2.2.2.2.2.2.2.2.2.2.2.2.2.2.2.2.2.2,o.2.1,o.2.2.1,o.2.2.2.1,o.2.2.2.2.1,o.2.2.2.2.2.1,o.2.2.2.2.2.2.1,o.2.2.2.2.2.2.2.1,o.2.2.2.2.2.2.2.2.1,o.2.2.2.2.2.2.2.2.2.1,o.2.2.2.2.2.2.2.2.2.2.1,o.2.2.2.2.2.2.2.2.2.2.2.1,o.2.2.2.2.2.2.2.2.2.2.2.2.1,o.2.2.2.2.2.2.2.2.2.2.2.2.2.1,o.2.2.2.2.2.2.2.2.2.2.2.2.2.2.1,o.2.2.2.2.2.2.2.2.2.2.2.2.2.2.2.1,o.2.2.2.2.2.2.2.2.2.2.2.2.2.2.2.2.1,o.2.2.2.2.2.2.2.2.2.2.2.2.2.2.2.2.2.1,o.2.2.2.2.2.2.2.2.2.2.2.2.2.2.2.2.2.2.1,o.2.2.2.2.2.2.2.2.2.2.2.2.2.2.2.2.2.2.2.1,T),rfl,⟨J7,a7,a2,n.1.2.1,n.1.c.1,n.1.d.1,n.1.e.1,n.1.g.1,n.1.h.1,n.1.i.1,n.1.j.1,n.1.k.1,n.1.k.2.1,n.1.k.c.1,n.1.k.d.1,n.1.k.e.1,n.1.k.g.1,n.1.k.h.1,n.1.k.i.1,n.1.k.k.1,a1,om,om,om,om,om⟩,om,om⟩
    ·exact .some (⟨⟨⟨V,Q,⟨W,R,P⟩,⟨U,G,L⟩,⟨M,F⟩,I,C,D⟩,E,J,K,trivial,H⟩,v.u,N.u⟩)
   ·exact .some (⟨⟨⟨V,Q,⟨W,R,P⟩,⟨U,G,L⟩,⟨M,F⟩,I,C,D⟩,E,J,K,trivial,H⟩,v.u,N.u⟩)
  ·exact .some (⟨⟨⟨V,Q,⟨W,R,P⟩,⟨U,G,L⟩,⟨M,F⟩,I,C,D⟩,E,J,K,trivial,H⟩,v.u,N.u⟩)
 ·try dsimp only
  exact⟨fk0,Jb,Jb,h.1.1.1,h.1.1.2.1,h.1.1.c.1.1,h.1.1.c.1.2.1,h.1.1.c.1.c,h.1.1.d.1.1,h.1.1.d.1.2.1,h.1.1.d.1.c,h.1.1.e.1.1,h.1.1.e.1.2,h.1.1.g.1,h.1.1.h.1,h.1.1.i,h.1.2.1,h.1.c.1,h.1.d.1,h.1.g,Jb,om,om,om,om,om⟩
theorem Jm4{B S:Int}{x1:Int×Bool×JB}(h:Ty.fit B S JPo x1)(p0:0<=x1.2.2.2)(w:0<=x1.1)(q:x1.1<=1000)(o:BH B S:=by omega)(A:B<=1000000:=by omega)(z:S<=1000000000000:=by omega):Tot (J52 x1) λy=>Ty.fit B S (.pr Jp J8) y/\(0<=y.2.2):=by unfold J52;refine .bind (Jo (B:=B) (S:=S) (⟨fkn 4,h.c⟩) om) λC h3=>?_;have:=J1.1 h3.1.c;refine .bind (Jo (B:=B) (S:=S) (⟨fkn 3,h3.1.2⟩) om) λr j=>?_;have:=J1.1 j.1.c;refine .bind (JI2 (B:=0) (S:=0) (⟨J7,J7⟩)) λx k=>.bind (Jk0 (B:=B) (S:=S) (⟨J7,h.1,trivial,j.1.2⟩) om om om) λn e=>?_;have:0<=n.2.2:=e.2;refine .bind (JIk (B:=B) (S:=S) (⟨k.1.u,e.1.1⟩)) λv g=>.some ⟨(⟨g.1,e.1.2⟩),om⟩
theorem JoO{B S:Int}{x1:JxU}(h:Ty.fit B S JPh x1)(p0:0<=x1.2.2)(W:BC B S 0 0:=by omega)(hS:S<=2305843009213693951:=by omega):Tot (J5Q x1) λy=>Ty.fit B (2*S+1) JPh y/\(0<=y.2.2):=by
 unfold J5Q;have:J0 x1.1<=S:=h.1.z;have:=J4 (l:=x1.1);refine .eq (λR=>?_) λR=>?_
 ·refine .bind (Jo (B:=B) (S:=S) (⟨fkn 256,h.2⟩) om) λy2 h5=>?_;have:=J1.1 h5.1.c;exact .some ⟨(⟨(Je1 (B:=0) (S:=1) (by simp only[Jqm,J98];omega)).u,h5.1.2.u⟩),om⟩
 ·refine .bind (Jo (B:=B) (S:=S) (⟨J3M h.1.z oo,h.2⟩) om) λo r=>?_;have:=J1.1 r.1.1;have:=J1.1 r.1.c;have:0<=o.1/\(1<=(J0 x1.1)->o.1<(J0 x1.1))/\0<=o.2.2:=r.2;refine .bind (Jo (B:=B) (S:=S) (⟨fkn 4,r.1.2⟩) om) λA e=>?_;have:=J1.1 e.1.1;have:=J1.1 e.1.c;have:0<=A.1/\A.1<4/\0<=A.2.2:=⟨e.2.1,e.c.1 (show(1:Int)<=4 by decide),e.d⟩;refine .eq (λE=>?_) λE=>?_
  ·refine .bind (J7T h.1.z) λQ P=>?_;have T:Ty.fit 0 S .s Q:=P.1;have:=Jf o.1 1;refine .bind (Jgn h.1.z) λJ I=>?_;have a2:Ty.fit 0 S .s J:=I.1;have:=J4 (l:=J);refine .bind (J3u) λD U=>?_;have H:Ty.fit 0 (2*S) .s D:=(by omega:J0 D<=(2*S));exact .some ⟨(⟨H.u,e.1.2.u⟩),om⟩
  ·refine .eq (λG=>?_) λG=>?_
   ·refine .bind (Jo (B:=B) (S:=S) (⟨fkn 256,e.1.2⟩) om) λq w=>?_;have:=J1.1 w.1.c;have:J0 (toStr [cvI .u8 q.1])<=1:=(J4s▸(by simp only[Jqm,J98];omega));have:=J4 (l:=toStr [cvI .u8 q.1]);have:J0 (toStr [cvI .u8 q.1])=J0 [cvI .u8 q.1]:=J4s;refine .bind (J3u) λL Z=>?_;have M:Ty.fit 0 (S+1) .s L:=(by omega:J0 L<=(S+1));exact .some ⟨(⟨M.u,w.1.2.u⟩),om⟩
   ·refine .bind (J7T h.1.z) λF K=>?_;have a0:Ty.fit 0 S .s F:=K.1;refine .bind (JrY (l:=x1.1)) λk V=>.bind (Jo (B:=B) (S:=S) (⟨fkn 255,e.1.2⟩) om) λg n=>?_;have:=J1.1 n.1.c;have:0<=g.1/\(1<=(255:Int)->g.1<(255:Int))/\0<=g.2.2:=n.2;have:J0 (toStr [J4f .u8 k (cvI .u8 (J2 .i64 1 g.1))])<=1:=(J4s▸(by simp only[Jqm,J98];omega));have:=J4 (l:=toStr [J4f .u8 k (cvI .u8 (J2 .i64 1 g.1))]);have:J0 (toStr [J4f .u8 k (cvI .u8 (J2 .i64 1 g.1))])=J0 [J4f .u8 k (cvI .u8 (J2 .i64 1 g.1))]:=J4s;refine .bind (J3u) λj a3=>?_;have N:Ty.fit 0 (S+1) .s j:=(by omega:J0 j<=(S+1));have:=Jf o.1 1;refine .bind (Jgn h.1.z) λx C=>?_;have Y:Ty.fit 0 S .s x:=C.1;have:J0 j<=(S+1):=N;have:=J4 (l:=j);have:=J4 (l:=x);refine .bind (J3u) λv a1=>?_;have O:Ty.fit 0 (2*S+1) .s v:=(by omega:J0 v<=(2*S+1));exact .some ⟨(⟨O.u,n.1.2.u⟩),om⟩
theorem JKx{B S:Int}{x1:JB}(h:Ty.fit B S J8 x1)(p0:0<=x1.2)(g:BS B S 0 0:=by omega):Tot (J7B x1) λy=>Ty.fit B S J8 y/\(y.2=0):=by
 unfold J7B;refine .gt (λe=>?_) λe=>?_
 ·refine .bind (J97 h.1) λj h5=>.some ⟨(⟨h5.1,fk0⟩),om⟩
 ·exact .some ⟨(⟨h.1,fk0⟩),om⟩
end Go.Am
end
section
namespace Go.Am
section
variable (P:Program)
def JbR:Nat->TypeId->Bool
 |0,_=>false
 |n+1,t=>match P.underlying t with
  |some .bool=>true
  |some (.int _)=>true
  |some .string=>true
  |some (.slice e)=>JbR n e&&decide (t<P.types.size/\0<P.cellsOf e)
  |some (.struct fs)=>fs.toList.all (λf=>JbR n f.type)&&decide (t<P.types.size)
  |some (.array _ e)=>JbR n e&&decide (t<P.types.size)
  |_=>false
def J5S:Nat->TypeId->List PV->Prop
 |0,_,_=>False
 |n+1,t,pvs=>match P.underlying t with
  |some .bool=> ∃b,pvs=[.b b]
  |some (.int k)=> ∃z,pvs=[.i k z]/\(Lit.int k z).wf=true
  |some .string=> ∃l,pvs=[.s l]/\l.length<=maxLen
  |some (.slice e)=> ∃rows,pvs=[.sl (P.cellsOf e) rows]/\rows.length<=maxLen/\ ∀row∈rows,row.length=P.cellsOf e/\J5S n e row
  |some (.struct fs)=>pvs.length=P.cellsOf t/\ ∀f∈fs.toList,J5S n f.type ((pvs.drop f.offset).take (P.cellsOf f.type))
  |some (.array m e)=>pvs.length=P.cellsOf t/\ ∀i,i<m->J5S n e ((pvs.drop (i*P.cellsOf e)).take (P.cellsOf e))
  |_=>False
end
section
variable {H:Type} {enc:TypeId×Value->H} {P:Program} {w:World} {base:Nat} {sp:Nat->Bool} {held:Bool}
def JLo(w:World)(pvs:List PV)(cs:List Value):Prop:=pvs.length=cs.length/\ ∀(i:Nat) p v,pvs[i]?=some p->cs[i]?=some v->J0u w (λr _=>r<w.heap.size) p v
theorem JAk{a:Addr}{v:Value}(h:w.cell? a=some v):a.spot=none/\J0M w a.block a.off=some v/\a.block<w.heap.size:=by
 unfold World.cell? at h;unfold J0M;split at h
 ·rename_i c t fz hb;split at h
  ·cases h
  ·rename_i hs;refine⟨by simpa using hs,by rw[hb];exact h,?_⟩;have:=JL5.1 hb;exact this.1
 ·cases h
theorem JOE{a:Addr}{n:Nat}{cs:List Value}(h:w.cells? base a n=some cs):cs.length=n/\ ∀i v,cs[i]?=some v->w.cell? (a.add i)=some v:=by
 unfold World.cells? at h;split at h
 ·have hl:=mapM_some_length h;refine⟨by simpa using hl,λi v hv=>?_⟩;have hi:i<n:=by have:=(J9N.1 hv).1;simp at hl;omega
  have:=mapM_some_get h i i (by simp[hi]);rw[this,hv]
 ·cases h
theorem JwH{α:Type}(Q:Nat->α->Prop): ∀(m:Nat),(∀i,i<m-> ∃x,Q i x)-> ∃xs:List α,xs.length=m/\ ∀i x,xs[i]?=some x->Q i x
 |0,_=>⟨[],rfl,λi x h=>by simp at h⟩
 |m+1,h=>by
  obtain⟨xs,hl,hx⟩:=JwH Q m (λi hi=>h i (by omega));obtain⟨y,hy⟩:=h m (by omega);refine⟨xs++[y],by simp[hl],λi x hi=>?_⟩;rcases zQ1 i xs.length with g|e
  ·rw[J9Q g]at hi;exact hx i x hi
  ·rw[J9O e]at hi;have:i-xs.length=0:=by have:=(J9N.1 hi).1;simp at this;omega
   rw[this]at hi;simp at hi;subst hi;obtain rfl:i=m:=by omega
   exact hy
theorem Jqk{α:Type}: ∀(xs:List (List α)) (j:Nat) (y:List α),xs[j]?=some y->(xs.flatten.drop ((xs.take j).map List.length).sum).take y.length=y
 |[],j,y,h=>by simp at h
 |x::xs,0,y,h=>by simp at h;subst h;simp
 |x::xs,j+1,y,h=>by
  simp at h;have:=Jqk xs j y h;simp only[JM3,J0I,List.sum_cons,J8S,JPE];exact this
theorem JQx(hl:laidOutB P=true)(hm:mapsRowed P=true): ∀(n:Nat) (t:TypeId) (cs:List Value) (x:DataW H×List MemPlace) (S:Nat),JbR P n t=true->DataW.trod enc P w base sp held S t cs=some x->
  ∃pvs,J5S P n t pvs/\JLo w pvs cs:=by
 have K:=kids_rows hl hm;intro n
 induction n with
 |zero=>intro t cs x S hp;simp[JbR]at hp
 |succ n ih=>
  intro t cs x S hp h;unfold JbR at hp;unfold J5S;split at hp
  ·rename_i C;obtain⟨b,rfl,_⟩:=DataW.trod_bool C h;refine⟨[.b b],by simp,rfl,λi p v h1 h2=>?_⟩
   match i with
   |0=>simp at h1 h2;subst h1 h2;exact .b _
   |i+1=>simp at h1
  ·rename_i k C;obtain⟨z,rfl,_,ak⟩:=DataW.trod_int C h;refine⟨[.i k z],by simpa using ak,rfl,λi p v h1 h2=>?_⟩
   match i with
   |0=>simp at h1 h2;subst h1 h2;exact .i _ _
   |i+1=>simp at h1
  ·rename_i C;obtain⟨s,rfl,_,ag⟩:=DataW.trod_string C h;refine⟨[.s s.data.toList],⟨_,rfl,by rw[Array.length_toList];exact ag⟩,rfl,λi p v h1 h2=>?_⟩
   match i with
   |0=>simp at h1 h2;subst h1 h2;exact .s _
   |i+1=>simp at h1
  ·rename_i e C;simp only[J02,decide_eq_true_eq]at hp;rcases DataW.trod_slice C h with⟨rfl,_⟩|⟨a,len,cap,a6,rest,n0,_,rfl,_,_,av,hcm,aw,O,_⟩
   ·refine⟨[.sl (P.cellsOf e) []],⟨[],rfl,zQ5 _,by simp⟩,rfl,λi p v h1 h2=>?_⟩
    match i with
    |0=>simp at h1 h2;subst h1 h2;exact .sl0 _ _ _
    |i+1=>simp at h1
   ·
    have ad: ∀i,i<len-> ∃row:List PV,(row.length=P.cellsOf e/\J5S P n e row)/\ ∀j p,row[j]?=some p-> ∃v,w.cell? (a.add (i*P.cellsOf e)|>.add j)=some v/\J0u w (λr _=>r<w.heap.size) p v:=by
     intro i hi;have h1:=O i hi;have h2: ∃y,a6[i]?=some y:=⟨_,JK (by omega)⟩;obtain⟨y,hy⟩:=h2;rw[hy,J25]at h1;obtain⟨cs',hc,af⟩:=h1;obtain⟨row,q1,q2,q3⟩:=ih e cs' y n0 hp.1 af;obtain⟨c1,c2⟩:=JOE hc;refine⟨row,⟨by omega,q1⟩,λj p hj=>?_⟩;have M:j<cs'.length:=by have:=(J9N.1 hj).1;omega
     have hv:=JK M;exact⟨_,c2 j _ hv,q3 j p _ hj hv⟩
    obtain⟨rows,aj,B⟩:=JwH _ len ad;refine⟨[.sl (P.cellsOf e) rows],⟨rows,rfl,by omega,λrow hr=>?_⟩,rfl,λi p v h1 h2=>?_⟩
    ·obtain⟨i,hi⟩:=J9V hr;exact(B i row hi).1
    match i with
    |i+1=>simp at h1
    |0=>
     simp at h1 h2;subst h1 h2;by_cases h0: ∃(i j:Nat) (row:List PV) (p:PV),rows[i]?=some row/\row[j]?=some p
     ·obtain⟨i0,j0,aa,p0,a8,ao⟩:=h0;have Y:a.spot=none\/P.cellsOf e=0:=by
       rcases JEA (P.cellsOf e)with hz|ab
       ·exact .inr hz
       ·have hlen:0<len:=by have:=(J9N.1 a8).1;omega
        have I:=JK (l:=rows) (i:=0) (by omega);have q:=B 0 _ I;have ah:=JK (l:=rows[0]'(by omega)) (i:=0) (by omega);obtain⟨v,hv,_⟩:=q.2 0 _ ah;rw[Juq]at hv;exact .inl (by simpa[Addr.add]using(JAk hv).1)
      rcases Y with Y|hz
      ·have cell: ∀(i j:Nat) (row:List PV) (p:PV),rows[i]?=some row->row[j]?=some p-> ∃v,(a.block<w.heap.size/\J0M w a.block (a.off+i*P.cellsOf e+j)=some v)/\J0u w (λr _=>r<w.heap.size) p v:=by
        intro i j row p hi hj;obtain⟨v,hv,hr⟩:=(B i row hi).2 j p hj;obtain⟨s1,s2,s3⟩:=JAk hv;refine⟨v,?_,hr⟩;have e1:((a.add (i*P.cellsOf e)).add j).block=a.block:=by unfold Addr.add;split<;>split<;>rfl
        have e2:((a.add (i*P.cellsOf e)).add j).off=a.off+i*P.cellsOf e+j:=by unfold Addr.add;split<;>split<;>simp_all
        rw[e1]at s3;rw[e1,e2]at s2;exact⟨s3,s2⟩
       have ea:a=⟨a.block,a.off,none⟩:=by cases a;simp_all
       rw[ea,<-aj];refine .sl _ rows a.block a.off cap (λi j=>((J0M w a.block (a.off+i*P.cellsOf e+j)).getD default)) (by omega) (λrow hr=>?_) (λi j row p hi hj=>?_) (λi j row p hi hj=>?_)
       ·obtain⟨i,hi⟩:=J9V hr;exact(B i row hi).1.1
       ·obtain⟨v,⟨h3,h4⟩,_⟩:=cell i j row p hi hj;exact⟨h3,by rw[h4];rfl⟩
       ·obtain⟨v,⟨h3,h4⟩,h5⟩:=cell i j row p hi hj;rw[h4];exact h5
      ·have:=(B i0 aa a8).1.1;have:=(J9N.1 ao).1;omega
     ·
      rcases JEA len with hz|ab
      ·have:rows=[]:=by cases rows<;>simp_all
       subst this;subst hz;exact .sl0 _ _ _
      ·exfalso;have I:=JK (l:=rows) (i:=0) (by omega);have q:=(B 0 _ I).1.1;exact h0 ⟨0,0,_,_,I,JK (by omega)⟩
  ·rename_i fs C;simp only[J02,decide_eq_true_eq,Juz]at hp;obtain⟨xs,n0,_,_,Q,a7,O⟩:=DataW.trod_struct C h;obtain⟨_,R,a5⟩:=K.struct hp.2 C;have hf: ∀i,i<fs.toList.length-> ∃g:List PV,∀f,fs.toList[i]?=some f->J5S P n f.type g/\JLo w g ((cs.drop f.offset).take (P.cellsOf f.type)):=by
    intro i hi;have hfi:=JK hi;have ac:=zQ9 hfi;have ae:fs[i]?=some (fs.toList[i]):=by rw[<-JHE];exact hfi
    have h1:=O i _ ae;have h2: ∃y,xs[i]?=some y:=⟨_,JK (by simpa[a7]using hi)⟩;obtain⟨y,hy⟩:=h2;rw[hy]at h1;obtain⟨g,q1,q2⟩:=ih _ _ _ _ (hp.1 _ ac) h1;refine⟨g,λf V=>?_⟩;rw[hfi]at V;injection V with V;subst V
    exact⟨q1,q2⟩
   obtain⟨A,W,F⟩:=JwH _ _ hf;have hlen: ∀(j:Nat) (f:Field),fs.toList[j]?=some f-> ∀g:List PV,A[j]?=some g->g.length=P.cellsOf f.type:=by
    intro j f hj g hy;have q:=(F j g hy f hj).2.1;have o:=a5 j f hj;rw[q,Jiy,JfJ,Q,R,o];have:((fs.toList.take j).map λf=>P.cellsOf f.type).sum+P.cellsOf f.type<=(fs.toList.map λf=>P.cellsOf f.type).sum:=by
     have e1:fs.toList=fs.toList.take j++(f::fs.toList.drop (j+1)):=by have L:=(J9N.1 hj);obtain⟨L,he⟩:=L;rw[<-he,<-List.drop_eq_getElem_cons L,Jz3]
     conv=>rhs;rw[e1]
     simp only[Jc6,J0I,List.sum_append,List.sum_cons];omega
    omega
   have J:A.map List.length=fs.toList.map λf=>P.cellsOf f.type:=by
    apply Jp5;intro j;rw[J2c,J2c];cases hy:A[j]? with
    |none=>
     have:fs.toList[j]?=none:=by rw[List.getElem?_eq_none_iff]at hy⊢;omega
     rw[this];rfl
    |some g=>
     have hj:j<fs.toList.length:=by have:=(J9N.1 hy).1;omega
     have G:=JK hj;rw[G];simp only[J1t];rw[hlen j _ G g hy]
   have E: ∀(j:Nat) (f:Field),fs.toList[j]?=some f->((A.take j).map List.length).sum=f.offset:=by intro j f hj;rw[a5 j f hj,Jvb,J,<-Jvb]
   refine⟨A.flatten,⟨?_,λf hf=>?_⟩,?_,λi p v h1 h2=>?_⟩
   ·rw[JGJ,J,R]
   ·obtain⟨j,hj⟩:=J9V hf;have L:j<A.length:=by have:=(J9N.1 hj).1;omega
    have D:=JK L;have:=Jqk A j _ D;rw[E j f hj,hlen j f hj _ D]at this;rw[this];exact(F j _ D f hj).1
   ·rw[JGJ,J,Q,R]
   ·
    have a4: ∀(l:List (List PV)) (i:Nat) p,l.flatten[i]?=some p-> ∃j g k,l[j]?=some g/\g[k]?=some p/\i=((l.take j).map List.length).sum+k:=by
     intro l
     induction l with
     |nil=>intro i p h;simp at h
     |cons y l N=>
      intro i p h;rw[J8S]at h;rcases zQ1 i y.length with M|Z
      ·rw[J9Q M]at h;exact⟨0,y,i,rfl,h,by simp⟩
      ·rw[J9O Z]at h;obtain⟨j,g,k,a1,a2,a3⟩:=N _ _ h;exact⟨j+1,g,k,by simpa using a1,a2,by simp only[JM3,J0I,List.sum_cons];omega⟩
    obtain⟨j,g,k,a1,a2,a3⟩:=a4 _ _ _ h1;have hj:j<fs.toList.length:=by have:=(J9N.1 a1).1;omega
    have G:=JK hj;have q:=(F j g a1 _ G).2;refine q.2 k p v a2 ?_;have hk:k<P.cellsOf (fs.toList[j]).type:=by have:=(J9N.1 a2).1;rw[hlen j _ G g a1]at this;exact this
    rw[Jye hk,Jb3,<-E j _ G,<-a3];exact h2
  ·rename_i m e C;simp only[J02,decide_eq_true_eq]at hp;obtain⟨xs,n0,_,_,Q,a7,O⟩:=DataW.trod_array C h;obtain⟨_,a0⟩:=K.array hp.2 C;have hf: ∀i,i<m-> ∃g:List PV,J5S P n e g/\JLo w g ((cs.drop (i*P.cellsOf e)).take (P.cellsOf e)):=by intro i hi;have h1:=O i hi;have h2: ∃y,xs[i]?=some y:=⟨_,JK (by omega)⟩;obtain⟨y,hy⟩:=h2;rw[hy]at h1;exact ih _ _ _ _ hp.1 h1
   obtain⟨A,W,F⟩:=JwH _ _ hf;have hlen: ∀(j:Nat) g,A[j]?=some g->g.length=P.cellsOf e:=by
    intro j g hy;have q:=(F j g hy).2.1;have hj:j<m:=by have:=(J9N.1 hy).1;omega
    rw[q,Jiy,JfJ,Q,a0];have:j*P.cellsOf e+P.cellsOf e<=m*P.cellsOf e:=by rw[<-zQ8];exact zQ7 _ hj
    omega
   have T: ∀y∈A,y.length=P.cellsOf e:=λy hy=>by obtain⟨j,hj⟩:=J9V hy;exact hlen j y hj
   have U: ∀l:List (List PV),(∀y∈l,y.length=P.cellsOf e)->(l.map List.length).sum=l.length*P.cellsOf e:=by
    intro l
    induction l with
    |nil=>intro _;simp
    |cons y l N=>intro hh;simp[hh y (by simp),N (λz hz=>hh z (by simp[hz])),zQ8,Nat.add_comm]
   have E: ∀j,j<=m->((A.take j).map List.length).sum=j*P.cellsOf e:=by intro j hj;rw[U _ (λy hy=>T y (JMk hy)),Jiy,W,Nat.min_eq_left hj]
   refine⟨A.flatten,⟨?_,λj hj=>?_⟩,?_,λi p v h1 h2=>?_⟩
   ·rw[JGJ,U _ T,W,a0]
   ·have D:=JK (l:=A) (i:=j) (by omega);have:=Jqk A j _ D;rw[E j (by omega),hlen j _ D]at this;rw[this];exact(F j _ D).1
   ·rw[JGJ,U _ T,Q,W,a0]
   ·have a4: ∀(l:List (List PV)) (i:Nat) p,l.flatten[i]?=some p-> ∃j g k,l[j]?=some g/\g[k]?=some p/\i=((l.take j).map List.length).sum+k:=by
     intro l
     induction l with
     |nil=>intro i p h;simp at h
     |cons y l N=>
      intro i p h;rw[J8S]at h;rcases zQ1 i y.length with M|Z
      ·rw[J9Q M]at h;exact⟨0,y,i,rfl,h,by simp⟩
      ·rw[J9O Z]at h;obtain⟨j,g,k,a1,a2,a3⟩:=N _ _ h;exact⟨j+1,g,k,by simpa using a1,a2,by simp only[JM3,J0I,List.sum_cons];omega⟩
    obtain⟨j,g,k,a1,a2,a3⟩:=a4 _ _ _ h1;have hj:j<m:=by have:=(J9N.1 a1).1;omega
    have q:=(F j g a1).2;refine q.2 k p v a2 ?_;have hk:k<P.cellsOf e:=by have:=(J9N.1 a2).1;rw[hlen j g a1]at this;exact this
    rw[Jye hk,Jb3,<-E j (by omega),<-a3];exact h2
  ·cases hp
end
end Go.Am
end
section
namespace Go.Am
open Go.ChangeShapes Go.WideShapes Go.ChangeAt Go.RowKit
def gh0(w:World):Gh:=⟨λ_=>none,λr _=>r<w.heap.size⟩
theorem JxE(g:Gh)(w:World)(b r o:Nat): ¬Wr1 ⟨[],g,w⟩ b r o:=by unfold Wr1;simp
theorem JTU(w:World):Inv ⟨[],gh0 w,w⟩ where
 box:=λb cs h=>by simp at h
 arr:=λb wm esz rows h=>by simp at h
 apart:=λb1 b2 r o h=>absurd h (JxE _ _ _ _ _)
 const:=λr o h=>⟨h,λb=>JxE _ _ _ _ _⟩
def Jh1(w w':World):Prop:=Jg2 (λ_ _=>False) w w'
theorem Jh1.kept{w w':World}(h:Jh1 w w')(g:MemPlace->Prop):w.keptBut w' g:=by
 obtain⟨h1,h2,h3,h4,h5⟩:=h;refine⟨h4,h5,λi hi=>?_⟩;have n:=Jly hi;cases hw:w.heap[i]? with
 |none=>rw[n]at hw;cases hw
 |some x=>
  cases x with
  |cells c e fz=>
   obtain⟨c',q1,q2,q3⟩:=h2 i c e fz hw;rw[q1];exact⟨rfl,rfl,q2,λj _=>q3 j (λhf=>hf)⟩
  |map es k=>
   have:=h3 i _ hw (λc e fz he=>by cases he);rw[this];exact .inr ⟨rfl,rfl⟩
  |_=>
   have:=h3 i _ hw (λc e fz he=>by cases he);rw[this]
theorem Jh1.same{w w':World}(h:Jh1 w w'){p:MemPlace}(hp:p.block<w.heap.size):w.sameAt w' p:=by
 obtain⟨h1,h2,h3,h4,h5⟩:=h;cases p with
 |cell b off=>
  have hb:b<w.heap.size:=hp;have g:=Jly hb;show w'.cell? ⟨b,off,none⟩=w.cell? ⟨b,off,none⟩;rw[J9p,J9p];unfold J0M;cases hw:w.heap[b]? with
  |none=>rw[g]at hw;cases hw
  |some x=>
   cases x with
   |cells c e fz=>
    obtain⟨c',q1,q2,q3⟩:=h2 b c e fz hw;rw[q1];exact q3 off (λhf=>hf)
   |_=>
    have:=h3 b _ hw (λc e fz he=>by cases he);rw[this]
 |map b=>
  have hb:b<w.heap.size:=hp;have g:=Jly hb;show w'.heap[b]?=w.heap[b]?;cases hw:w.heap[b]? with
  |none=>rw[g]at hw;cases hw
  |some x=>
   cases x with
   |cells c e fz=>
    obtain⟨c',q1,q2,q3⟩:=h2 b c e fz hw;rw[q1];have:c'=c:=by apply Array.ext_getElem?;intro i;exact q3 i (λhf=>hf)
    rw[this]
   |_=>exact h3 b _ hw (λc e fz he=>by cases he)
theorem Jh1.frozen{w w':World}(h:Jh1 w w'){a:Addr}(hp:a.block<w.heap.size):w'.frozen? a=w.frozen? a:=by
 obtain⟨h1,h2,h3,h4,h5⟩:=h;have g:=Jly hp;unfold World.frozen?;cases hw:w.heap[a.block]? with
 |none=>rw[g]at hw;cases hw
 |some x=>
  cases x with
  |cells c e fz=>
   obtain⟨c',q1,q2,q3⟩:=h2 a.block c e fz hw;rw[q1]
  |_=>
   have:=h3 a.block _ hw (λc e fz he=>by cases he);rw[this]
theorem JNG{P:Program}{F:Orc}(n:J5J P F){f:FuncId}{args:List AV}{vals:Array Value}{w:World}(hl:args.length=vals.size)
  (hr: ∀(i:Nat) x v,args[i]?=some x->vals[i]?=some v->JL ⟨[],gh0 w,w⟩ x v) (h:F f args []=some (.p (.b true),[])):
  Calls P f vals w λe w'=>e=.returned (.bool true)/\Jh1 w w':=by
 refine((n _ _ _ _ h).2 (gh0 w) w vals (JTU w) hl hr).mono λe w' ⟨v,g',he,_,j,hrel⟩=>?_;cases hrel with
 |p _ _ hrel=>
  cases hrel with
  |b=>
   refine⟨he,?_⟩;obtain⟨g,q,k,y⟩:=j.keep;refine⟨g,λr c e fz hr=>?_,k,y⟩;obtain⟨c',q1,q2,q3⟩:=q r c e fz hr;exact⟨c',q1,q2,λo _=>q3 o (fun⟨b,hb⟩=>JxE _ _ _ _ _ hb)⟩
section
variable {H:Type} {enc:TypeId×Value->H} {P:Program}
theorem Joe(hl:laidOutB P=true)(hm:mapsRowed P=true)(g: ∀{t e:TypeId},t<P.types.size->P.underlying t=some (.slice e)->0<P.cellsOf e){W o:World}{sp:Nat->Bool}:
  ∀{ts:List TypeId} {vs:List Value} {j:List (DataW H)} {ps:List MemPlace},(∀t∈ts,t<P.types.size)->DataW.TrodAll enc P W 0 (λ_=>true) true ts vs j ps->
   (∀p∈ps,W.sameAt o p)->(∀p∈ps,sp p.block=true)->DataW.TrodAll enc P o 0 sp true ts vs j ps
 |[],[],[],_,_,h,_,_=>h
 |[],_::_,_,_,_,h,_,_=>h.elim
 |[],[],_::_,_,_,h,_,_=>h.elim
 |_::_,[],_,_,_,h,_,_=>h.elim
 |_::_,_::_,[],_,_,h,_,_=>h.elim
 |t::ts,v::vs,d::j,_,k,⟨p,q,⟨n,h1⟩,h2,rfl⟩,hs,hp=>by
  refine⟨p,q,⟨n,DataW.trod_stays (kids_rows hl hm) g (λh=>by cases h) (k t (by simp)) h1 (λx hx=>hs x (by simp[hx])) (λx hx=>hp x (by simp[hx]))⟩,?_,rfl⟩;exact Joe hl hm g (λx hx=>k x (by simp[hx])) h2 (λx hx=>hs x (by simp[hx])) (λx hx=>hp x (by simp[hx]))
def Jdq(P:Program):Bool:=(List.range P.types.size).all λt=>match P.underlying t with
 |some (.slice e)=>decide (0<P.cellsOf e)
 |_=>true
theorem JEX(h:Jdq P=true){t e:TypeId}(g:t<P.types.size)(he:P.underlying t=some (.slice e)):0<P.cellsOf e:=by unfold Jdq at h;rw[Juz]at h;have:=h t (by simpa using g);rw[he]at this;simpa using this
theorem JPc{fn:Func}{s:ChangeSpec}{tb:TypeId}(hl:laidOutB P=true)(hm:mapsRowed P=true)(D:Jdq P=true)(A: ∀t∈fn.params.toList,t<P.types.size)
  (r:fn.resultTypes= #[tb]) (z:P.underlying tb=some .bool) (e:s.vars=[]) {apart fresh j again:Bool} {W v:World} {args:Array Value} {n C:List (DataW H)} {o:List MemPlace}
  (E:C=[]->s.fn H (n++C)={results:=[.lit (.bool true)],args:=n})
  (B:DataW.Whole enc P fn.params.toList s.vars apart W args.toList n C o) (k:Jh1 W v):s.post enc P fn apart fresh j again W args (.bool true) v:=by
 have y:=B;have g:=B.lt;obtain⟨p,q,h1,h2,rfl,hz,hn⟩:=B;rw[e]at h2;obtain⟨rfl,rfl⟩:=trodVars_none h2;rw[J59]at y g hz hn;have hf:=E rfl;have h: ∀sp:Nat->Bool,(∀x∈p,sp x.block=true)->DataW.TrodAll enc P v 0 sp true fn.params.toList args.toList n p:=λsp hp=>
  Joe hl hm (λF he=>JEX D F he) A h1 (λx hx=>k.same (g x hx)) hp
 have hr: ∀(b:Nat) (sp:Nat->Bool) (hd:Bool),DataW.TrodAll enc P v b sp hd fn.resultTypes.toList ((Value.bool true).resultList fn.resultTypes.size) [.lit (.bool true)] []:=by intro b sp hd;rw[r];exact trodAll_cons_mk (shut_bool z _) trodAll_mk0
 refine⟨n,[],p,[],p,[],y,?_,?_,?_,k.kept _,λ_=>⟨?_,?_⟩⟩
 ·rw[hf];exact hr _ _ _
 ·rw[hf];exact h _ (λx hx=>by simpa using g x hx)
 ·rw[hf,e];rfl
 ·exact ok_one r rfl (okWide_bool_mk z _)
 ·refine⟨_,[],[]++p,⟨[]++p,[],trodAll_append (h _ (λ_ _=>rfl)) (hr _ _ _),by rw[e];rfl,by simp,λb off hp=>?_,λha=>by simpa using hn ha⟩,λx hx _=>by simpa using hx⟩;have w:MemPlace.cell b off∈p:=by simpa using hp
  rw[k.frozen (a:=⟨b,off,none⟩) (g _ w)];exact hz b off w
def JKD(P:Program)(t:TypeId)(pvs:List PV):AV:=match P.underlying t with
 |some (.struct _)=>.data pvs
 |some (.array _ _)=>.data pvs
 |_=>match pvs with
  |[c]=>.p c
  |_=>.unk
theorem JK0(hl:laidOutB P=true)(hm:mapsRowed P=true){n:Nat}{t:TypeId}{w:World}{r:Reach}{base:Nat}{sp:Nat->Bool}{v:Value}{d:DataW H}{ps:List MemPlace}(hp:JbR P n t=true)
  (hv:Value.okWide P w r base t v) (h:DataW.Trod enc P w 0 sp true t v d ps): ∃pvs,J5S P n t pvs/\JL ⟨[],gh0 w,w⟩ (JKD P t pvs) v:=by
 obtain⟨j,h⟩:=h;obtain⟨pvs,q1,q2,q3⟩:=JQx hl hm n t _ _ j hp h;refine⟨pvs,q1,?_⟩;cases n with
 |zero=>simp[JbR]at hp
 |succ n=>
  unfold JbR at hp;unfold Value.okWide at hv;unfold JKD;have one: ∀{c:PV},pvs=[c]->(∀cs,v≠.agg cs)->JL ⟨[],gh0 w,w⟩ (.p c) v:=by intro c hc o;subst hc;refine .p _ _ (q3 0 c v rfl ?_);cases v<;>first|rfl|exact absurd rfl (o _)
  unfold J5S at q1;split at hp
  ·rename_i g;rw[g]at q1 hv⊢;obtain⟨b,rfl⟩:=q1;exact one rfl (λcs he=>by subst he;simp[Cell.okWide,Cell.ok,g]at hv)
  ·rename_i k g;rw[g]at q1 hv⊢;obtain⟨z,rfl,_⟩:=q1;exact one rfl (λcs he=>by subst he;simp[Cell.okWide,Cell.ok,g]at hv)
  ·rename_i g;rw[g]at q1 hv⊢;obtain⟨z,rfl,_⟩:=q1;exact one rfl (λcs he=>by subst he;simp[Cell.okWide,Cell.ok,g]at hv)
  ·rename_i e g;rw[g]at q1 hv⊢;obtain⟨rows,rfl,_⟩:=q1;exact one rfl (λcs he=>by subst he;simp[Cell.okWide,Cell.ok,g]at hv)
  ·rename_i fs g;rw[g]at hv⊢;obtain⟨cs,rfl,_⟩:=hv;exact .data _ _ (by simpa[Value.cells]using q2) (λi x v h1 h2=>q3 i x v h1 (by simpa[Value.cells]using h2))
  ·rename_i m e g;rw[g]at hv⊢;obtain⟨cs,rfl,_⟩:=hv;exact .data _ _ (by simpa[Value.cells]using q2) (λi x v h1 h2=>q3 i x v h1 (by simpa[Value.cells]using h2))
  ·cases hp
end
end Go.Am
end
section
namespace Go.Am
section
variable (P:Program) {α β:Type}
def Rd(n:Nat)(t:TypeId)(r:α->List PV)(Q:α->Prop):Prop:= ∀pvs,J5S P n t pvs-> ∃x,pvs=r x/\Q x
def fieldsOf(t:TypeId):Option (List (TypeId×Nat)):=match P.underlying t with
 |some (.struct fs)=>some (fs.toList.map λf=>(f.type,f.offset))
 |_=>none
variable {P}
theorem JRy{n:Nat}{t:TypeId}{k:IntKind}(e:P.underlying t=some (.int k)):Rd P (n+1) t (r_i k) λz=>k.min<=z/\z<=k.max:=by intro pvs h;unfold J5S at h;rw[e]at h;obtain⟨z,rfl,hz⟩:=h;refine⟨z,rfl,?_⟩;simpa[Lit.wf,IntKind.has]using hz
theorem Rd.mono{n:Nat}{t:TypeId}{r:α->List PV}{Q g:α->Prop}(h:Rd P n t r Q)(hq: ∀x,Q x->g x):Rd P n t r g:=λpvs hp=>by obtain⟨x,e,q⟩:=h pvs hp;exact⟨x,e,hq x q⟩
theorem JRb{n:Nat}{t:TypeId}(e:P.underlying t=some .bool):Rd P (n+1) t r_b λ_=>True:=by intro pvs h;unfold J5S at h;rw[e]at h;obtain⟨z,rfl⟩:=h;exact⟨z,rfl,trivial⟩
theorem JS9{n:Nat}{t:TypeId}(e:P.underlying t=some .string):Rd P (n+1) t r_s λl=>l.length<=maxLen:=by intro pvs h;unfold J5S at h;rw[e]at h;obtain⟨z,rfl,hz⟩:=h;exact⟨z,rfl,hz⟩
theorem JPQ{n:Nat}{t e:TypeId}{r:α->List PV}{Q:α->Prop}{k:Nat}(o:P.underlying t=some (.slice e))(hk:P.cellsOf e=k)(he:Rd P n e r Q):
  Rd P (n+1) t (JU5 k r) λl=>l.length<=maxLen/\ ∀x∈l,Q x:=by
 intro pvs h;unfold J5S at h;rw[o]at h;obtain⟨rows,rfl,hl,hr⟩:=h;have g: ∀rows:List (List PV),(∀row∈rows,row.length=P.cellsOf e/\J5S P n e row)-> ∃l:List α,rows=l.map r/\ ∀x∈l,Q x:=by
  intro rows
  induction rows with
  |nil=>intro _;exact⟨[],rfl,by simp⟩
  |cons row rows ih=>
   intro j;obtain⟨l,rfl,hl⟩:=ih (λr hr=>j r (by simp[hr]));obtain⟨x,rfl,hx⟩:=he row (j row (by simp)).2;refine⟨x::l,rfl,λy hy=>?_⟩;rcases J3i.1 hy with rfl|hy
   ·exact hx
   ·exact hl y hy
 obtain⟨l,rfl,hq⟩:=g rows hr;exact⟨l,by rw[hk];rfl,by simpa using hl,hq⟩
theorem JOg{n m:Nat}{t e:TypeId}{r:α->List PV}{Q:α->Prop}{k:Nat}(o:P.underlying t=some (.array m e))(hk:P.cellsOf e=k)(hm:P.cellsOf t=m*k)(he:Rd P n e r Q):
  Rd P (n+1) t (Jbt (n:=m) r) λv=> ∀(i:Nat) (h:i<m),Q v[i]:=by
 intro pvs h;unfold J5S at h;rw[o]at h;obtain⟨hl,hr⟩:=h;rw[hm]at hl;have g: ∀(m:Nat) (pvs:List PV),pvs.length=m*k->(∀i,i<m->J5S P n e ((pvs.drop (i*k)).take k))-> ∃l:List α,l.length=m/\pvs=(l.map r).flatten/\ ∀(i:Nat) (h:i<l.length),Q l[i]:=by
  intro m
  induction m with
  |zero=>
   intro pvs h _;refine⟨[],rfl,?_,by simp⟩;rw[Juq]at h;simpa using h
  |succ m ih=>
   intro pvs h j;rw[zQ8]at h;obtain⟨l,h1,h2,h3⟩:=ih (pvs.drop k) (by rw[JfJ];omega) (λi hi=>by have:=j (i+1) (by omega);rw[JlY];rw[zQ8,Nat.add_comm]at this;exact this)
   obtain⟨x,e1,hx⟩:=he _ (j 0 (by omega));rw[Juq,Jpp]at e1;refine⟨x::l,by simp[h1],?_,λi hi=>?_⟩
   ·rw[J0I,J8S,<-e1,<-h2,Jz3]
   ·cases i with
    |zero=>exact hx
    |succ i=>exact h3 i (by simpa using hi)
 obtain⟨l,h1,h2,h3⟩:=g m pvs hl (λi hi=>by have:=hr i hi;rwa[hk]at this);refine⟨⟨l.toArray,by simpa using h1⟩,?_,λi hi=>?_⟩
 ·rw[h2];rfl
 ·have:=h3 i (by omega);simpa using this
theorem JNA{m n:Nat}{t:TypeId}{j:List (TypeId×Nat)}{pvs:List PV}(hm:m=n+1)(e:fieldsOf P t=some j)(h:J5S P m t pvs):
  pvs.length=P.cellsOf t/\ ∀x∈j,J5S P n x.1 ((pvs.drop x.2).take (P.cellsOf x.1)):=by
 subst hm;unfold J5S at h;unfold fieldsOf at e;split at e
 ·rename_i fs g;rw[g]at h;injection e with e;subst e;refine⟨h.1,λx hx=>?_⟩;obtain⟨f,hf,rfl⟩:=J4J.1 hx;exact h.2 f hf
 ·cases e
end
end Go.Am
end
section
namespace Go.Am
section
variable (P:Program)
def Jfv(p:Ty->TypeId->Bool):Nat->List (TypeId×Nat)->Ty->Bool
 |_,[],.u=>true
 |_,[],_=>false
 |o,[f],a=>decide (f.2=o)&&p a f.1&&decide (P.cellsOf f.1=a.sz)
 |o,f::g::r,.pr a c=>decide (f.2=o)&&p a f.1&&decide (P.cellsOf f.1=a.sz)&&Jfv p (o+a.sz) (g::r) c
 |_,_::_::_,_=>false
def JuF:Nat->Ty->TypeId->Bool
 |0,_,_=>false
 |n+1,ty,t=>match fieldsOf P t with
  |some fs=>Jfv P (JuF n) 0 fs ty&&decide (P.cellsOf t=ty.sz)
  |none=>match P.underlying t,ty with
   |some .bool,.b=>true
   |some (.int k),.i g=>decide (k=g)
   |some .string,.s=>true
   |some (.slice e),.l a=>JuF n a e&&decide (P.cellsOf e=a.sz)
   |some (.array m e),.ar h a=>decide (m=h)&&JuF n a e&&decide (P.cellsOf e=a.sz)&&decide (P.cellsOf t=m*a.sz)
   |_,_=>false
def Ty.inR:(t:Ty)->t.D->Prop
 | .b,_=>True
 | .i k,z=>k.min<=z/\z<=k.max
 | .s,z=>List.length z<=maxLen
 | .l t,z=>List.length z<=maxLen/\ ∀x∈(z:List t.D),t.inR x
 | .pr a c,x=>a.inR x.1/\c.inR x.2
 | .ar n t,v=> ∀(i:Nat) (h:i<n),t.inR ((v:Vector t.D n)[i])
 | .u,_=>True
 | .f,_=>True
end
section
variable {P:Program}
theorem JK8{n:Nat}(ih: ∀ty t,JuF P n ty t=true->Rd P n t (cel ty) ty.inR): ∀(o:Nat) (fs:List (TypeId×Nat)) (ty:Ty) (pvs:List PV),Jfv P (JuF P n) o fs ty=true->
  (∀x∈fs,J5S P n x.1 ((pvs.drop x.2).take (P.cellsOf x.1)))-> ∃x:ty.D,(pvs.drop o).take ty.sz=cel ty x/\ty.inR x
 |o,[],ty,pvs,h,_=>by
  cases ty with
  |u=>exact⟨(),by simp[Ty.sz,cel],trivial⟩
  |_=>simp[Jfv]at h
 |o,[f],ty,pvs,h,hf=>by
  simp only[Jfv,J02,decide_eq_true_eq]at h;obtain⟨⟨h1,h2⟩,h3⟩:=h;have:=hf f (by simp);rw[h1,h3]at this;obtain⟨x,e,q⟩:=ih ty f.1 h2 _ this;exact⟨x,e,q⟩
 |o,f::g::r,ty,pvs,h,hf=>by
  cases ty with
  |pr a c=>
   simp only[Jfv,J02,decide_eq_true_eq]at h;obtain⟨⟨⟨h1,h2⟩,h3⟩,h4⟩:=h;have:=hf f (by simp);rw[h1,h3]at this;obtain⟨x,e,q⟩:=ih a f.1 h2 _ this;obtain⟨y,e',q'⟩:=JK8 ih (o+a.sz) (g::r) c pvs h4 (λz hz=>hf z (by simp[J3i.1 hz]));refine⟨(x,y),?_,q,q'⟩;simp only[cel,Ty.sz];rw[<-e,<-e',<-JlY,List.take_add]
  |_=>simp[Jfv]at h
theorem rdT: ∀(n:Nat) (ty:Ty) (t:TypeId),JuF P n ty t=true->Rd P n t (cel ty) ty.inR
 |0,_,_,h=>by cases h
 |n+1,ty,t,h=>by
  unfold JuF at h;split at h
  ·rename_i fs j;simp only[J02,decide_eq_true_eq]at h;intro pvs hp;obtain⟨hl,hf⟩:=JNA rfl j hp;obtain⟨x,e,q⟩:=JK8 (rdT n) 0 fs ty pvs h.1 hf;rw[Jpp,<-h.2,<-hl,List.take_length]at e;exact⟨x,e,q⟩
  ·split at h
   ·rename_i g;exact JRb g
   ·rename_i k o g;simp only[decide_eq_true_eq]at h;subst h;exact JRy g
   ·rename_i g;exact JS9 g
   ·rename_i e a g;simp only[J02,decide_eq_true_eq]at h;exact JPQ g h.2 (rdT n a e h.1)
   ·rename_i m e r a g;simp only[J02,decide_eq_true_eq]at h;obtain⟨⟨⟨h1,h2⟩,h3⟩,h4⟩:=h;subst h1;exact JOg g h3 h4 (rdT n a e h2)
   ·cases h
def JN7(P:Program)(t:TypeId):Bool:=match P.underlying t with
 |some (.struct _)=>true
 |some (.array _ _)=>true
 |_=>false
def JOr(agg:Bool)(t:Ty)(x:t.D):TA:=if agg=true then .dt t x else .c (.d t x)
theorem JMN(L:Nat->Nat){t:TypeId}{ty:Ty}{agg:Bool}(ha:JN7 P t=agg)(h1:agg=false->ty.sz=1)(x:ty.D):JKD P t (cel ty x)=J1h L (JOr agg ty x):=by
 unfold JKD JN7 at*;generalize P.underlying t=u at ha⊢;rcases u with _|d
 ·subst ha;dsimp only;rw[JF6 (h1 rfl) x];rfl
 ·cases d<;>first
   |(subst ha;rfl)
   |(subst ha;dsimp only;rw[JF6 (h1 rfl) x];rfl)
theorem JSh{F:Orc}{f:FuncId}{g:Sig}{S:(tyL g.ti).D->Option (tyL g.to).D}{xs:List TA}{x:(tyL g.ti).D}{y:(tyL g.to).D}(he:EOk F (sigE f g S))(hx:Jy2 g xs []=some x)(e:S x=some y)
  (hv:JDB g y=some (.a (.c (.d .b true)),[])):F f (xs.map (J1h (lns []))) []=some (.p (.b true),[]):=by
 have h:(sigE f g S).go xs [] (λv out=>some (v,out))=some (TV.a (.c (.d .b true)),([]:List (Bool×TB))):=by simp only[sigE,hx,e,JJ,hv];cases g.same<;>rfl
 obtain⟨v,out,h1,_,h3⟩:=he.ok h;injection h3 with h3;injection h3 with h4 h5;subst h4 h5;exact h1
end
end Go.Am
end
section
namespace Go.Am
set_option linter.unusedVariables false
set_option maxRecDepth 20000
set_option maxHeartbeats 4000000
section
variable {B S:Int}
theorem JSb{α:Type}{l:List α}{i:Int}(e:0<=i)(h1:i<J0 l): ∃a,idx l i=some a/\l[i.toNat]?=some a:=by
 have h:i.toNat<l.length:=by unfold J0 at h1;omega
 exact⟨l[i.toNat],by unfold idx;rw[if_pos e,JK h],JK h⟩
theorem J5s{α:Type}{o:Option α}{v:α}(h:o=some v):Tot o λy=>y=v:=⟨v,h,rfl⟩
abbrev J5T:T_api_Row:=(0,0,0)
abbrev kZ:J6:=(2,1,(1,[],0),(1,[],0),([],[]),[],[J5T,J5T],[])
abbrev pgZ(n:Int):Jy:=(n,0,Vector.replicate 16 (false,[]))
def blZ:List UInt8:=List.replicate 256 0
theorem JT5:J87 (2,1)=some (kZ,0):=by kernel_rfl
theorem JR1:J62 ()=some blZ:=by kernel_rfl
theorem JQH:J2S (blZ,1)=some (pgZ 1,0):=by kernel_rfl
theorem JQW:J1a [J5T,J5T]=some (-1):=by
 have e:J13 ([J5T,J5T],2,0)=some (.inl ([J5T,J5T],2,1)):=by kernel_rfl
 have h1:J13 ([J5T,J5T],2,1)=some (.inl ([J5T,J5T],2,2)):=by kernel_rfl
 show Jc J13 ([J5T,J5T],2,0)=_;rw[Jf4 e,Jf4 h1];exact J2z (by kernel_rfl)
theorem JNc:J3P [J5T,J5T]=some true:=by
 have h:J0m [J5T,J5T]=some false:=by unfold J0m;rw[JQW];rfl
 show(J0m [J5T,J5T]).bind (λe=>some (Jr e))=_;rw[h];rfl
theorem JNI:J76 (1,[],0)=some true:=by show Jc Jd8 ([],0,0,(1,[],0))=_;exact J2z (by kernel_rfl)
theorem JRm:J6i (1,[],0)=some true:=by show Jc J9M ([],0,0,(1,[],0))=_;exact J2z (by kernel_rfl)
theorem JRk:J80 ([],[])=some true:=by show Jc Jck ([],0,0,([],[]))=_;refine J2z ?_;show Option.map Sum.inr (Jc J8n ([],0,0,([],[])))=_;rw[J2z (f:=J8n) (r:=true) (by kernel_rfl)];rfl
theorem JTF:J3K []=some true:=by show Jc J6C ([],[],0,0)=_;exact J2z (by kernel_rfl)
theorem JTp:J17 ([],kZ)=some (false,kZ):=by show(Jc J1B ([],0,0,kZ)).bind (λe=>some (geI e.1 0,e.2))=_;rw[J2z (f:=J1B) (r:=(-1,kZ)) (by kernel_rfl)];rfl
theorem JTc:J0p ([],kZ)=some (false,kZ):=by unfold J0p;have h:J0B ([],kZ)=some (-1,kZ):=J2z (by kernel_rfl);show(J0B ([],kZ)).bind _=_;rw[h];rfl
theorem JPS:J0d ([],kZ)=some (false,kZ):=by unfold J0d;have h:J0C ([],kZ)=some (-1,kZ):=J2z (by kernel_rfl);show(J0C ([],kZ)).bind _=_;rw[h];rfl
theorem JSQ:J5x kZ=some true:=by show Jc J96 ([],0,0,kZ)=_;exact J2z (by kernel_rfl)
theorem JN6:J3o kZ=some true:=by
 have k:Tot (J3o kZ) λy=>y=true:=by
  unfold J3o;dsimp only;refine .bind (J5s (v:=true) (by kernel_rfl)) λN o=>.nof (λ_=>.bind (J5s (v:=true) (by kernel_rfl)) λH q=>.nof (λ_=>.ne (λc=>absurd rfl c) λ_=>.bind (J5s JRm) λM B=>.nof (λ_=>.bind (J5s JNI) λJ x=>.nof (λ_=>.bind (J5s JRk) λK w=>.nof (λ_=>.bind (J5s JTF) λG r=>.nof (λ_=>.bind (J5s JNc) λI A=>.not (λc=>by rw[A]at c;cases c) λ_=>.bind (J5s JTp) λL z=>?_) λc=>by rw[r]at c;cases c) λc=>by rw[w]at c;cases c) λc=>by rw[x]at c;cases c) λc=>by rw[B]at c;cases c) λc=>by rw[q]at c;cases c) λc=>by rw[o]at c;cases c
  subst z;refine .not (λ_=>.bind (J5s JTc) λC n=>?_) λc=>by cases c
  subst n;refine .not (λ_=>.bind (J5s JPS) λF j=>?_) λc=>by cases c
  subst j;refine .not (λ_=>.bind (J5s JPS) λE h=>?_) λc=>by cases c
  subst h;exact .not (λ_=>.bind (J5s JSQ) λD g=>.some g) λc=>by cases c
 obtain⟨y,e,d⟩:=k;rw[e,d]
theorem JTL:J9C ((1,[],0),1)=some (pgZ 0,false):=by
 have h:J5e ((1,[],0),1)=some (-1):=by unfold J5e J8b;dsimp only;rw[JNI,show J0W ([],1)=some (-1,1)from J2z (by kernel_rfl)];rfl
 unfold J9C;dsimp only;rw[h];rfl
theorem JOe:J4x (kZ,1)=some 0:=by
 have h:J6a (kZ,1)=some (-1):=by unfold J6a;dsimp only;rw[show J0V ([],1)=some (-1,1)from J2z (by kernel_rfl)];rfl
 unfold J4x;dsimp only;rw[JTL,JJ,if_neg (by decide),h];rfl
theorem JRz:J2E (kZ,1,blZ,0)=some (pgZ 1,0):=by
 have e:J5X (kZ,1)=some 0:=by unfold J5X;dsimp only;rw[JN6,JOe];rfl
 have hj:J1W ([J5T,J5T],1,0,blZ)=some (pgZ 1,0):=by unfold J1W;dsimp only;rw[JNc,JQH];rfl
 unfold J2E;dsimp only;rw[JN6,e,JJ,JJ,hj];rfl
theorem JQD:JaP ()=some true:=by unfold JaP;rw[JT5,JR1,JJ,JJ];dsimp only;rw[JRz,show JaL 8=some 3 by simp[JaL,JDc]];rfl
theorem Jw7{x:J2A}{y:J5d}(e:J2S x=some y)(c:y.2=0):y.1.1=x.2:=by
 have g:Par (J2S x) λy=>y.2=0->y.1.1=x.2:=by unfold J2S;refine .bind λ_ _=>.not (λ_=>.some nofun) λ_=>.bind λh h3=>.eq (λ_=>.bind λj h4=>.some λ_=>?_) λ_=>.ne (λc=>.some λd=>absurd d c) λ_=>.ne (λ_=>.some nofun) λc=>.some λ_=>c;unfold Jbw at h4;injection h4 with h4;subst h4;rfl
 exact g _ e c
theorem JRd{x:JHv}{y:J5d}(e:J1W x=some y)(c:y.2=0):y.1.1=x.2.1/\ ∃r,idx x.1 x.2.1=some r/\r.1<=y.1.2.1:=by
 have g:Par (J1W x) λy=>y.2=0->y.1.1=x.2.1/\ ∃r,idx x.1 x.2.1=some r/\r.1<=y.1.2.1:=by unfold J1W;exact .bind λ_ _=>.not (λ_=>.some nofun) λ_=>.bind λ_ _=>.nof (λ_=>.lt (λ_=>.some nofun) λ_=>.bind λk h4=>.bind λj h5=>.ne (λc=>.some λd=>absurd d c) λh=>.gt (λ_=>.gt (λ_=>.some nofun) λ_=>.lt (λ_=>.some nofun) λc=>.some λ_=>⟨Jw7 h4 h,j,h5,Int.not_lt.1 c⟩) λ_=>.lt (λ_=>.some nofun) λc=>.some λ_=>⟨Jw7 h4 h,j,h5,Int.not_lt.1 c⟩) λ_=>.some nofun
 exact g _ e c
theorem JS0{x:JPG}{y:J5d}(e:J2E x=some y)(c:y.2=0):(y.1.1=x.2.1/\ ∃r,idx x.1.2.2.2.2.2.2.1 x.2.1=some r/\r.1<=y.1.2.1)/\y.1.2.1<=x.1.2.2.1.2.2:=by
 have g:Par (J2E x) λy=>y.2=0->(y.1.1=x.2.1/\ ∃r,idx x.1.2.2.2.2.2.2.1 x.2.1=some r/\r.1<=y.1.2.1)/\y.1.2.1<=x.1.2.2.1.2.2:=by unfold J2E;exact .bind λ_ _=>.not (λ_=>.some nofun) λ_=>.ltf (λ_=>.ge (λ_=>.some nofun) λ_=>.ne (λc=>.some λd=>absurd d c) λ_=>.bind λ_ _=>.bind λj h4=>.ne (λc=>.some λd=>absurd d c) λh=>.gt (λ_=>.some nofun) λc=>.some λ_=>⟨JRd h4 h,Int.not_lt.1 c⟩) λ_=>.some nofun
 exact g _ e c
end
section
variable {B S:Int}
theorem JQ8{l:List Int}{y:JB}(e:J7B (l,400)=some y):y.2=0/\J0 y.1<=400:=by
 have g:Par (J7B (l,400)) λy=>y.2=0/\J0 y.1<=400:=by
  unfold J7B;dsimp only;refine .gt (λc=>.bind λa ha=>.some ⟨rfl,?_⟩) λc=>.some ⟨rfl,by show J0 l<=400;omega⟩;obtain⟨r,hr,_,h2⟩:=JLn (l:=l) (k:=400) (by decide) (by omega);rw[hr]at ha;injection ha with ha;subst ha
  show J0 r<=400;omega
 exact g _ e
theorem JlT{h:List Int}{x1:List UInt8}(w0:Ty.inR (.l (.i .u8)) h)(w1:Ty.inR .s x1):J55 (h,x1)=some true:=by
 have L:Tot (J55 (h,x1)) λy=>y=true:=by
  have R:Ty.fit (J0 h) 0 (.l (.i .u8)) h:=⟨J0U _,λa ha=>by have:=w0.2 a ha;rw[JGh];simpa[Ty.inR,IntKind.min,IntKind.max,IntKind.signed,IntKind.bits]using this⟩
  have Z:0<=J0 h:=J4;unfold J55;dsimp only;refine .bind (J5s JQD) λy2 Q=>.nof (λ_=>.gt (λc=>.some (J9b.2 c)) λcs=>?_) λc=>by rw[Q]at c;cases c
  refine .bind ((JKx (B:=J0 h) (S:=0) (x1:=(h,400)) ⟨R,JaN .i64 400⟩ (by show(0:Int)<=400;decide)).eqn) λx h3=>?_;obtain⟨n1,n2⟩:=JQ8 h3.2;have V:Ty.fit 16384 1073741824 J8 x:=⟨⟨by show J0 x.1<=16384;omega,λa ha=>h3.1.1.1.2 a ha⟩,h3.1.1.2⟩;refine .bind (Jm4 (B:=16384) (S:=1073741824) (x1:=(25,true,x)) ⟨JaN .i64 25,trivial,V⟩ (by show 0<=x.2;omega) (show(0:Int)<=25 by decide) (show(25:Int)<=1000 by decide)) λA h4=>.bind (Jo (B:=16384) (S:=1073741824) (x1:=(A.1.1.1,A.2)) ⟨h4.1.1.1.1,h4.1.2⟩ h4.2) λK h5=>.bind (JsE (B:=16384) (S:=1073741824) (x1:=(K.1,K.2)) ⟨h5.1.1,h5.1.2⟩ h5.2.2.2) λU C=>.bind (J9B C.1.1) λj T=>?_;have hk:=h4.1.1.1;have hd:=h4.1.1.2;have hp:=J1.1 hk.1;have l7:J0 j.1<=1000416:=T.1;obtain⟨⟨k,v⟩,c4⟩:=A;dsimp only at hk hd hp⊢;refine Ja (τ:=JcP) (λq=>(x1,j.1,q.1,q.2,k,v)) (λq=>0<=q.1/\Ty.fit 16384 1073741824 J8 q.2/\0<=q.2.2) (λq=>k.1-q.1) ?_ (0,U.2) rfl ⟨J0U _,C.1.2,C.2⟩;rintro⟨n,c⟩ ⟨g1,g2,P⟩;dsimp only at g1 g2 P;unfold Jag;dsimp only;refine .lt (λcn=>?_) λ_=>.some rfl;have fn:Ty.fit 16384 1073741824 (.i .i64) n:=J1.2 (by omega);refine .bind (Jq8 (B:=16384) (S:=1073741824) (x1:=(v,n)) ⟨hd,fn⟩) λw O=>.bind (JoO (B:=16384) (S:=256) (x1:=(w.1,c)) ⟨O.1,g2⟩ P) λg o=>?_;have l9:J0 w.1<=256:=O.1;have W:J0 g.1<=513:=o.1.1;have H: ∀a∈[w.1,j.1,x1,g.1],J0 a<=1073741824:=by intro a ha;simp only[J3i,List.not_mem_nil,or_false]at ha;rcases ha with rfl|rfl|rfl|rfl<;>omega
  have o1:=Jf n 1;have E:J0 [w.1,j.1,x1,g.1]=4:=rfl;rw[E];generalize [w.1,j.1,x1,g.1]=l at H E;refine Ja (τ:=Int) (λi=>(x1,j.1,n,l,4,i,g.2,k,v)) (λi=>0<=i/\i<=4) (λi=>4-i) ?_ 0 rfl ⟨by decide,by decide⟩;rintro i ⟨e1,e2⟩;unfold Jah;dsimp only;have o2:=Jf i 1;refine .lt (λci=>?_) λ_=>.some ⟨(J2 .i64 n 1,g.2),rfl,⟨by show 0<=J2 .i64 n 1;omega,o.1.2,o.2⟩,by show k.1-J2 .i64 n 1<k.1-n;omega,by show 0<=k.1-n;omega⟩;obtain⟨s,hs,F⟩:=JSb (l:=l) e1 (by omega);refine .bind (J5s hs) λz J=>?_;subst J;have fs:J0 z<=1073741824:=H _ (zQ9 F);have G: ∃c':Int,((x1,j.1,n,l,4,J2 .i64 i 1,g.2,k,v):JOp)=(x1,j.1,n,l,4,c',g.2,k,v)/\(0<=c'/\c'<=4)/\4-c'<4-i/\0<=4-i:=⟨J2 .i64 i 1,rfl,⟨by omega,by omega⟩,by omega,by omega⟩;refine .bind ((JBq (B:=16384) (S:=1073741824) (x1:=(k,n,z,0)) ⟨hk,fn,fs,JaN .i64 0⟩).eqn) λa0 D=>.eq (λN=>?_) λ_=>.some G;obtain⟨⟨q1,r,q2,q3⟩,M⟩:=JS0 D.2 N;dsimp only at q1 q2 M;refine .nef (λ_=>.bind (J5s q2) λY I=>?_) λc=>absurd q1 c;subst I;exact .ltf (λ_=>.gt (λc=>absurd M (Int.not_le.2 c)) λ_=>.some G) λc=>absurd q3 (Int.not_le.2 c)
 obtain⟨y,e,d⟩:=L;rw[e,d]
end
end Go.Am
end
section
namespace Go.Am
set_option maxRecDepth 20000
def lkA{α:Type}(f:FuncId):List (FuncId×α)->Option α
 |[]=>none
 |(g,a)::r=>if f=g then some a else lkA f r
noncomputable def JLK:List (FuncId×AFn):=[(123,erF JjI),(179,erF JdI),(178,erF Jjo),(130,erF JkJ),(171,erF Jq2),(170,erF JfW),(172,erF JfB),(173,erF JfQ),(124,erF Jn6),(63,erF Jnc),(181,erF JoL),(136,erF Ji2),(151,erF Jep),(153,erF Jel),(155,erF JeG),(146,erF JhL),(127,erF Jqt),(174,erF Jqq),(126,erF JnK),(198,erF Jqc),(246,erF Jjp),(210,erF J2v),(199,erF JtB),(147,erF Jqw)]
noncomputable def JLP:List (FuncId×AFn):=[(212,erF JsV),(157,erF JfD),(204,erF Jg8),(202,erF JgF),(163,erF Jht),(100,erF Jer),(125,erF Jri),(201,erF JnN),(289,erF J28),(247,erF Jqd),(203,erF JqS),(200,erF JnQ),(211,erF J2u),(156,erF J29),(148,erF JoG),(208,erF JbQ),(207,erF Jcl),(249,erF J4U),(206,erF J4k),(150,erF Jez),(154,erF J3w),(209,erF J5t),(152,erF J4u),(248,erF J8U)]
noncomputable def JKC:List (FuncId×AFn):=[(205,erF Jch),(149,erF Jcp),(93,erF JjM),(254,erF Jgi),(253,erF J44),(216,erF Jo1),(215,erF Jwe),(160,erF JhV),(95,erF JnO),(168,erF JdW),(109,erF Jtd),(250,erF JpB),(128,erF JcC),(74,erF Jnp),(113,erF Jtk),(251,erF Jmu),(252,erF Jtw),(213,erF Joi),(214,erF Jw1),(159,erF Jh4),(158,erF JeE),(94,erF JeL),(38,erF Jnl),(23,erF J9Y)]
noncomputable def JLN:List (FuncId×AFn):=[(71,erF Jej),(68,erF Jev),(22,erF Jes),(44,erF Jgv),(196,erF JcD),(144,erF JeI),(87,erF Jb4),(186,erF Jj7),(142,erF JsT),(141,erF Jt7),(139,erF JtA),(140,erF Jtl),(82,erF Jto),(85,erF JtG),(132,erF Jjr),(180,erF Jet),(135,erF Joo),(131,erF Jos),(76,erF JnH),(105,erF Jqj),(69,erF Jn5),(42,erF Jnb),(43,erF Jpr),(195,erF Jjq)]
noncomputable def JLM:List (FuncId×AFn):=[(330,erF JmG),(292,erF JnC),(293,erF Jpi),(262,erF Jn4),(279,erF JoK),(341,erF JfI),(353,erF JoI),(354,erF Jq1),(355,erF Jqb),(318,erF Jo9),(134,erF JmR),(133,erF JhO),(300,erF Jnm),(268,erF JoD),(356,erF Jtz),(319,erF Jn0),(320,erF JdF),(278,erF Jnj),(242,erF Jo8),(234,erF Jo5),(187,erF JmN),(70,erF JhU),(310,erF JjS),(232,erF JtI)]
noncomputable def JLl:List (FuncId×AFn):=[(349,erF Jt2),(312,erF JqU),(309,erF JpC),(346,erF JiZ),(347,erF Jtr),(348,erF Jja),(311,erF Jpx),(269,erF JpG),(237,erF JpX),(266,erF Jt9),(281,erF Jrn),(274,erF Jtb),(88,erF Jtt),(308,erF Jkc),(345,erF Jhg),(307,erF Jka),(306,erF JmI),(273,erF Jjw),(305,erF JmK),(272,erF JwZ),(239,erF Jpa),(191,erF JdK),(267,erF JmC),(236,erF Jng)]
noncomputable def JMl:List (FuncId×AFn):=[(90,erF Jtf),(77,erF JmT),(89,erF Joz),(36,erF Jkv),(301,erF Jqv),(343,erF Jii),(302,erF Jnk),(197,erF Jmy),(145,erF Jnx),(91,erF Jjz),(303,erF JpR),(270,erF Jop),(344,erF JtE),(304,erF JnY),(271,erF Ji1),(238,erF Jof),(190,erF Jo2),(325,erF JrA),(361,erF JrG),(362,erF Jq7),(324,erF JiV),(286,erF Ji8),(285,erF Jhm),(287,erF JqZ)]
noncomputable def JLv:List (FuncId×AFn):=[(78,erF Joq),(326,erF Jho),(329,erF JrB),(363,erF Jli),(327,erF Jt8),(364,erF JwA),(328,erF JiU),(288,erF Jrq),(245,erF JpU),(284,erF Jkp),(244,erF Jrl),(92,erF JtH),(37,erF JqM),(119,erF JsX),(83,erF Jna),(359,erF Jkd),(360,erF Jtj),(322,erF JfO),(282,erF Jod),(323,erF Jte),(283,erF Jkk),(28,erF JnI),(233,erF Jne),(185,erF Jq5)]
noncomputable def JLb:List (FuncId×AFn):=[(138,erF Jor),(81,erF Jrc),(31,erF JpN),(358,erF Jpc),(357,erF Jk7),(321,erF Jqi),(280,erF Jra),(243,erF Jmp),(194,erF JqC),(192,erF Jj0),(297,erF JgV),(342,erF Jqe),(298,erF Jtn),(264,erF Jh3),(369,erF Jmz),(337,erF Jhh),(371,erF JhZ),(372,erF JcR),(339,erF JmX),(368,erF JkG),(335,erF JpS),(334,erF Jpb),(373,erF Jnq),(340,erF Jt4)]
noncomputable def JMt:List (FuncId×AFn):=[(370,erF JtJ),(338,erF JjN),(332,erF Jjl),(366,erF Jln),(367,erF Jia),(333,erF JnF),(336,erF JrI),(365,erF JjO),(331,erF JhB),(294,erF JvM),(295,erF Jik),(296,erF Jg9),(263,erF Jx9),(299,erF Jq4),(265,erF Jrr),(235,erF JvK),(189,erF Jcv),(275,erF JqW),(52,erF Jnu),(112,erF Jp4),(54,erF Jjh),(314,erF JoH),(313,erF Jqo),(276,erF JmM)]
noncomputable def JGm:List (FuncId×AFn):=[(240,erF Jnn),(58,erF Jip),(122,erF JbY),(120,erF Jbh),(121,erF Jcz),(60,erF Jlo),(315,erF JpI),(378,erF Jpw),(376,erF JpL),(352,erF Jo3),(380,erF JjA),(381,erF Jb7),(382,erF JcI),(379,erF JjB),(377,erF Jle),(374,erF Jlg),(350,erF JmF),(375,erF Joy),(351,erF JrD),(316,erF JhE),(317,erF JmO),(277,erF Jpe),(241,erF Jr2),(193,erF Ja6)]
noncomputable def JFo:List (FuncId×AFn):=[(188,erF Jb8),(143,erF Jb5),(86,erF Jtv),(35,erF Jcq),(14,erF JcA),(9,erF JvO),(34,erF JmL),(6,erF JbH)]
noncomputable def fns:List (FuncId×AFn):=JLK++(JLP++(JKC++(JLN++(JLM++(JLl++(JMl++(JLv++(JLb++(JMt++(JGm++(JFo)))))))))))
noncomputable def fks:List (FuncId×Jgg):=[]
noncomputable def fps:List (FuncId×Prm):=[(129,JLk),(108,JKV),(84,JDD)]
abbrev PS:=FuncId->Option (List AV->List Blk->Option Res)
noncomputable def JOc(p:PS):J4d:=λf=>JRV (lkA f fns) (lkA f fks) (lkA f fps) (p f)
def AE(l:List TE):Prop:= ∀p,Jxr (AF (JOc p)) l
theorem ae0:AE []:=λ_=>trivial
theorem stp{i g S l}(f:TFn)(A:AE l)(q: ∀x,onO (Jgf g x) (λy=>JuY (TG.of l) f y.1 y.2 (Jdt g))=S x)(hf: ∀p,JOc p i=some (.fn (erF f)):=by intro p;rfl)(hs:Jpq g=true:=by rfl):AE (sigE i g S::l):=λp=>⟨JPW (hf p) (A p) hs q,A p⟩
end Go.Am
end
