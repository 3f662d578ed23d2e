/-
  Parts of a proof.
-/
import Derived.ChangeArms
import Derived.OpenShut
import Derived.ChangeBears
import Derived.ChangeStays
import Derived.Handed
import Derived.RowKit3
import Derived.WalkKit
import Derived.ProofKit
import Derived.Test.YthnapahopkopbaaGreatM2
import Derived.Test.YthnapahopkopbaaGreatM3
import Derived.Test.YthnapahopkopbaaGreatM4
import Derived.Test.YthnapahopkopbaaGreatM5
set_option linter.unusedSimpArgs false
set_option linter.unusedVariables false
section
namespace Go.Am
set_option linter.unusedVariables false
set_option maxRecDepth 20000
set_option maxHeartbeats 4000000
section
variable {B S:Int}
theorem J68{e:Int}{y:J0H}(h:Jv e=some y):y.1=5:=by unfold Jv at h;injection h with h;subst h;rfl
theorem Jvv{x:Je2}{y:J67}(e:J3y x=some y)(c:y.2.1=3): ¬InP x.1.2.2.2.1 x.2.2.2.1/\y.1=x.1/\y.2.2.2.1=x.2.2.2.1:=by
 have g:Par (J3y x) λy=>y.2.1=3-> ¬InP x.1.2.2.2.1 x.2.2.2.1/\y.1=x.1/\y.2.2.2.1=x.2.2.2.1:=by
  unfold J3y;refine .bind λn h2=>.not (λc=>.some λ_=>⟨λh=>(by rw[(Jgi h2).2 h]at c;cases c),rfl,rfl⟩) λ_=>.eq (λ_=>.bind λ_ _=>.bind λ_ _=>.bind λ_ _=>.some nofun) λ_=>.bind λ_ _=>.bind λ_ _=>.eq (λ_=>?_) λ_=>?_
  all_goals
   refine .bind λo _=>.ne (λ_=>.bind λk j=>.some λc=>?_) λ_=>.some nofun;have:=J68 j;dsimp only at c;omega
 exact g _ e c
theorem JuX{x:J1F}{y:J67}(e:J3C x=some y): ¬y.2.1=3:=by
 have g:Par (J3C x) λy=> ¬y.2.1=3:=by unfold J3C;refine .bind λ_ _=>.bind λ_ _=>.eq (λ_=>.bind λ_ _=>.bind λ_ _=>.some nofun) λ_=>.bind λ_ _=>.ne (λ_=>.bind λj h=>.some λc=>?_) λ_=>.bind λ_ _=>.bind λ_ _=>.some nofun;have:=J68 h;dsimp only at c;omega
 exact g _ e
theorem JjU{x:Jdc}{y:J67}(e:J3o x=some y):y.2.1=x.2.2\/y.2.1=5:=by
 have g:Par (J3o x) λy=>y.2.1=x.2.2\/y.2.1=5:=by unfold J3o;refine .bind λ_ _=>.bind λ_ _=>.bind λ_ _=>.eq (λ_=>.bind λ_ _=>.bind λ_ _=>.some (.inl rfl)) λ_=>.bind λj _=>.ne (λ_=>.bind λq h=>.some (.inr (J68 h))) λ_=>.while (λz=>z.2.1=x.2.2) rfl ?_;rintro⟨a,st,hl,i,k,n,o,out⟩ hz;dsimp only at hz;unfold Jal;dsimp only;exact .lt (λ_=>.bind λ_ _=>.eq (λ_=>.bind λ_ _=>.bind λ_ _=>.not (λ_=>.bind λ_ _=>.bind λ_ _=>.some hz) λ_=>.some hz) λ_=>.some hz) λ_=>.some (.inl hz)
 exact g _ e
theorem JHc{x:Je2}{y:J67}(e:J65 x=some y)(c:y.2.1=3):JJ x.1=some true/\ ¬InP x.1.2.2.2.1 x.2.2.2.1/\y.1.2.2.2.1=x.1.2.2.2.1/\y.2.2.2.1=x.2.2.2.1:=by
 have o:Par (J65 x) λy=>y.2.1=3->JJ x.1=some true/\ ¬InP x.1.2.2.2.1 x.2.2.2.1/\y.1.2.2.2.1=x.1.2.2.2.1/\y.2.2.2.1=x.2.2.2.1:=by
  unfold J65;have g: ∀{e:Int} {k:J9} {r:J0H} {Q:Prop},Jv e=some r->(k,r).2.1=3->Q:=fun{e k r Q} h c=>by have:=J68 h;dsimp only at c;omega
  refine .bind λE h2=>.ne (λ_=>.bind λ_ h3=>.some (g h3)) λq=>.eq (λ_=>.bind λD h4=>.some λc=>absurd c (JuX h4)) λ_=>.eq (λ_=>.bind λC h5=>.some λc=>?_) λ_=>.eq (λ_=>?_) λ_=>.eq (λ_=>?_) λ_=>.bind λB _=>.bind λv _=>.ne (λ_=>.bind λ_ h=>.some (g h)) λ_=>.ite (λ_=>.bind λw n=>.eq (λd=>.some λc=>?_) λ_=>.some λc=>?_) λ_=>.bind λz _=>.gt (λ_=>.bind λA j=>.eq (λd=>.some λc=>?_) λ_=>.some λc=>?_) λ_=>.bind λ_ _=>.some nofun
  ·have:=JjU h5;dsimp only at c this;omega
  ·exact .bind λ_ _=>.eq (λ_=>.bind λ_ _=>.ne (λ_=>.bind λ_ h=>.some (g h)) λ_=>.some nofun) λ_=>.ne (λ_=>.bind λ_ h=>.some (g h)) λ_=>.some nofun
  ·exact .bind λ_ _=>.eq (λ_=>.bind λ_ _=>.ne (λ_=>.bind λ_ h=>.some (g h)) λ_=>.some nofun) λ_=>.ne (λ_=>.bind λ_ h=>.some (g h)) λ_=>.some nofun
  ·dsimp only at c;omega
  ·subst q;obtain⟨a1,a2,a3⟩:=Jvv n c;exact⟨(J9L h2).1,a1,by rw[a2],a3⟩
  ·dsimp only at c;omega
  ·have:=JjU j;dsimp only at c this;omega
 exact o _ e c
end
section
variable {B S:Int}
def Jcn(k y:J9):Prop:=JJ k=some true/\JJ y=some true/\y.2.2.2.2.2.1=k.2.2.2.2.2.1/\y.2.2.1.1=k.2.2.1.1/\y.2.2.1.2.1=k.2.2.1.2.1
theorem JCR{k y:J9}(h:Jcn k y)(n:Int):J0I (y.2.2.1,n)=J0I (k.2.2.1,n):=by obtain⟨h1,h2,h3,h4,h5⟩:=h;have v1:=(J43 h1).1;have v2:=(J43 h2).1;unfold J0I J29;dsimp only;rw[v1,v2,h4,h5]
theorem Jov{k y:J9}(h:Jcn k y)(e:Int):J16 (y,e)=J16 (k,e):=by obtain⟨h1,h2,h3,h4,h5⟩:=h;unfold J16;dsimp only;rw[h1,h2,h3]
theorem JHN{k y:J9}(h:Jcn k y)(e:Int):J3a (y,e)=J3a (k,e):=by unfold J3a;dsimp only;rw[Jov h e];simp only[JCR h]
theorem JLs{k y:J9}(h:Jcn k y)(x:Js)(c:JG)(n:Int):J64 (y,x,c,n)=J64 (k,x,c,n):=by
 unfold J64;dsimp only;refine JvQ (R:=λz g=>z.1=g.1/\z.2.1=y/\g.2.1=k/\z.2.2=g.2.2) ?_ ⟨rfl,rfl,rfl,rfl⟩;rintro⟨i,a,r⟩ ⟨D,w,r'⟩ ⟨e1,e2,B,C⟩;dsimp only at e1 e2 B C;subst e1;subst e2;subst B;subst C;unfold JcT;dsimp only;by_cases hi:geI i 0=true
 ·rw[if_pos hi,if_pos hi];cases idx r.1.2.2.2.2.1 i with
  |none=>exact .inl ⟨rfl,rfl⟩
  |some j=>
   rw[JK,JK,JCR h];cases J0I (w.2.2.1,j)with
   |none=>exact .inl ⟨rfl,rfl⟩
   |some e=>
    rw[JK,JK];have A:JHd (fun(z g:TQ36)=>z.1=g.1/\z.2.1=a/\g.2.1=w/\z.2.2=g.2.2) (some (.inl (JF .i64 i 1,a,r.1,r.2.1,r.2.2):(TQ36)⊕(JoF))) (some (.inl (JF .i64 i 1,w,r.1,r.2.1,r.2.2))):=.inr (.inr ⟨_,_,rfl,rfl,rfl,rfl,rfl,rfl⟩);by_cases o:eqI e.2 0=true
    ·rw[if_pos o,if_pos o];by_cases q:eqI e.1.2.2.2.2.2.2.1.1 r.2.1.1=true
     ·rw[if_pos q,if_pos q];by_cases v:eqI e.1.2.2.2.2.2.2.1.2.1 r.2.1.2=true
      ·rw[if_pos v,if_pos v];exact .inr (.inl ⟨_,rfl,rfl⟩)
      ·rw[if_neg v,if_neg v];exact A
     ·rw[if_neg q,if_neg q];exact A
    ·rw[if_neg o,if_neg o];exact A
 ·rw[if_neg hi,if_neg hi];exact .inr (.inl ⟨_,rfl,rfl⟩)
theorem JDF{k y:J9}(h:Jcn k y)(e:Int)(c:JG):J2w (y,e,c)=J2w (k,e,c):=by unfold J2w;dsimp only;rw[Jov h e];simp only[JLs h]
theorem J6O{k:J9}{h:Int}{y:Js×Int}(e:J16 (k,h)=some y)(c:y.2=0):JJ k=some true:=by
 have g:Par (J16 (k,h)) λy=>y.2=0->JJ k=some true:=by unfold J16;refine .bind λa ha=>.not (λ_=>.some nofun) λc=>?_;subst c;exact λ_ _ _=>ha
 exact g _ e c
theorem JoD{x:JG4}{y:J67}(e:J23 x=some y)(c:y.2.1=3): ¬InP x.1.2.2.2.1 x.2.2.2.2.2.2.2.2.1.1/\y.2.2.2.1=x.2.2.2.2.2.2.2.2.1.1:=by
 have j: ∀{e:Int} {k:J9} {r:J0H} {Q:Prop},Jv e=some r->(k,r).2.1=3->Q:=fun{e k r Q} h c=>by have:=J68 h;dsimp only at c;omega
 have g:Par (J23 x) λy=>y.2.1=3-> ¬InP x.1.2.2.2.1 x.2.2.2.2.2.2.2.2.1.1/\y.2.2.2.1=x.2.2.2.2.2.2.2.2.1.1:=by unfold J23;exact .bind λn h2=>.not (λc=>.some λ_=>⟨λh=>(by rw[(Jgi h2).2 h]at c;cases c),rfl⟩) λ_=>.bind λ_ _=>.bind λ_ _=>.ne (λ_=>.bind λ_ h=>.some (j h)) λ_=>.bind λ_ _=>.ne (λ_=>.bind λ_ h=>.some (j h)) λ_=>.eq (λ_=>.bind λ_ _=>.not (λ_=>.bind λ_ _=>.some nofun) λ_=>.some nofun) λ_=>.some nofun
 exact g _ e c
def Jsp(k:J9)(e p:Int):Prop:=JJ k=some true/\ ¬InP k.2.2.2.1 p/\ ∃y,J3a (k,e)=some y/\p=y.1.2.2.2.2.2.2.1.1
theorem JAK{k:J9}{g:Int}{y:J67}(e:J1a (k,g)=some y)(c:y.2.1=3):Jsp k g y.2.2.2.1:=by
 have j: ∀{e:Int} {k:J9} {r:J0H} {Q:Prop},Jv e=some r->(k,r).2.1=3->Q:=fun{e k r Q} h c=>by have:=J68 h;dsimp only at c;omega
 have n:Par (J1a (k,g)) λy=>y.2.1=3->Jsp k g y.2.2.2.1:=by
  unfold J1a;refine .bind λz h2=>.ne (λ_=>.bind λ_ h=>.some (j h)) λv=>.eq (λ_=>.eq (λ_=>.bind λ_ _=>.ne (λ_=>.bind λ_ h=>.some (j h)) λ_=>.bind λ_ _=>.some nofun) λ_=>?_) λ_=>?_
  all_goals
   refine .bind λo q=>.not (λ_=>.bind λ_ h=>.some (j h)) λ_=>.bind λx w=>.some λc=>?_;obtain⟨a1,a2⟩:=JoD w c;exact⟨J6O h2 v,a2▸a1,o,q,a2⟩
 exact n _ e c
def JrG(k:J9)(e:Int)(c:JG)(p:Int):Prop:=JJ k=some true/\ ¬InP k.2.2.2.1 p/\ ∃y,J2w (k,e,c)=some y/\p=y.1.2.2.2.2.2.2.1.1
theorem JCv{k:J9}{g:Int}{l:JG}{y:J67}(e:J2l (k,g,l)=some y)(c:y.2.1=3):JrG k g l y.2.2.2.1:=by
 have n: ∀{e:Int} {k:J9} {r:J0H} {Q:Prop},Jv e=some r->(k,r).2.1=3->Q:=fun{e k r Q} h c=>by have:=J68 h;dsimp only at c;omega
 have j:Par (J2l (k,g,l)) λy=>y.2.1=3->JrG k g l y.2.2.2.1:=by unfold J2l;refine .bind λx h2=>.ne (λ_=>.bind λ_ h=>.some (n h)) λq=>.ne (λ_=>.bind λ_ h=>.some (n h)) λ_=>.bind λo h5=>.not (λ_=>.some nofun) λ_=>.bind λw v=>.some λc=>?_;obtain⟨a1,a2⟩:=JoD v c;exact⟨J6O h2 q,a2▸a1,o,h5,a2⟩
 exact j _ e c
theorem JvT{e:Int}{y:J0H}(h:Jv e=some y):y.2.2.2.2=e:=by unfold Jv at h;injection h with h;subst h;rfl
theorem JFZ{x:JG4}{y:J67}(e:J23 x=some y)(c:y.2.1=5): ¬y.2.2.2.2.2=0:=by
 have j: ∀{e:Int} {k:J9} {r:J0H},¬e=0->Jv e=some r->(k,r).2.1=5-> ¬(k,r).2.2.2.2.2=0:=fun{e k r} n h _=>by have:=JvT h;dsimp only;omega
 have g:Par (J23 x) λy=>y.2.1=5-> ¬y.2.2.2.2.2=0:=by unfold J23;exact .bind λo h2=>.not (λc=>.some nofun) λ_=>.bind λ_ _=>.bind λ_ _=>.ne (λc=>.bind λ_ h=>.some (j c h)) λ_=>.bind λ_ _=>.ne (λc=>.bind λ_ h=>.some (j c h)) λ_=>.eq (λ_=>.bind λ_ _=>.not (λ_=>.bind λ_ _=>.some nofun) λ_=>.some nofun) λ_=>.some nofun
 exact g _ e c
theorem JHz{k:J9}{n:Int}{y:J67}(e:J1a (k,n)=some y)(c:y.2.1=5): ¬y.2.2.2.2.2=0:=by
 have g: ∀{e:Int} {k:J9} {r:J0H},¬e=0->Jv e=some r->(k,r).2.1=5-> ¬(k,r).2.2.2.2.2=0:=fun{e k r} z h _=>by have:=JvT h;dsimp only;omega
 have j:Par (J1a (k,n)) λy=>y.2.1=5-> ¬y.2.2.2.2.2=0:=by
  unfold J1a;refine .bind λA h2=>.ne (λc=>.bind λ_ h=>.some (g c h)) λq=>.eq (λ_=>.eq (λ_=>.bind λ_ _=>.ne (λc=>.bind λ_ h=>.some (g c h)) λ_=>.bind λ_ _=>.some nofun) λ_=>?_) λ_=>?_
  all_goals
   exact .bind λv x=>.not (λ_=>.bind λ_ h=>.some (g (by decide) h)) λ_=>.bind λw o=>.some λc=>JFZ o c
 exact j _ e c
theorem JBa{k:J9}{j:Int}{y:J67}(e:J1a (k,j)=some y)(c: ¬y.2.1=5):JJ k=some true:=by
 have g:Par (J1a (k,j)) λy=> ¬y.2.1=5->JJ k=some true:=by unfold J1a;refine .bind λo h2=>.ne (λ_=>.bind λ_ h=>.some λc=>absurd (J68 h) c) λn=>λ_ _ _=>J6O h2 n
 exact g _ e c
theorem JB2{k:J9}{j:Int}{l:JG}{y:J67}(e:J2l (k,j,l)=some y)(c: ¬y.2.1=5):JJ k=some true:=by
 have g:Par (J2l (k,j,l)) λy=> ¬y.2.1=5->JJ k=some true:=by unfold J2l;refine .bind λo h2=>.ne (λ_=>.bind λ_ h=>.some λc=>absurd (J68 h) c) λn=>λ_ _ _=>J6O h2 n
 exact g _ e c
def Jcu(e:Int)(k:J9)(p:Int):Prop:= ∃y,J1a (k,e)=some y/\y.2.1=3/\y.2.2.2.1=p
def Jp2(e:Int)(l:JG)(k:J9)(p:Int):Prop:= ∃y,J2l (k,e,l)=some y/\y.2.1=3/\y.2.2.2.1=p
theorem Jcu.want{g:Int}{k:J9}{p:Int}(h:Jcu g k p):Jsp k g p:=by obtain⟨y,e,c,d⟩:=h;exact d▸JAK e c
theorem Jp2.want{g:Int}{l:JG}{k:J9}{p:Int}(h:Jp2 g l k p):JrG k g l p:=by obtain⟨y,e,c,d⟩:=h;exact d▸JCv e c
theorem Jmx{k y:J9}{p:Int}(W:J9->Int->Prop)(g: ∀{k p},W k p->JJ k=some true/\ ¬InP k.2.2.2.1 p)(same: ∀{p q},Jcn k y->W k p->W y q->q=p)(h:W k p)(r:J33 k y)(hp:JbY y.2.2.2.1 p)(hy:Ty.fit B S JI y.2.2.2.1)(hl:J0 y.2.2.1.2.1=J0 k.2.2.1.2.1)(o:BS B S 0 0:=by omega)(v:B<=9223372036854775807:=by omega): ∀q,¬W y q:=by
 intro q hq;obtain⟨a1,a2⟩:=g hq;obtain⟨j,n,m,e⟩:=r;have hm:m=[]:=by rw[e]at hl;unfold J0 at hl;rw[JbO]at hl;exact List.length_eq_zero_iff.1 oo
 subst hm;rw[J45]at e;have ks:Jcn k y:=⟨(g h).1,a1,j,n,e⟩;rw[same ks h hq]at a2;exact a2 (hp.inP (B:=B) (S:=S) (J43 a1).2.1 hy)
theorem JL1{j:Int}{k y:J9}{p q:Int}(ks:Jcn k y)(h:Jsp k j p)(g:Jsp y j q):q=p:=by obtain⟨_,_,a,ha,e⟩:=h;obtain⟨_,_,b,hb,f⟩:=g;rw[JHN ks,ha]at hb;injection hb with hb;subst hb;rw[e,f]
theorem JOj{j:Int}{l:JG}{k y:J9}{p q:Int}(ks:Jcn k y)(h:JrG k j l p)(g:JrG y j l q):q=p:=by obtain⟨_,_,a,ha,e⟩:=h;obtain⟨_,_,b,hb,f⟩:=g;rw[JDF ks,ha]at hb;injection hb with hb;subst hb;rw[e,f]
theorem Jbz{k:J9}(h:JJ k=some true):J0 k.2.2.1.2.1<=4096:=(Jgv (J43 h).1).2.2
open Classical in
noncomputable def left(W:J9->Int->Prop)(k:J9):Int:=2*(4097-J0 k.2.2.1.2.1)+if∃p,W k p then 1 else 0
open Classical in
theorem JEX{W:J9->Int->Prop}{k y:J9}(h:J0 y.2.2.1.2.1=J0 k.2.2.1.2.1+1)(hk: ¬∃p,W k p):left W y<left W k:=by have e1:(if∃p,W k p then(1:Int)else 0)=0:=if_neg hk;unfold left;rw[e1];split<;>omega
open Classical in
theorem JnJ{W:J9->Int->Prop}{k y:J9}{p:Int}(hk:W k p)(h:J0 k.2.2.1.2.1<=J0 y.2.2.1.2.1)(hy:J0 y.2.2.1.2.1=J0 k.2.2.1.2.1-> ∀q,¬W y q):left W y<left W k:=by
 have e1:(if∃p,W k p then(1:Int)else 0)=1:=if_pos ⟨p,hk⟩;unfold left;rw[e1];by_cases e:J0 y.2.2.1.2.1=J0 k.2.2.1.2.1
 ·have e2:(if∃p,W y p then(1:Int)else 0)=0:=if_neg fun⟨q,hq⟩=>hy e q hq;rw[e2];omega
 ·split<;>omega
open Classical in
theorem Jhm{W:J9->Int->Prop}{k:J9}(h:J0 k.2.2.1.2.1<=4097):0<=left W k:=by unfold left;split<;>omega
theorem JOI{y:J0H}(g:0<=B)(e:0<=S)(h:Ty.fit 0 0 JX y):Ty.fit B S JX y:=h.u
abbrev sZ:Ju:=((0,0,(0,[],0),(0,[],0),([],[]),[],[],[]),[],0,[],false,[])
theorem JqW{x1:J3r}(h:Ty.fit B S tq3 x1)(D:0<=B:=by omega)(z:0<=S:=by omega)(L:16384<=B:=by omega)(K:1073741824<=S:=by omega)(Q:B<=1000000:=by omega)(P:S<=1000000000000:=by omega):Tot (J2S x1) λy=>Ty.fit B S tq3 y/\(y.2=0->J0 x1.1.1.2.2.1.2.1<=J0 y.1.1.2.2.1.2.1):=by
 obtain⟨s,k⟩:=x1;obtain⟨hs,o⟩:=h;dsimp only at hs o⊢;have v:Ty.fit B S Jk sZ:=J0c D z Jk;unfold J2S;dsimp only;refine .bind (J18 hs.1) λO h2=>.not (λ_=>.some ⟨⟨v,fkn 15⟩,nofun⟩) λ_=>.bind (J2F (x1:=(s.1.2.2.2.2.2.1,k)) ⟨hs.1.2.2.2.2.2.1,o⟩) λM _=>.lt (λ_=>.some ⟨⟨v,fkn 16⟩,nofun⟩) λ_=>Jd (τ:=Ju) (λq=>(k,q,sZ)) (λq=>Ty.fit B S Jk q/\J0 s.1.2.2.1.2.1<=J0 q.1.2.2.1.2.1) (λq=>left (Jcu k) q.1) ?_ s rfl ⟨hs,J0G _⟩;rintro q ⟨g1,g2⟩;unfold JbH;dsimp only;refine .bind (JfC (x1:=(q,k)) ⟨g1,o⟩) λN _=>.ite (λ_=>?_) λ_=>.some ⟨⟨g1,fk0⟩,λ_=>g2⟩;refine .bind ((JmF (x1:=(q.1,k)) ⟨g1.1,o⟩).eqn) λn j=>.eq (λJ=>.some ⟨⟨v,j.1.1.g⟩,λc=>absurd c (JHz j.2 J)⟩) λC=>.eq (λc=>?_) λA=>?_
 ·have w:Jcu k q.1 n.2.2.2.1:=⟨n,j.2,c,rfl⟩;refine .bind ((J6g (x1:=(q,n.2.2.2.1)) ⟨g1,j.1.1.d.1⟩).eqn) λE r=>.ne (λG=>.some ⟨⟨v,r.1.1.2⟩,λc=>absurd c G⟩) λx=>?_;obtain⟨F,I⟩:=J8M (B:=B) (S:=S) g1.1.2.2.2.1 r.2 x;have hl:=r.1.2 x;refine .some ⟨E.1,rfl,⟨r.1.1.1,JcS g2 hl⟩,JnJ w hl λe=>Jmx (B:=B) (S:=S) (Jcu k) (λh=>⟨h.want.1,h.want.2.1⟩) (λks h g=>JL1 ks h.want g.want) w F I r.1.1.1.1.d.1 e,Jhm ?_⟩;have:=Jbz w.want.1;omega
 ·have h1:n.2.1=1/\J0 n.1.2.2.1.2.1=J0 q.1.2.2.1.2.1+1:=by
   rcases j.1.2 with h|h|h
   ·exact h
   ·exact absurd h A
   ·exact absurd h C
  have H: ¬∃p,Jcu k q.1 p:=fun⟨p,y,e,c,_⟩=>by rw[j.2]at e;injection e with e;subst e;exact A c
  refine .some ⟨(n.1,q.2),rfl,⟨⟨j.1.1.1,g1.2⟩,?_⟩,JEX h1.2 H,Jhm ?_⟩
  ·show J0 s.1.2.2.1.2.1<=J0 n.1.2.2.1.2.1;omega
  ·have:=Jbz (JBa j.2 C);omega
end
section
variable {B S:Int}
open Classical in
theorem JH3{x1:JGg}(h:Ty.fit B S (.pr Jk tq6) x1)(G:BH B S:=by omega)(K:B<=1000000:=by omega)(J:S<=1000000000000:=by omega):Tot (Jcp x1) λy=>Ty.fit B S JHo y/\J0 x1.1.1.2.2.1.2.1<=J0 y.1.1.2.2.1.2.1:=by
 obtain⟨s,n,a⟩:=x1;obtain⟨hs,k,ha⟩:=h;unfold Jcp;dsimp only at hs k ha⊢;refine Jd (τ:=Ju) (λq=>(n,q,a,((0,0,(0,[],0),(0,[],0),([],[]),[],[],[]),[],0,[],false,[]),0,0,0,(false,[]),0)) (λq=>Ty.fit B S Jk q/\J0 s.1.2.2.1.2.1<=J0 q.1.2.2.1.2.1) (λq=>if JbY q.1.2.2.2.1 a.2.1 then 0 else 1) ?_ s rfl ⟨hs,J0G _⟩;rintro q ⟨g1,g2⟩;unfold Jmw;dsimp only;refine .bind ((JHx (x1:=(q.1,n,a)) ⟨g1.1,k,ha⟩).eqn) λg h3=>?_;have hy:Ty.fit B S Jk (g.1,q.2):=⟨h3.1.1.1,g1.2⟩;have hl:J0 s.1.2.2.1.2.1<=J0 g.1.2.2.1.2.1:=JcS g2 h3.1.2;have fin: ∀{y:J0H},Ty.fit B S JX y->Ty.fit B S JHo ((g.1,q.2),y)/\J0 s.1.2.2.1.2.1<=J0 ((g.1,q.2),y).1.1.2.2.1.2.1:=λhr=>⟨⟨hy,hr⟩,hl⟩;refine .eq (λc=>?_) λ_=>?_
 ·obtain⟨w1,w2,w3,F⟩:=JHc h3.2 c;refine .bind ((J6g (x1:=((g.1,q.2),g.2.2.2.1)) ⟨hy,h3.1.1.d.1⟩).eqn) λE h4=>.ne (λ_=>.bind (J03 (B:=B) (S:=S) h4.1.1.2) λI h5=>.some (fin h5.1.u)) λA=>?_;obtain⟨H,v⟩:=J8M (B:=B) (S:=S) hy.1.2.2.2.1 h4.2 A;rw[F]at v;have v:JbY E.1.1.2.2.2.1 a.2.1:=v;have C: ¬JbY q.1.2.2.2.1 a.2.1:=λhp=>w2 (hp.inP (B:=B) (S:=S) (J43 w1).2.1 g1.1.2.2.2.1);refine .some ⟨E.1,rfl,⟨h4.1.1.1,JcS hl (h4.1.2 A)⟩,?_,?_⟩
  ·rw[if_pos v,if_neg C];decide
  ·rw[if_neg C];decide
 ·have rb:Tot ((J2C ((g.1,q.2),n)).bind λx=>if x=true then(J2S ((g.1,q.2),n)).bind λj=>if neI j.2 0=true then(Jv j.2).bind λw=>some (Sum.inr ((g.1,q.2),w))else some (Sum.inr (j.1,g.2))else some (Sum.inr ((g.1,q.2),g.2))) fun(r:(TQ27)⊕(TQ80))=> ∃y,r=.inr y/\Ty.fit B S JHo y/\J0 s.1.2.2.1.2.1<=J0 y.1.1.2.2.1.2.1:=by
   refine .bind (JfC (x1:=((g.1,q.2),n)) ⟨hy,k⟩) λx _=>.ite (λ_=>.bind (JqW (x1:=((g.1,q.2),n)) ⟨hy,k⟩) λj o=>.ne (λ_=>.bind (J03 (B:=B) (S:=S) o.1.2) λw z=>.some ⟨_,rfl,fin z.1.u⟩) λD=>.some ⟨_,rfl,⟨o.1.1,h3.1.1.2⟩,JcS hl (o.2 D)⟩) λ_=>.some ⟨_,rfl,fin h3.1.1.2⟩
  refine .eqf (λ_=>.eq (λ_=>.eqf (λ_=>.eq (λ_=>?_) λ_=>.some (fin h3.1.1.2)) λ_=>?_) λ_=>.some (fin h3.1.1.2)) λ_=>?_
  all_goals
   exact rb.mono λr ⟨y,e,h⟩=>by subst e;exact h
end
theorem JC1{B S:Int}{x1:Jvj}(h:Ty.fit B S JKl x1)(r:BG B S:=by omega):Tot (J2l x1) λy=>Ty.fit B S tq4 y/\((y.2.1=1/\(J0 y.1.2.2.1.2.1=J0 x1.1.2.2.1.2.1+1\/y.2.2.1=0))\/y.2.1=3\/y.2.1=5):=by
 unfold J2l;refine .bind (J6G (B:=B) (S:=S) (⟨h.1,h.2.1⟩)) λA h1=>.ne (λq=>?_) λq=>?_
 ·refine .bind (J03 h1.2) λv h4=>.some ⟨(⟨h.1,h4.1.u⟩),om⟩
 ·have:=J2.1 h1.1.2.1;refine .ne (λk=>?_) λk=>?_
  ·refine .bind (J03 (B:=0) (S:=0) (fkn 15)) λx j=>.some ⟨(⟨h.1,j.1.u⟩),om⟩
  ·refine .bind (JgN (B:=B) (S:=S) (h)) λw n=>.not (λo=>?_) λo=>?_
   ·have:J0 x1.1.2.2.1.2.1<=B:=h.1.c.1.2.1.1;exact .some ⟨(⟨h.1,fkn 1,fk0,fk0,⟨trivial,Jc⟩,fk0⟩),om⟩
   ·refine .bind (Jd2 (B:=B) (S:=S) (⟨h.1,h1.1.u,n.1.u⟩)) λg e=>?_;have:=J2.1 e.1.2.z.1;have:J0 g.1.2.2.1.2.1=_:=Jj e.1.1.c.1.2.1;have:J0 x1.1.2.2.1.2.1=_:=Jj h.1.c.1.2.1;have:(g.2.1=1/\J0 g.1.2.2.1.2.1=J0 x1.1.2.2.1.2.1+1)\/g.2.1=3\/g.2.1=5:=e.2;exact .some ⟨(⟨e.1.1,e.1.2.z.u⟩),om⟩
section
variable {B S:Int}
theorem JAe{x1:JGs}(h:Ty.fit B S (.pr Jk Jb) x1)(L:BH B S:=by omega)(P:B<=1000000:=by omega)(N:S<=1000000000000:=by omega):Tot (Jaf x1) λy=>Ty.fit B S JGa y/\J0 x1.1.1.2.2.1.2.1<=J0 y.1.1.2.2.1.2.1/\(¬y.2.1=0->J0 x1.1.1.2.2.1.2.1+1<=J0 y.1.1.2.2.1.2.1/\J0 x1.1.1.2.2.1.2.1<=4096):=by
 obtain⟨s,o,l⟩:=x1;obtain⟨hs,v,hl⟩:=h;dsimp only at hs v hl⊢;unfold Jaf;dsimp only;refine Jd (τ:=Int×Ju) (λq=>(o,q.1,q.2,l,sZ)) (λq=>Ty.fit B S Jk q.2/\0<=q.1/\q.1+J0 s.1.2.2.1.2.1<=J0 q.2.1.2.2.1.2.1/\(¬q.1=0->J0 s.1.2.2.1.2.1<=4096)) (λq=>left (Jp2 o l) q.2.1) ?_ (0,s) rfl ⟨hs,J0G _,by dsimp only;omega,λc=>absurd rfl c⟩;rintro⟨n,q⟩ ⟨g1,g2,K,A⟩;dsimp only at g1 g2 K A;unfold JiG;dsimp only;have:=Jh n 1;have:J0 q.1.2.2.1.2.1<=B:=g1.1.2.2.1.2.1.1;have:=J3 (l:=s.1.2.2.1.2.1);have fn:Ty.fit B S (.i .i64) n:=by rw[J2];omega
 have fin: ∀{e:Int},Ty.fit B S (.i .i64) e->Ty.fit B S JGa (q,n,e)/\J0 s.1.2.2.1.2.1<=J0 ((q,n,e):Jq6).1.1.2.2.1.2.1/\(¬((q,n,e):Jq6).2.1=0->J0 s.1.2.2.1.2.1+1<=J0 ((q,n,e):Jq6).1.1.2.2.1.2.1/\J0 s.1.2.2.1.2.1<=4096):=fun{e} he=>⟨⟨g1,fn,he⟩,by dsimp only;omega,λc=>by dsimp only at c⊢;have:=A c;omega⟩;refine .bind ((JC1 (x1:=(q.1,o,l)) ⟨g1.1,v,hl⟩).eqn) λj k=>.eq (λO=>.some (fin k.1.1.g)) λF=>.eq (λc=>?_) λE=>.eq (λc=>.some (fin fk0)) λH=>?_
 ·have w:Jp2 o l q.1 j.2.2.2.1:=⟨j,k.2,c,rfl⟩;refine .bind ((J6g (x1:=(q,j.2.2.2.1)) ⟨g1,k.1.1.d.1⟩).eqn) λC r=>.ne (λM=>.some (fin r.1.1.2)) λD=>?_;obtain⟨G,J⟩:=J8M (B:=B) (S:=S) g1.1.2.2.2.1 r.2 D;have x:=r.1.2 D;dsimp only at x;refine .some ⟨(n,C.1),rfl,⟨r.1.1.1,g2,by show n+_<=J0 C.1.1.2.2.1.2.1;omega,A⟩,JnJ w x λe=>Jmx (B:=B) (S:=S) (Jp2 o l) (λh=>⟨h.want.1,h.want.2.1⟩) (λks h g=>JOj ks h.want g.want) w G J r.1.1.1.1.d.1 e,Jhm ?_⟩;have:=Jbz w.want.1;show J0 q.1.2.2.1.2.1<=4097;omega
 ·have h1:j.2.1=1/\J0 j.1.2.2.1.2.1=J0 q.1.2.2.1.2.1+1:=by
   rcases k.1.2 with⟨h,z|z⟩|h|h
   ·exact⟨h,z⟩
   ·exact absurd z H
   ·exact absurd h E
   ·exact absurd h F
  have I: ¬∃p,Jp2 o l q.1 p:=fun⟨p,y,e,c,_⟩=>by rw[k.2]at e;injection e with e;subst e;exact E c
  have hv:=Jbz (JB2 k.2 F);refine .some ⟨(J1 .i64 n 1,(j.1,q.2)),rfl,⟨⟨k.1.1.1,g1.2⟩,by show 0<=J1 .i64 n 1;omega,by show J1 .i64 n 1+_<=J0 j.1.2.2.1.2.1;omega,λ_=>by omega⟩,JEX h1.2 I,Jhm (by show J0 q.1.2.2.1.2.1<=4097;omega)⟩
theorem JGt{x1:JGg}(h:Ty.fit B S (.pr Jk tq6) x1)(n:0<=B:=by omega)(k:0<=S:=by omega)(z:16384<=B:=by omega)(x:1073741824<=S:=by omega)(D:B<=1000000:=by omega)(C:S<=1000000000000:=by omega):Tot (JcF x1) λy=>Ty.fit B S JHo y:=by obtain⟨s,g,a⟩:=x1;obtain⟨hs,e,ha⟩:=h;dsimp only at hs e ha⊢;unfold JcF;dsimp only;refine Jd (τ:=Ju) (λq=>(g,q,a,sZ,0,0,0,(false,[]),0)) (λq=>Ty.fit B S Jk q) (λq=>4097-J0 q.1.2.2.1.2.1) ?_ s rfl hs;rintro q g1;unfold JmK;dsimp only;refine .bind (JH3 (x1:=(q,g,a)) ⟨g1,e,ha⟩) λj h3=>.ne (λ_=>.some h3.1) λ_=>.bind (Jsc (x1:=(j.1.1,g)) ⟨h3.1.1.1,e⟩) λo h4=>.not (λ_=>.some h3.1) λ_=>.bind (JAe (x1:=(j.1,o.1,o.2.1)) ⟨h3.1.1,h4.1,h4.2.1⟩) λr h5=>.ne (λ_=>.bind (J03 (B:=B) (S:=S) h5.1.c) λA v=>.some ⟨h5.1.1,JOI n k v.1⟩) λ_=>.eq (λ_=>.some ⟨h5.1.1,h3.1.2⟩) λc=>?_;obtain⟨e1,e2⟩:=h5.c c;have w:=h3.2;dsimp only at e1 e2 w;exact .some ⟨r.1,rfl,h5.1.1,oo,oo⟩
theorem JBU{x1:Ju}(h:Ty.fit B S Jk x1)(F:0<=B:=by omega)(E:0<=S:=by omega)(M:16384<=B:=by omega)(L:1073741824<=S:=by omega)(T:B<=1000000:=by omega)(Q:S<=1000000000000:=by omega):Tot (Ja5 x1) λy=>Ty.fit B S (.pr Jk (.pr .b (.i .i64))) y:=by
 have A:Ty.fit B S Jk sZ:=J0c F E Jk;unfold Ja5;refine .bind (J18 h.1) λO _=>.not (λ_=>.some ⟨A,trivial,fkn 15⟩) λ_=>.gt (λc=>?_) λ_=>?_
 ·exact .bind (Ji h.1.i (J0G _) c) λH h3=>.bind (J6g (x1:=(x1,H.1)) ⟨h,h3.1.1⟩) λP h4=>.some ⟨h4.1.1,trivial,h4.1.2⟩
 refine .bind (JzM h.1) λj h5=>.eq (λ_=>.some ⟨h,trivial,fk0⟩) λJ=>?_;have o:=J3 (l:=j);have x:0<J0 j:=by omega
 have v:(0:Int).toNat<j.length:=by unfold J0 at x;omega
 have D:idx j 0=some j[(0:Int).toNat]:=by unfold idx;rw[if_pos (J0G _),JD v]
 have hx:=h5.2 _ (JdZ v);generalize j[(0:Int).toNat]=n at D hx;refine Jd (τ:=Ju) (λq=>(j,q,sZ)) (λq=>Ty.fit B S Jk q) (λq=>left (Jcu n) q.1) ?_ x1 rfl h;rintro q g1;unfold JgT;dsimp only;rw[D];show Tot ((J1a (q.1,n)).bind _) _;refine .bind ((JmF (x1:=(q.1,n)) ⟨g1.1,hx⟩).eqn) λz r=>.eq (λR=>.some ⟨A,trivial,r.1.1.g⟩) λJ=>.ne (λ_=>.some ⟨⟨r.1.1.1,g1.2⟩,trivial,fk0⟩) λc=>?_;have w:Jcu n q.1 z.2.2.2.1:=⟨z,r.2,c,rfl⟩;refine .bind ((J6g (x1:=(q,z.2.2.2.1)) ⟨g1,r.1.1.d.1⟩).eqn) λG k=>.ne (λN=>.some ⟨A,trivial,k.1.1.2⟩) λC=>?_;obtain⟨I,K⟩:=J8M (B:=B) (S:=S) g1.1.2.2.2.1 k.2 C;have hl:=k.1.2 C;refine .some ⟨G.1,rfl,k.1.1.1,JnJ w hl λe=>Jmx (B:=B) (S:=S) (Jcu n) (λh=>⟨h.want.1,h.want.2.1⟩) (λks h g=>JL1 ks h.want g.want) w I K k.1.1.1.1.d.1 e,Jhm ?_⟩;have:=Jbz w.want.1;show J0 q.1.2.2.1.2.1<=4097;omega
end
theorem Jjj{B S:Int}{x1:TQ4}(h:Ty.fit B S (.pr J0N tq0) x1)(p0:J0 x1.2.2.2.2.2.2.2.2.2.2.2.2.2.2.2.2.2.2.2.2.1<=16000)(U:J0 x1.2.2.2.2.2.2.2.2.2.2.2.2.2.2.2.2.2.2.2.2.2<=16000)(O:BH B S:=by omega)(Y:B<=1000000:=by omega)(W:S<=1000000000000:=by omega):Tot (J4j x1) λy=>Ty.fit B S JH1 y/\(J0 y.2.2.2.2.2.2.2.2.2.2.2.2.2.2.2.2.2.2.2.2.1<=J0 x1.2.2.2.2.2.2.2.2.2.2.2.2.2.2.2.2.2.2.2.2.1+1/\J0 y.2.2.2.2.2.2.2.2.2.2.2.2.2.2.2.2.2.2.2.2.2<=J0 x1.2.2.2.2.2.2.2.2.2.2.2.2.2.2.2.2.2.2.2.2.2+1):=by
 unfold J4j;have:J0 x1.2.2.2.2.2.2.2.2.2.2.2.2.2.2.2.2.2.2.2.2.1<=B:=h.k.k.c.1.1;have:=J3 (l:=x1.2.2.2.2.2.2.2.2.2.2.2.2.2.2.2.2.2.2.2.2.1);have:=J3 (l:=x1.2.2.2.2.2.2.2.2.2.2.2.2.2.2.2.2.2.2.2.2.2);have:J0 x1.2.2.2.2.2.2.2.2.2.2.2.2.2.2.2.2.2.2.2.2.2=_:=Jj h.k.k.d;have o:Ty.fit 16000 S (.l (.i .i64)) x1.2.2.2.2.2.2.2.2.2.2.2.2.2.2.2.2.2.2.2.2.1:=⟨(by omega:J0 x1.2.2.2.2.2.2.2.2.2.2.2.2.2.2.2.2.2.2.2.2.1<=16000),λx hx=>h.k.k.c.1.2 x hx⟩;have q:Ty.fit 16000 S (.l J0s) x1.2.2.2.2.2.2.2.2.2.2.2.2.2.2.2.2.2.2.2.2.2:=⟨(by omega:J0 x1.2.2.2.2.2.2.2.2.2.2.2.2.2.2.2.2.2.2.2.2.2<=16000),λx hx=>h.k.k.e x hx⟩;have:=J2.1 h.1.z.2.1;refine .ltf (λJ=>?_) λJ=>?_
 ·refine .gtf (λG=>?_) λG=>?_
  ·have:=J0E x1.1.2.1 1;refine .bind (J5j (l:=x1.2.2.2.2.2.2.2.2.2.2.2.2.2.2.2.2.2.2.2.2.1)) λ_ _=>.bind (Jcm o) λQ L=>.eq (λC=>?_) λC=>?_
   ·refine .bind (J03 (B:=0) (S:=0) (fkn 16)) λV E=>.some ⟨(⟨E.1.u,h.2.1,h.c.1,h.d.1,h.e.1,h.g.1,h.h.1,h.i.1,h.j.1,h.k.1,h.k.2.1,h.k.c.1,h.k.d.1,h.k.e.1,h.k.g.1,h.k.h.1,h.k.i.1,trivial,h.k.k.1,trivial,o.u,q.u⟩),om⟩
   ·refine .bind (J5j (l:=x1.2.2.2.2.2.2.2.2.2.2.2.2.2.2.2.2.2.2.2.2.1)) λ_ _=>.bind (Jcm o) λT v=>.bind (JGt (B:=B) (S:=S) (⟨⟨⟨h.2.1,h.c.1,⟨h.d.1,h.e.1,h.g.1⟩,⟨h.h.1,h.i.1,h.j.1⟩,⟨h.k.1,h.k.2.1⟩,h.k.c.1,h.k.d.1,h.k.e.1⟩,h.k.g.1,h.k.h.1,h.k.i.1,trivial,h.k.k.1⟩,v.1,h.1.z.2.2.2.2.2.u⟩)) λP n=>.eq (λI=>?_) λI=>?_
    ·exact .some ⟨(⟨n.2.z.u,h.2.1,h.c.1,h.d.1,h.e.1,h.g.1,h.h.1,h.i.1,h.j.1,h.k.1,h.k.2.1,h.k.c.1,h.k.d.1,h.k.e.1,h.k.g.1,h.k.h.1,h.k.i.1,trivial,h.k.k.1,trivial,o.u,q.u⟩),om⟩
    ·refine .eq (λH=>?_) λH=>?_
     ·have:=J2.1 h.1.z.2.2.2.2.2.1;refine .eq (λA=>?_) λA=>?_
      ·refine .bind (J7m n.1.1.c.1) λR D=>.bind (J0n (B:=16001) (Bl:=16000) (Bm:=1) (S:=S) (J0 x1.2.2.2.2.2.2.2.2.2.2.2.2.2.2.2.2.2.2.2.2.2) 1 q (J0d (B:=1) (S:=S) (t:=J0s) oo (⟨v.1,h.1.z.2.2.2.2.2.2.1,h.1.z.2.2.2.2.2.2.2.1,D,n.2.z.2.2.2.1.u⟩))) λK r=>?_;have:J0 K=_:=Jj r.1;exact .some ⟨(⟨n.2.z.u,n.1.1.1,n.1.1.2.1,n.1.1.c.1.1,n.1.1.c.1.2.1,n.1.1.c.1.c,n.1.1.d.1.1,n.1.1.d.1.2.1,n.1.1.d.1.c,n.1.1.e.1.1,n.1.1.e.1.2,n.1.1.g.1,n.1.1.h.1,n.1.1.i,n.1.2.1,n.1.c.1,n.1.d.1,trivial,n.1.g,trivial,o.u,r.1.u⟩),om⟩
      ·exact .some ⟨(⟨n.2.z.u,n.1.1.1,n.1.1.2.1,n.1.1.c.1.1,n.1.1.c.1.2.1,n.1.1.c.1.c,n.1.1.d.1.1,n.1.1.d.1.2.1,n.1.1.d.1.c,n.1.1.e.1.1,n.1.1.e.1.2,n.1.1.g.1,n.1.1.h.1,n.1.1.i,n.1.2.1,n.1.c.1,n.1.d.1,trivial,n.1.g,trivial,o.u,q.u⟩),om⟩
     ·exact .some ⟨(⟨n.2.z.u,n.1.1.1,n.1.1.2.1,n.1.1.c.1.1,n.1.1.c.1.2.1,n.1.1.c.1.c,n.1.1.d.1.1,n.1.1.d.1.2.1,n.1.1.d.1.c,n.1.1.e.1.1,n.1.1.e.1.2,n.1.1.g.1,n.1.1.h.1,n.1.1.i,n.1.2.1,n.1.c.1,n.1.d.1,trivial,n.1.g,trivial,o.u,q.u⟩),om⟩
  ·refine .bind (J03 (B:=0) (S:=0) (fkn 16)) λM F=>.some ⟨(⟨F.1.u,h.2.1,h.c.1,h.d.1,h.e.1,h.g.1,h.h.1,h.i.1,h.j.1,h.k.1,h.k.2.1,h.k.c.1,h.k.d.1,h.k.e.1,h.k.g.1,h.k.h.1,h.k.i.1,trivial,h.k.k.1,trivial,o.u,q.u⟩),om⟩
 ·refine .bind (J03 (B:=0) (S:=0) (fkn 16)) λN w=>.some ⟨(⟨w.1.u,h.2.1,h.c.1,h.d.1,h.e.1,h.g.1,h.h.1,h.i.1,h.j.1,h.k.1,h.k.2.1,h.k.c.1,h.k.d.1,h.k.e.1,h.k.g.1,h.k.h.1,h.k.i.1,trivial,h.k.k.1,trivial,o.u,q.u⟩),om⟩
theorem Jkm{B S:Int}{x1:List UInt8}(h:Ty.fit B S .s x1)(v:BS B S 0 0:=by omega)(z:S<=4611686018427387887:=by omega):Tot (J6n x1) λy=>Ty.fit 0 (S+16) .s y:=by
 unfold J6n;have s0:Ty.fit 0 S .s x1:=h;have:J0 x1<=S:=s0;have:=J3 (l:=x1);refine .gt (λo=>?_) λo=>?_
 ·exact .some Jc
 ·refine .bind (JT (B:=0) (S:=0) (⟨Jc,J3N s0 oo,fkn 4⟩)) λg h4=>?_;have h5:Ty.fit 0 8 .s g:=h4.1.u;have:J0 g<=8:=h5;have:=J3 (l:=g);refine .bind (J66) λn x=>?_;have e:Ty.fit 0 (S+8) .s n:=(by omega:J0 n<=(S+8));refine .bind (Jbe e) λw r=>.bind (JT (B:=0) (S:=(S+8)) (⟨e,JbJ,fkn 4⟩)) λq j=>?_;have k:Ty.fit 0 (S+16) .s q:=j.1.u;exact .some k
theorem Jmr{B S:Int}{x1:(List UInt8)×J2x}(h:Ty.fit B S (.pr .s JE) x1)(q:BS B S 0 0:=by omega)(r:S<=2305843009213693948:=by omega):Tot (J7i x1) λy=>Ty.fit 0 (2*S+8) .s y:=by
 unfold J7i;have s0:Ty.fit 0 S (.pr .s JE) x1:=h;refine .not (λn=>?_) λn=>?_
 ·refine .bind (JT (B:=0) (S:=S) (⟨s0.1,fkn 255,fkn 1⟩)) λv h2=>.some h2.1.u
 ·refine .bind (JT (B:=0) (S:=S) (⟨s0.1,J3N s0.2.2 oo,fkn 1⟩)) λj k=>?_;have:J0 j<=(S+8):=k.1;have:J0 x1.2.2<=S:=s0.2.2;refine .bind (J66) λe o=>?_;have g:Ty.fit 0 (2*S+8) .s e:=(by omega:J0 e<=(2*S+8));exact .some g
theorem Jug{B S:Int}{x1:T_api_Entry}(h:Ty.fit B S J4 x1)(a6:BS B S 0 0:=by omega):Tot (J7H x1) λy=>Ty.fit 0 40992 JbL y:=by
 unfold J7H;have s0:Ty.fit 0 S J4 x1:=h;refine .bind ((J2n (B:=0) (S:=S) (x1:=x1) s0).eqn) λy2 h1=>.not (λG=>?_) λG=>?_
 ·exact .some (⟨Jc,fkn 12⟩)
 ·have v3:=J22 (x:=x1) s0 h1.2 G;have:=J3 (l:=x1.2.2.2.2.2.2.2);have j:Ty.fit 0 8192 J4 x1:=v3.2;refine .bind (JT (B:=0) (S:=0) (⟨Jc,j.1,fkn 8⟩)) λZ r=>?_;have I:Ty.fit 0 8 .s Z:=r.1.u;refine .bind (JT (B:=0) (S:=8) (⟨I,j.2.1,fkn 1⟩)) λy4 K=>?_;have z:Ty.fit 0 16 .s y4:=K.1.u;refine .bind (JT (B:=0) (S:=16) (⟨z,j.c.1,fkn 4⟩)) λy5 H=>?_;have E:Ty.fit 0 24 .s y5:=H.1.u;refine .bind (JT (B:=0) (S:=24) (⟨E,j.d.1,fkn 8⟩)) λy6 O=>?_;have q:Ty.fit 0 32 .s y6:=O.1.u;refine .bind (JT (B:=0) (S:=32) (⟨q,j.e.1,fkn 8⟩)) λY L=>?_;have C:Ty.fit 0 40 .s Y:=L.1.u;refine .bind (JT (B:=0) (S:=40) (⟨C,j.g.1,fkn 8⟩)) λy8 T=>?_;have v:Ty.fit 0 48 .s y8:=T.1.u;refine .bind (JT (B:=0) (S:=48) (⟨v,j.h.1.1,fkn 4⟩)) λy9 Q=>?_;have P:Ty.fit 0 56 .s y9:=Q.1.u;refine .bind (JT (B:=0) (S:=56) (⟨P,j.h.1.2.1,fkn 1⟩)) λw U=>?_;have J:Ty.fit 0 64 .s w:=U.1.u;refine .bind (Jmr (B:=0) (S:=8192) (⟨J.u,j.h.1.c.1⟩)) λW D=>?_;have o:Ty.fit 0 16392 .s W:=D.u;refine .bind (Jmr (B:=0) (S:=16392) (⟨o,j.h.1.d.u⟩)) λM A=>?_;have R:Ty.fit 0 32792 .s M:=A.u;refine .bind (JT (B:=0) (S:=32792) (⟨R,J3N j.i oo,fkn 4⟩)) λk F=>?_;have V:Ty.fit 0 32800 .s k:=F.1.u;have:J0 k<=32800:=V;have:=J3 (l:=k);refine .bind (J66) λn a5=>?_;have N:Ty.fit 0 40992 .s n:=(by omega:J0 n<=40992);exact .some (⟨N,fk0⟩)
theorem Jl9{B S:Int}{x1:T_api_Entry}(h:Ty.fit B S J4 x1)(g:BS B S 0 0:=by omega):Tot (J6k x1) λy=>Ty.fit 0 41008 .s y:=by unfold J6k;refine .bind (Jug (B:=0) (S:=S) h.z) λj h1=>.bind (Jkm h1.1) λe h2=>?_;have h3:Ty.fit 0 41008 .s e:=h2.u;exact .some h3
theorem JD1{B S x1:Int}(h:Ty.fit B S (.i .i64) x1)(n:BS B S 0 0:=by omega):Tot (J9F x1) λy=>Ty.fit 0 28 .s y:=by unfold J9F;refine .bind (JT (B:=0) (S:=4) (⟨JN3 4 rfl oo,h,fkn 8⟩)) λk h1=>?_;have h2:Ty.fit 0 12 .s k:=h1.1.u;refine .bind (Jkm h2) λg e=>?_;have j:Ty.fit 0 28 .s g:=e.u;exact .some j
theorem J8B{B S:Int}{x1:J6M}(h:Ty.fit B S tq8 x1)(a1:BC B S 0 0:=by omega):Tot (J47 x1) λy=>Ty.fit 0 335937564 .s y:=by
 unfold J47;refine .bind ((J25 h.1).eqn) λy2 h1=>.not (λK=>?_) λK=>?_
 ·exact .some Jc
 ·have v3:=J1I h.1 h1.2 K;have:=J3 (l:=x1.1.2.1);have:J0 x1.1.2.1=_:=Jj h.1.2.1;have k:Ty.fit 4096 8192 JQ x1.1:=v3.2;refine .bind (JD1 k.1) λv A=>?_;have:J0 v<=28:=A;have:=J3 (l:=v);refine Jd (τ:=(List UInt8)×(List UInt8)×Int) (λq=>(x1.2,q.1,q.2.1,q.2.2,x1.1)) (λq=>(Ty.fit 0 0 (.i .i64) q.2.2/\0<=q.2.2/\(q.2.2<=J0 x1.1.2.1\/q.2.2<=0))/\(Ty.fit 0 167968796 .s q.1/\J0 q.1<=41008*q.2.2+J0 v)/\(Ty.fit 0 167968768 .s q.2.1/\J0 q.2.1<=41008*q.2.2+0)) (λq=>J0 x1.1.2.1-q.2.2) ?_ (v,[],0) rfl ?_
  ·rintro⟨g,e,j⟩ D;dsimp only at D;obtain⟨⟨M,Y,V⟩,⟨r,a0⟩,n,U⟩:=D;unfold JeD
   try dsimp only
   have:=J2.1 M;refine .lt (λN=>?_) λN=>?_
   ·refine .bind (Ji k.2.1) λy5 a3=>.le (λO=>?_) λO=>?_
    ·refine .bind (Ji k.2.1) λy6 Q=>.bind (Jl9 (B:=0) (S:=8192) Q.1.z) λF H=>?_;have:J0 g<=167968796:=r;have:=J3 (l:=g);have:J0 F<=41008:=H;have:=J3 (l:=F);refine .bind (J66) λE W=>?_;have J:Ty.fit 0 167968796 .s E:=(by omega:J0 E<=167968796);have:=Jh j 1;exact .some ⟨(E,e,J1 .i64 j 1),rfl,⟨⟨J5,om,om⟩,⟨J,om⟩,n,om⟩,om,om⟩
    ·refine .bind (Ji k.2.1) λy9 G=>.bind (Jl9 (B:=0) (S:=8192) G.1.z) λw P=>?_;have:J0 e<=167968768:=n;have:=J3 (l:=e);have:J0 w<=41008:=P;have:=J3 (l:=w);refine .bind (J66) λo Z=>?_;have L:Ty.fit 0 167968768 .s o:=(by omega:J0 o<=167968768);have:=Jh j 1;exact .some ⟨(g,o,J1 .i64 j 1),rfl,⟨⟨J5,om,om⟩,⟨r,om⟩,L,om⟩,om,om⟩
   ·refine .inr ?_;have:=JoI x1.2 0;have:J0 e<=167968768:=n;have:=J3 (l:=e);have:=JFj (J31 x1.2 0) (J0 e);refine .bind (Jd3 n) λC R=>?_;have T:Ty.fit 0 167968768 .s C:=R.1;have:J0 g<=167968796:=r;have:=J3 (l:=g);have:=J3 (l:=C);refine .bind (J66) λx a2=>?_;have I:Ty.fit 0 335937564 .s x:=(by omega:J0 x<=335937564);exact .some I
  ·have:J0 ([]:List UInt8)=0:=rfl
   try dsimp only
   exact⟨⟨fk0,oo,oo⟩,⟨A.u,oo⟩,Jc,oo⟩
theorem JxG{B S:Int}{x1:JGs}(h:Ty.fit B S (.pr Jk Jb) x1)(G:BG B S:=by omega):Tot (J8L x1) λy=>Ty.fit B S (.pr JS .s) y:=by
 unfold J8L;refine .bind ((J4C (B:=B) (S:=S) (x1:=(x1.1.1.2.2.2.1,x1.2.2.1)) (⟨h.1.1.d.1,h.c.1⟩)).eqn) λx h1=>?_;have:J0 x1.1.1.2.2.2.1.2.1=_:=Jj h.1.1.d.1.2.1;have: -1<=x/\x<J0 x1.1.1.2.2.2.1.2.1:=h1.1.2;refine .ge (λC=>?_) λC=>?_
 ·refine .bind (Ji h.1.1.d.1.2.1) λI M=>.ite (λA=>?_) λA=>?_
  ·refine .bind (Ji h.1.1.d.1.2.1) λO j=>.bind (JaT (B:=0) (S:=S) j.1.z.1) λK o=>.bind (Ji h.1.1.d.1.2.1) λL k=>.bind (J8K (B:=B) (S:=S) (⟨h.1.1,k.1.z.1.2.1⟩)) λH e=>.bind (JC6 (B:=B) (S:=S) (⟨h.1.2,h.c.1,o.1.u,h.d⟩)) λJ q=>.eq (λr=>?_) λr=>?_
   ·refine .bind (J8B (B:=B) (S:=S) (⟨e.1.c.1,h.2.1⟩)) λN v=>.some (⟨q.1.u,v.u⟩)
   ·refine .bind (J8B (B:=B) (S:=S) (⟨e.1.c.1,h.2.1⟩)) λD g=>.some (⟨h.1.2,g.u⟩)
  ·refine .bind (J8B (B:=B) (S:=S) (⟨h.1.1.c.1,h.2.1⟩)) λF w=>.some (⟨h.1.2,w.u⟩)
 ·refine .bind (J8B (B:=B) (S:=S) (⟨h.1.1.c.1,h.2.1⟩)) λE n=>.some (⟨h.1.2,n.u⟩)
theorem Jfk{B S:Int}{x1:J3G}(h:Ty.fit B S JbL x1)(H:BS B S 0 0:=by omega)(K:S<=9223372036854775807:=by omega):Tot (J5k x1) λy=>Ty.fit 0 S Jx y/\(y.2.2=0->0<=y.2.1/\y.2.1<=J0 x1.1/\J0 y.1<=8392):=by
 unfold J5k;have s0:Ty.fit 0 S JbL x1:=h;have:=J2.1 s0.2;refine .ltf (λC=>?_) λC=>?_
 ·have:J0 x1.1<=S:=s0.1;have:=J3 (l:=x1.1);refine .gt (λD=>?_) λD=>?_
  ·exact .some ⟨(⟨Jc,fk0,fkn 1⟩),om⟩
  ·refine .bind ((J15 (B:=0) (S:=S) (x1:=(x1.1,x1.2,4)) (⟨s0.1,s0.2,fkn 4⟩)).eqn) λe z=>.ne (λn=>?_) λn=>?_
   ·exact .some ⟨(⟨Jc,fk0,fkn 5⟩),om⟩
   ·have A:=J6s (x:=(x1.1,x1.2,4)) (⟨s0.1,s0.2,fkn 4⟩) z.2 n;have:=J2.1 z.1.1;have:1<=(4:Int)/\(4:Int)<=8/\0<=x1.2/\x1.2<=J0 x1.1/\(4:Int)<=J0 x1.1-x1.2/\((4:Int)<=4->0<=e.1/\e.1<=4294967295)/\((4:Int)=1->e.1<=255)/\((4:Int)=2->e.1<=65535):=A.1;refine .gt (λg=>?_) λg=>?_
    ·exact .some ⟨(⟨Jc,fk0,fkn 2⟩),om⟩
    ·have:=J0E (J0 x1.1) x1.2;have:=Jh e.1 8;refine .lt (λr=>?_) λr=>?_
     ·exact .some ⟨(⟨Jc,fk0,fkn 5⟩),om⟩
     ·refine .bind ((J15 (B:=0) (S:=S) (x1:=(x1.1,J1 .i64 (J1 .i64 x1.2 4) e.1,4)) (⟨s0.1,J5,fkn 4⟩)).eqn) λI G=>?_;have:=Jh x1.2 4;have:=Jh (J1 .i64 x1.2 4) e.1;refine .bind (Jdb s0.1) λE k=>?_;have o:Ty.fit 0 S .s E:=k.1;refine .bind (Jbe o) λJ F=>.ne (λv=>?_) λv=>?_
      ·exact .some ⟨(⟨Jc,fk0,fkn 3⟩),om⟩
      ·refine .bind (Jdb s0.1) λq j=>?_;have w:Ty.fit 0 S .s q:=j.1;have:=Jh x1.2 8;have:=Jh (J1 .i64 x1.2 8) e.1;have:=J3 (l:=q);exact .some ⟨(⟨w,J5,fk0⟩),om⟩
 ·have:J0 x1.1<=S:=s0.1;exact .some ⟨(⟨Jc,fk0,fkn 1⟩),om⟩
theorem J9C{B S:Int}{x1:JAN}(h:Ty.fit B S JCt x1)(p0:0<=x1.2.2.1)(r:x1.2.2.1<=J0 x1.2.1)(w:0<=x1.1)(q:x1.1<=4294967295)(o:BS B S 0 0:=by omega)(v:S<=9223372036854775807:=by omega):Tot (J37 x1) λy=>Ty.fit 0 S (.pr .s Jx) y/\(0<=y.2.2.1/\y.2.2.1<=J0 y.2.1):=by
 unfold J37;have s0:Ty.fit 0 S JCt x1:=h;have:=J2.1 s0.2.2.1;have:J0 x1.2.1<=S:=s0.2.1;have:=J3 (l:=x1.2.1);refine .ne (λk=>?_) λk=>?_
 ·exact .some ⟨(⟨Jc,s0.2⟩),om⟩
 ·have:=J0E (J0 x1.2.1) x1.2.2.1;refine .gt (λj=>?_) λj=>?_
  ·exact .some ⟨(⟨Jc,s0.2.1,s0.2.2.1,fkn 5⟩),om⟩
  ·have:=Jh x1.2.2.1 x1.1;have:=J0E (J1 .i64 x1.2.2.1 x1.1) x1.1;refine .bind (Jdb s0.2.1) λn g=>?_;have e:Ty.fit 0 S .s n:=g.1;exact .some ⟨(⟨e,s0.2.1,J5,s0.2.2.2⟩),om⟩
theorem J0Y{B S:Int}{x1:JAN}(h:Ty.fit B S JCt x1)(p0:0<=x1.2.2.1)(q:x1.2.2.1<=J0 x1.2.1)(o:BS B S 0 0:=by omega)(r:S<=9223372036854775807:=by omega):Tot (J0v x1) λy=>Ty.fit 0 S JCt y/\(0<=y.2.2.1/\y.2.2.1<=J0 y.2.1/\(x1.1<=4->0<=y.1/\y.1<=4294967295)/\(x1.1=1->y.1<=255)):=by
 unfold J0v;have s0:Ty.fit 0 S JCt x1:=h;have:=J2.1 s0.2.2.1;have:J0 x1.2.1<=S:=s0.2.1;refine .ne (λn=>?_) λn=>?_
 ·have:=J2.1 s0.1;exact .some ⟨(⟨fk0,s0.2⟩),om⟩
 ·refine .bind ((J15 (B:=0) (S:=S) (x1:=(x1.2.1,x1.2.2.1,x1.1)) (⟨s0.2.1,s0.2.2.1,s0.1⟩)).eqn) λg e=>.ne (λk=>?_) λk=>?_
  ·have:=J2.1 s0.1;exact .some ⟨(⟨fk0,s0.2.1,s0.2.2.1,e.1.2⟩),om⟩
  ·have j:=J6s (x:=(x1.2.1,x1.2.2.1,x1.1)) (⟨s0.2.1,s0.2.2.1,s0.1⟩) e.2 k;have:=J2.1 s0.1;have:=J2.1 e.1.1;have:1<=x1.1/\x1.1<=8/\0<=x1.2.2.1/\x1.2.2.1<=J0 x1.2.1/\x1.1<=J0 x1.2.1-x1.2.2.1/\(x1.1<=4->0<=g.1/\g.1<=4294967295)/\(x1.1=1->g.1<=255)/\(x1.1=2->g.1<=65535):=j.1;have:=Jh x1.2.2.1 x1.1;exact .some ⟨(⟨e.1.1,s0.2.1,J5,s0.2.2.2⟩),om⟩
theorem Jaw{B S:Int}{x1:J0x}(h:Ty.fit B S Jx x1)(p0:0<=x1.2.1)(v:x1.2.1<=J0 x1.1)(r:BS B S 0 0:=by omega)(w:S<=9223372036854775807:=by omega):Tot (J3x x1) λy=>Ty.fit 0 S (.pr JE Jx) y/\(0<=y.2.2.1/\y.2.2.1<=J0 y.2.1):=by
 unfold J3x;refine .bind (J0Y (B:=0) (S:=S) (⟨fkn 1,h.z⟩) om om) λj h4=>?_;have:=J2.1 h4.1.c.1;have:=J2.1 h4.1.1;have:0<=j.2.2.1/\j.2.2.1<=J0 j.2.1/\0<=j.1/\j.1<=255:=⟨h4.2.1,h4.c.1,(h4.d.1 (show(1:Int)<=4 by decide)).1,h4.e rfl⟩;refine .nef (λo=>?_) λo=>?_
 ·refine .eq (λn=>?_) λn=>?_
  ·exact .some ⟨(⟨⟨trivial,Jc⟩,h4.1.2⟩),om⟩
  ·refine .gt (λq=>?_) λq=>?_
   ·exact .some ⟨(⟨⟨trivial,Jc⟩,h4.1.2.1,h4.1.c.1,fkn 4⟩),om⟩
   ·refine .bind (J9C (B:=0) (S:=S) (h4.1) om om om om) λk g=>?_;have:0<=k.2.2.1/\k.2.2.1<=J0 k.2.1:=g.2;exact .some ⟨(⟨⟨trivial,g.1.1⟩,g.1.2⟩),om⟩
 ·exact .some ⟨(⟨⟨trivial,Jc⟩,h4.1.2⟩),om⟩
theorem Jum{B S:Int}{x1:List UInt8}(h:Ty.fit B S .s x1)(W:BS B S 0 0:=by omega)(Y:S<=9223372036854775807:=by omega):Tot (J7G x1) λy=>Ty.fit 0 8192 JMx y:=by
 unfold J7G;have:=J3 (l:=x1);refine .bind (J0Y (B:=0) (S:=S) (⟨fkn 8,h.z,fzr⟩) om om) λO h1=>?_;have:=J2.1 h1.1.c.1;refine .bind (J0Y (B:=0) (S:=S) (⟨fkn 1,h1.1.2⟩) om om) λI F=>?_;have:=J2.1 F.1.c.1;refine .bind (J0Y (B:=0) (S:=S) (⟨fkn 4,F.1.2⟩) om om) λN k=>?_;have:=J2.1 k.1.c.1;refine .bind (J0Y (B:=0) (S:=S) (⟨fkn 8,k.1.2⟩) om om) λK q=>?_;have:=J2.1 q.1.c.1;refine .bind (J0Y (B:=0) (S:=S) (⟨fkn 8,q.1.2⟩) om om) λL n=>?_;have:=J2.1 n.1.c.1;refine .bind (J0Y (B:=0) (S:=S) (⟨fkn 8,n.1.2⟩) om om) λH o=>?_;have:=J2.1 o.1.c.1;refine .bind (J0Y (B:=0) (S:=S) (⟨fkn 4,o.1.2⟩) om om) λJ j=>?_;have:=J2.1 j.1.c.1;refine .bind (J0Y (B:=0) (S:=S) (⟨fkn 1,j.1.2⟩) om om) λM v=>?_;have:=J2.1 v.1.c.1;refine .bind (Jaw v.1.2 om om) λA r=>?_;have:=J2.1 r.1.c.1;refine .bind (Jaw r.1.2 om om) λE w=>?_;have:=J2.1 w.1.c.1;refine .bind (J0Y (B:=0) (S:=S) (⟨fkn 4,w.1.2⟩) om om) λg e=>?_;have:=J2.1 e.1.c.1;have:=J2.1 e.1.1;have:0<=g.2.2.1/\g.2.2.1<=J0 g.2.1/\0<=g.1/\g.1<=4294967295:=⟨e.2.1,e.c.1,e.d.1 (show(4:Int)<=4 by decide)⟩;refine .bind (J9C (B:=0) (S:=S) (e.1) om om om om) λC D=>.ne (λP=>?_) λP=>?_
 ·exact .some (⟨⟨fk0,fk0,fk0,fk0,fk0,fk0,⟨fk0,fk0,⟨trivial,Jc⟩,trivial,Jc⟩,Jc⟩,D.1.d⟩)
 ·refine .ne (λT=>?_) λT=>?_
  ·exact .some (⟨⟨fk0,fk0,fk0,fk0,fk0,fk0,⟨fk0,fk0,⟨trivial,Jc⟩,trivial,Jc⟩,Jc⟩,fkn 4⟩)
  ·refine .bind ((J2n (B:=0) (S:=S) (x1:=(O.1,I.1,N.1,K.1,L.1,H.1,(J.1,M.1,A.1,E.1),C.1)) (⟨h1.1.1,F.1.1,k.1.1,q.1.1,n.1.1,o.1.1,⟨j.1.1,v.1.1,r.1.1,w.1.1⟩,D.1.1⟩)).eqn) λV R=>.not (λG=>?_) λG=>?_
   ·exact .some (⟨⟨fk0,fk0,fk0,fk0,fk0,fk0,⟨fk0,fk0,⟨trivial,Jc⟩,trivial,Jc⟩,Jc⟩,fkn 12⟩)
   ·have U:=J22 (x:=(O.1,I.1,N.1,K.1,L.1,H.1,(J.1,M.1,A.1,E.1),C.1)) (⟨h1.1.1,F.1.1,k.1.1,q.1.1,n.1.1,o.1.1,⟨j.1.1,v.1.1,r.1.1,w.1.1⟩,D.1.1⟩) R.2 G;have Q:Ty.fit 0 8192 J4 (O.1,I.1,N.1,K.1,L.1,H.1,(J.1,M.1,A.1,E.1),C.1):=U.2;exact .some (⟨Q,fk0⟩)
theorem Jzj{B S:Int}{x1:List UInt8}(h:Ty.fit B S .s x1)(V:BS B S 0 0:=by omega)(Z:S<=9223372036854775807:=by omega):Tot (Jai x1) λy=>Ty.fit 4096 8192 tq8 y:=by
 unfold Jai;have s0:Ty.fit 0 S .s x1:=h;refine .bind (Jfk (B:=0) (S:=S) (⟨s0,fk0⟩)) λo h1=>?_;have:=J2.1 h1.1.2.1;have:o.2.2=0->0<=o.2.1/\o.2.1<=J0 x1/\J0 o.1<=8392:=h1.2;refine .nef (λO=>?_) λO=>?_
 ·refine .nef (λG=>?_) λG=>?_
  ·refine .bind (Jd3 h1.1.1) λY U=>.ite (λF=>?_) λF=>?_
   ·exact .some (⟨fzr,fkn 4⟩)
   ·refine .bind ((J15 (B:=0) (S:=S) (x1:=(o.1,4,8)) (⟨h1.1.1,fkn 4,fkn 8⟩)).eqn) λH j=>.ltf (λM=>?_) λM=>?_
    ·refine .gt (λL=>?_) λL=>?_
     ·exact .some (⟨fzr,fkn 4⟩)
     ·refine Jd (τ:=Int×(List T_api_Entry)×Int) (λq=>(x1,q.1,[],0,0,q.2.1,[],H.1,q.2.2)) (λq=>Ty.fit 0 0 (.i .i64) q.1/\Ty.fit 4096 8192 (.l J4) q.2.1/\Ty.fit 0 0 (.i .i64) q.2.2/\(J0 q.2.1<=4096)/\(0<=q.1)/\(q.1<=J0 x1)) (λq=>4096-J0 q.2.1) ?_ (o.2.1,[],JF .i64 H.1 1) rfl ?_
      ·rintro⟨Q,g,P⟩ z;dsimp only at z;obtain⟨K,e,n,R,T,W⟩:=z;unfold JgF
       try dsimp only
       have:=J3 (l:=g);have:J0 g=_:=Jj e;refine .lt (λC=>?_) λC=>?_
       ·refine .bind (Jfk (B:=0) (S:=S) (⟨s0,K⟩)) λr k=>?_;have:=J2.1 k.1.2.1;have:r.2.2=0->0<=r.2.1/\r.2.1<=J0 x1/\J0 r.1<=8392:=k.2;refine .ne (λD=>?_) λD=>?_
        ·exact .some (⟨⟨j.1.1,e,n⟩,fk0⟩)
        ·refine .bind (Jum k.1.1) λN v=>.nef (λJ=>?_) λJ=>?_
         ·have:=J2.1 v.1.1;refine .ne (λE=>?_) λE=>?_
          ·exact .some (⟨⟨j.1.1,e,n⟩,fk0⟩)
          ·refine .bind (J0n (B:=4097) (Bl:=4096) (Bm:=1) (S:=8192) (J0 g) 1 e (J0d (B:=1) (S:=8192) (t:=J4) oo v.1.u)) λw A=>?_;have:J0 w=_:=Jj A.1;have I:Ty.fit 4096 8192 (.l J4) w:=⟨(by omega:J0 w<=4096),λx hx=>A.1.2 x hx⟩;exact .some ⟨(r.2.1,w,N.1.1),rfl,⟨k.1.2.1,I,v.1.1,om,om,om⟩,om,om⟩
         ·exact .some (⟨⟨j.1.1,e,n⟩,fk0⟩)
       ·exact .some (⟨⟨j.1.1,e,n⟩,fk0⟩)
      ·try dsimp only
       exact⟨h1.1.2.1,Ja,J1O,om,om,om⟩
    ·exact .some (⟨fzr,fkn 4⟩)
  ·exact .some (⟨fzr,fkn 4⟩)
 ·exact .some (⟨fzr,fkn 4⟩)
theorem JCU{B S:Int}{x1:JuK}(h:Ty.fit B S JJ3 x1)(j:BS B S 0 0:=by omega):Tot (Jaa x1) λy=>Ty.fit 0 0 .b y:=by
 unfold Jaa;refine .ne (λg=>?_) λg=>?_
 ·exact .some trivial
 ·have:=J2.1 h.1.2.1.2;refine .ne (λe=>?_) λe=>?_
  ·exact .some trivial
  ·exact .some trivial
theorem Jzt{B S:Int}{x1:JHD}(h:Ty.fit B S (.pr (.l J8) J8) x1)(ac:BS B S 0 0:=by omega)(hB:B<=17179869183:=by omega):Tot (Ja6 x1) λy=>Ty.fit (2*B+1) S (.l J8) y/\(J0 y<=J0 x1.1+1):=by
 unfold Ja6;have:J0 x1.1<=B:=h.1.1;have:=J3 (l:=x1.1);have:J0 x1.1=_:=Jj h.1;refine Jd (τ:=Int) (λq=>(x1.1,q,x1.2)) (λq=>(Ty.fit 0 0 (.i .i64) q/\0<=q/\(q<=J0 x1.1\/q<=0))) (λq=>J0 x1.1-q) ?_ 0 rfl ?_
 ·rintro n ⟨i4,w5,z6⟩;unfold JhC
  try dsimp only
  have:=J2.1 i4;refine .lt (λc7=>?_) λc7=>?_
  ·refine .bind (Ji h.1) λy3 O=>.bind (JCU (B:=0) (S:=0) (⟨O.1,h.2⟩)) λy4 a5=>.ite (λM=>?_) λM=>?_
   ·have:=Jh n 1;exact .some ⟨J1 .i64 n 1,rfl,⟨J5,om,om⟩,om,om⟩
   ·refine .inr ?_;refine .lt (λa2=>?_) λa2=>?_
    ·refine .bind (Ji h.1) λy5 a6=>.ite (λE=>?_) λE=>?_
     ·have aa:=J1D.1 E;exact .some ⟨h.1.u,om⟩
     ·refine .bind (J5p h.1) λG e=>.clo e.1 oo (by decide) ?_;have:J0 G<=B:=e.1.1;have:J0 G=_:=Jj e.1;refine .bind (J0n (B:=(B+1)) (Bl:=B) (Bm:=1) (S:=S) (J0 G) 1 e.1 ((J0d (B:=1) (S:=0) (t:=J8) oo h.2).u)) λR F=>.bind (J35 h.1) λH k=>?_;have:J0 R=_:=Jj F.1;have:J0 H<=B:=k.1.1;have:J0 H=_:=Jj k.1;refine .bind (J0n (B:=(2*B+1)) (Bl:=(B+1)) (Bm:=B) (S:=S) (J0 R) (J0 H) F.1 k.1) λK v=>?_;have:J0 K=_:=Jj v.1;exact .some ⟨v.1,om⟩
    ·refine .bind (J5p h.1) λZ A=>.clo A.1 oo (by decide) ?_;refine .bind (J0n (B:=(B+1)) (Bl:=B) (Bm:=1) (S:=S) (J0 Z) 1 A.1 ((J0d (B:=1) (S:=0) (t:=J8) oo h.2).u)) λL a1=>.bind (J35 h.1) λW Y=>.bind (J0n (B:=(2*B+1)) (Bl:=(B+1)) (Bm:=B) (S:=S) (J0 L) (J0 W) a1.1 Y.1) λa8 V=>.some ⟨V.1,om⟩
  ·refine .inr ?_;refine .lt (λN=>?_) λN=>?_
   ·refine .bind (Ji h.1) λab a9=>.ite (λz=>?_) λz=>?_
    ·have ad:=J1D.1 z;exact .some ⟨h.1.u,om⟩
    ·refine .bind (J5p h.1) λQ C=>.clo C.1 oo (by decide) ?_;refine .bind (J0n (B:=(B+1)) (Bl:=B) (Bm:=1) (S:=S) (J0 Q) 1 C.1 ((J0d (B:=1) (S:=0) (t:=J8) oo h.2).u)) λU a0=>.bind (J35 h.1) λT I=>.bind (J0n (B:=(2*B+1)) (Bl:=(B+1)) (Bm:=B) (S:=S) (J0 U) (J0 T) a0.1 I.1) λa7 J=>.some ⟨J.1,om⟩
   ·refine .bind (J5p h.1) λo g=>.clo g.1 oo (by decide) ?_;have:J0 o<=B:=g.1.1;have:J0 o=_:=Jj g.1;refine .bind (J0n (B:=(B+1)) (Bl:=B) (Bm:=1) (S:=S) (J0 o) 1 g.1 ((J0d (B:=1) (S:=0) (t:=J8) oo h.2).u)) λr D=>.bind (J35 h.1) λj x=>?_;have:J0 r=_:=Jj D.1;have:=J3 (l:=j);have:J0 j=_:=Jj x.1;refine .bind (J0n (B:=(2*B+1)) (Bl:=(B+1)) (Bm:=B) (S:=S) (J0 r) (J0 j) D.1 x.1) λP w=>?_;have:J0 P=_:=Jj w.1;exact .some ⟨w.1,om⟩
 ·try dsimp only
  exact⟨fk0,oo,oo⟩
section
variable {B S:Int}
theorem JxZ{x1:J04×List Js}(h:Ty.fit B S (.pr JQ (.l Jl)) x1)(J:BH B S:=by omega)(C:B<=20000:=by omega):Tot (J8u x1) λy=>Ty.fit 400000001 0 (.pr (.l J8) (.i .i64)) y:=by
 obtain⟨l,e⟩:=x1;obtain⟨hl,v⟩:=h;unfold J8u;dsimp only;have:J0 e<=20000:=JcS v.1 C;have E:=J3 (l:=e);refine Jd (τ:=JBH) (λq=>(e,q.1,q.2,l)) (λq=>0<=q.2/\q.2<=J0 e/\Ty.fit 400000001 0 (.l J8) q.1/\J0 q.1<=20000*q.2) (λq=>J0 e-q.2) ?_ ([],0) rfl ⟨J0G _,E,Ja,by show(0:Int)<=20000*0;omega⟩;rintro⟨out,i⟩ ⟨r,h1,h2,h3⟩;dsimp only at r h1 h2 h3;unfold Jg9;dsimp only;have a1:=Jh i 1;refine .lt (λc=>?_) λc=>.some ⟨h2,fk0⟩;have n:i.toNat<e.length:=by unfold J0 at c;omega
 have x:idx e i=some e[i.toNat]:=by unfold idx;rw[if_pos r,JD n]
 have hx:=v.2 _ (JdZ n);generalize e[i.toNat]=t at x hx;have:J0 t.2.2.2.2.1<=20000:=JcS hx.2.2.2.2.1.1 C;refine Jd (τ:=JBH) (λq=>(e,q.1,i,q.2,l)) (λq=>0<=q.2/\q.2<=J0 t.2.2.2.2.1/\Ty.fit 400000001 0 (.l J8) q.1/\J0 q.1<=20000*i+q.2) (λq=>J0 t.2.2.2.2.1-q.2) ?_ (out,0) rfl ⟨J0G _,J3,h2,by show J0 out<=20000*i+0;omega⟩;rintro⟨out,k⟩ ⟨w,g1,g2,H⟩;dsimp only at w g1 g2 H;unfold Jet;dsimp only;rw[x];have a2:=Jh k 1;show Tot (if ltI k (J0 t.2.2.2.2.1)=true then _ else _) _;refine .lt (λz=>?_) λz=>.some ⟨(out,J1 .i64 i 1),rfl,⟨by show 0<=J1 .i64 i 1;omega,by show J1 .i64 i 1<=J0 e;omega,g2,by show J0 out<=20000*J1 .i64 i 1;omega⟩,by show J0 e-J1 .i64 i 1<J0 e-i;omega,oo⟩;show Tot ((idx t.2.2.2.2.1 k).bind _) _;refine .bind (Ji hx.2.2.2.2.1 w z) λF G=>.bind (J3E (x1:=(l,F)) ⟨hl,G.1⟩) λg o=>.ne (λ_=>.inr (.some ⟨Ja,fkn 14⟩)) λ_=>.nef (λ_=>?_) λ_=>.inr (.some ⟨Ja,fkn 13⟩);show Tot (if neI g.1.2.2.1 t.1=true then _ else _) _;refine .ne (λ_=>.inr (.some ⟨Ja,fkn 13⟩)) λ_=>?_;have D:Ty.fit 0 0 J8 (g.1.2.2.1,(g.1.2.2.2.2.2.2.1.1,g.1.2.2.2.2.2.2.1.2.1),2):=⟨o.1.2.2.1,⟨o.1.2.2.2.2.2.2.1.1,o.1.2.2.2.2.2.2.1.2.1⟩,fkn 2⟩;have:=J3 (l:=out);refine .bind (Jzt (B:=J0 out) (S:=0) (x1:=(out,g.1.2.2.1,(g.1.2.2.2.2.2.2.1.1,g.1.2.2.2.2.2.2.1.2.1),2)) ⟨⟨J0G _,g2.2⟩,D⟩) λj A=>?_;have I:J0 j<=J0 out+1:=A.2;exact .some ⟨(j,J1 .i64 k 1),rfl,⟨by show 0<=J1 .i64 k 1;omega,by show J1 .i64 k 1<=J0 t.2.2.2.2.1;omega,⟨by show J0 j<=400000001;omega,A.1.2⟩,by show J0 j<=20000*i+J1 .i64 k 1;omega⟩,by show J0 t.2.2.2.2.1-J1 .i64 k 1<J0 t.2.2.2.2.1-k;omega,oo⟩
end
theorem JuD{B S:Int}{x1:List UInt8}(h:Ty.fit B S .s x1)(N:BS B S 0 0:=by omega)(T:S<=9223372036854775807:=by omega):Tot (J7p x1) λy=>Ty.fit 64 0 JHi y:=by
 unfold J7p;have s0:Ty.fit 0 S .s x1:=h;refine .bind ((J15 (B:=0) (S:=S) (x1:=(x1,0,2)) (⟨s0,fk0,fkn 2⟩)).eqn) λk h1=>.nef (λF=>?_) λF=>?_
 ·have v4:=J6s (x:=(x1,0,2)) (⟨s0,fk0,fkn 2⟩) h1.2 F;have:=J2.1 h1.1.1;have:1<=(2:Int)/\(2:Int)<=8/\0<=(0:Int)/\(0:Int)<=J0 x1/\(2:Int)<=J0 x1-(0:Int)/\((2:Int)<=4->0<=k.1/\k.1<=4294967295)/\((2:Int)=1->k.1<=255)/\((2:Int)=2->k.1<=65535):=v4.1;have:=JK2 24 k.1;refine .lt (λJ=>?_) λJ=>?_
  ·exact .some (⟨Ja,fkn 5⟩)
  ·refine .gt (λv=>?_) λv=>?_
   ·exact .some (⟨Ja,fkn 4⟩)
   ·refine Jd (τ:=Jey) (λq=>(x1,k.1,q.1,[],q.2)) (λq=>(Ty.fit 0 0 (.i .i64) q.1/\0<=q.1/\(q.1<=k.1\/q.1<=0))/\(Ty.fit 65535 0 (.l Jb) q.2/\J0 q.2<=1*q.1+0)) (λq=>k.1-q.1) ?_ (0,[]) rfl ?_
    ·rintro⟨e,g⟩ n;dsimp only at n;obtain⟨⟨D,M,L⟩,j,K⟩:=n;unfold JcZ
     try dsimp only
     have:=J2.1 D;refine .lt (λI=>?_) λI=>?_
     ·refine .bind ((J15 (B:=0) (S:=S) (x1:=(x1,J1 .i64 2 (J32 .i64 24 e),8)) (⟨s0,J5,fkn 8⟩)).eqn) λR G=>.bind ((J15 (B:=0) (S:=S) (x1:=(x1,J1 .i64 10 (J32 .i64 24 e),8)) (⟨s0,J5,fkn 8⟩)).eqn) λP E=>.bind ((J15 (B:=0) (S:=S) (x1:=(x1,J1 .i64 18 (J32 .i64 24 e),8)) (⟨s0,J5,fkn 8⟩)).eqn) λQ z=>?_;have:J0 g<=65535:=j.1;have:=J3 (l:=g);have:J0 g=_:=Jj j;refine .bind (J0n (B:=65535) (Bl:=65535) (Bm:=1) (S:=0) (J0 g) 1 j (J0d (B:=1) (S:=0) (t:=Jb) oo (⟨G.1.1,E.1.1,z.1.1⟩))) λw r=>?_;have:=Jh e 1;have:J0 w=_:=Jj r.1;exact .some ⟨(J1 .i64 e 1,w),rfl,⟨⟨J5,om,om⟩,r.1,om⟩,om,om⟩
     ·refine .inr ?_;refine .bind ((J4Y j).eqn) λO C=>.not (λo=>?_) λo=>?_
      ·exact .some (⟨Ja,fkn 28⟩)
      ·have A:=J46 j C.2 o;have H:Ty.fit 64 0 (.l Jb) g:=A.2;exact .some (⟨H,fk0⟩)
    ·have:J0 ([]:List T_api_Row)=0:=rfl
     try dsimp only
     exact⟨⟨fk0,oo,oo⟩,Ja,oo⟩
 ·exact .some (⟨Ja,fkn 5⟩)
theorem J1Q{B S:Int}{x1:JBS}(h:Ty.fit B S JBP x1)(p0:0<=x1.2.2.1)(o:x1.2.2.1<=J0 x1.2.1)(n:BS B S 0 0:=by omega)(q:S<=9223372036854775807:=by omega):Tot (J0X x1) λy=>Ty.fit 0 S JBP y/\(0<=y.2.2.1/\y.2.2.1<=J0 y.2.1/\(x1.1<=4->0<=y.1/\y.1<=4294967295)/\(x1.1=1->y.1<=255)/\(x1.1=2->y.1<=65535)):=by
 unfold J0X;have s0:Ty.fit 0 S JBP x1:=h;have:=J2.1 s0.2.2.1;have:J0 x1.2.1<=S:=s0.2.1;refine .bind ((J15 (B:=0) (S:=S) (x1:=(x1.2.1,x1.2.2.1,x1.1)) (⟨s0.2.1,s0.2.2.1,s0.1⟩)).eqn) λe h4=>.itf (λj=>?_) λj=>?_
 ·have:=J2.1 h4.1.2;refine .ne (λg=>?_) λg=>?_
  ·have:=J2.1 s0.1;exact .some ⟨(⟨fk0,s0.2.1,s0.2.2.1,trivial⟩),om⟩
  ·have k:=J6s (x:=(x1.2.1,x1.2.2.1,x1.1)) (⟨s0.2.1,s0.2.2.1,s0.1⟩) h4.2 g;have:=J2.1 s0.1;have:=J2.1 h4.1.1;have:1<=x1.1/\x1.1<=8/\0<=x1.2.2.1/\x1.2.2.1<=J0 x1.2.1/\x1.1<=J0 x1.2.1-x1.2.2.1/\(x1.1<=4->0<=e.1/\e.1<=4294967295)/\(x1.1=1->e.1<=255)/\(x1.1=2->e.1<=65535):=k.1;have:=Jh x1.2.2.1 x1.1;exact .some ⟨(⟨h4.1.1,s0.2.1,J5,trivial⟩),om⟩
 ·have:=J2.1 s0.1;exact .some ⟨(⟨fk0,s0.2.1,s0.2.2.1,trivial⟩),om⟩
theorem Jas{B S:Int}{x1:JBS}(h:Ty.fit B S JBP x1)(p0:1<=x1.1)(O:x1.1<=2)(N:0<=x1.2.2.1)(M:x1.2.2.1<=J0 x1.2.1)(K:BS B S 0 0:=by omega)(P:S<=9223372036854775807:=by omega):Tot (J3w x1) λy=>Ty.fit 65535 S (.pr (.l (.i .i64)) J0o) y/\(0<=y.2.2.1/\y.2.2.1<=J0 y.2.1):=by
 unfold J3w;have s0:Ty.fit 0 S JBP x1:=h;refine .bind (J1Q (B:=0) (S:=S) (s0) om om) λe h5=>?_;have:=J2.1 h5.1.c.1;have:=J2.1 h5.1.1;have:0<=e.2.2.1/\e.2.2.1<=J0 e.2.1/\(x1.1<=4->0<=e.1/\e.1<=4294967295)/\(x1.1=1->e.1<=255)/\(x1.1=2->e.1<=65535):=h5.2;refine Jd (τ:=JJr) (λq=>(q.1,q.2.1,q.2.2)) (λq=>Ty.fit 0 0 (.i .i64) q.1/\Ty.fit 0 S J0o q.2.1/\Ty.fit 65535 0 (.l (.i .i64)) q.2.2/\(J0 q.2.2+q.1<=65535)/\(0<=q.1)/\(J0 q.2.2<=65535)/\(0<=q.2.1.2.1)/\(q.2.1.2.1<=J0 q.2.1.1)) (λq=>q.1) ?_ (e.1,e.2,[]) rfl ?_
 ·rintro⟨o,E,n⟩ r;dsimp only at r;obtain⟨D,g,k,J,I,L,G,H⟩:=r;unfold J9k
  try dsimp only
  have:=J3 (l:=n);have:=J2.1 D;have:=J2.1 g.2.1;refine .gt (λz=>?_) λz=>?_
  ·refine .not (λA=>?_) λA=>?_
   ·refine .bind (J1Q (B:=0) (S:=S) (⟨fkn 8,g⟩) om om) λF j=>?_;have:=J2.1 j.1.c.1;refine .bind (J0n (B:=65536) (Bl:=65535) (Bm:=1) (S:=0) (J0 n) 1 k (J0d (B:=1) (S:=0) (t:=(.i .i64)) oo j.1.1)) λv C=>?_;have w:Ty.fit 65535 0 (.l (.i .i64)) v:=⟨(by omega:J0 v<=65535),λx hx=>C.1.2 x hx⟩;have:=J0E o 1;exact .some ⟨(JF .i64 o 1,F.2,v),rfl,⟨J1O,j.1.2,w,om,om,om,om,om⟩,om,om⟩
   ·exact .some ⟨(⟨k.u,g.u⟩),om⟩
  ·exact .some ⟨(⟨k.u,g.u⟩),om⟩
 ·try dsimp only
  exact⟨h5.1.1,h5.1.2,Ja,om,om,om,om,om⟩
theorem Jtp{B S:Int}{x1:List UInt8}(h:Ty.fit B S .s x1)(a3:BS B S 0 0:=by omega)(hS:S<=9223372036854775807:=by omega):Tot (J7F x1) λy=>Ty.fit 4096 0 tq2 y:=by
 unfold J7F;have:=J3 (l:=x1);refine .bind (J1Q (B:=0) (S:=S) (⟨fkn 2,h.z,fk0,trivial⟩) om om) λk h1=>?_;have:=J2.1 h1.1.c.1;have:=J2.1 h1.1.1;have:0<=k.2.2.1/\k.2.2.1<=J0 k.2.1/\0<=k.1/\k.1<=65535:=⟨h1.2.1,h1.c.1,(h1.d.1 (show(2:Int)<=4 by decide)).1,h1.g rfl⟩;refine Jd (τ:=Int×J2b×(List Js)) (λq=>(x1,q.1,q.2.1,q.2.2)) (λq=>Ty.fit 0 0 (.i .i64) q.1/\Ty.fit 0 S J0o q.2.1/\Ty.fit 65535 S (.l Jl) q.2.2/\(J0 q.2.2+q.1<=65535)/\(J0 q.2.2<=65535)/\(0<=q.2.1.2.1)/\(q.2.1.2.1<=J0 q.2.1.1)/\(0<=q.1)) (λq=>q.1) ?_ (k.1,k.2,[]) rfl ?_
 ·rintro⟨r,V,e⟩ E;dsimp only at E;obtain⟨W,K,j,a1,Z,a2,a0,a5⟩:=E;unfold JcY
  try dsimp only
  have:=J3 (l:=e);have:J0 e=_:=Jj j;have:=J2.1 W;refine .gt (λN=>?_) λN=>?_
  ·refine .not (λI=>?_) λI=>?_
   ·refine .bind (J1Q (B:=0) (S:=S) (⟨fkn 4,K⟩) om om) λy4 x=>?_;have:=J2.1 x.1.c.1;refine .bind (J1Q (B:=0) (S:=S) (⟨fkn 1,x.1.2⟩) om om) λy5 A=>?_;have:=J2.1 A.1.c.1;refine .bind (J1Q (B:=0) (S:=S) (⟨fkn 8,A.1.2⟩) om om) λy6 C=>?_;have:=J2.1 C.1.c.1;refine .bind (J1Q (B:=0) (S:=S) (⟨fkn 8,C.1.2⟩) om om) λy7 v=>?_;have:=J2.1 v.1.c.1;refine .bind (Jas (B:=0) (S:=S) (⟨fkn 2,v.1.2⟩) om om om om) λy8 w=>?_;have:=J2.1 w.1.2.z.2.1;refine .bind (Jas (B:=0) (S:=S) (⟨fkn 1,w.1.2.z⟩) om om om om) λY D=>?_;have:=J2.1 D.1.2.z.2.1;refine .bind (J0n (B:=65535) (Bl:=65535) (Bm:=65535) (S:=S) (J0 e) 1 j (J0d (B:=65535) (S:=S) (t:=Jl) oo (⟨x.1.1,A.1.1,C.1.1,v.1.1,w.1.1,D.1.1⟩))) λn o=>?_;have:J0 n<=65535:=o.1.1;have:=J3 (l:=n);have:J0 n=_:=Jj o.1;have:=J0E r 1;exact .some ⟨(JF .i64 r 1,Y.2,n),rfl,⟨J1O,D.1.2.z,o.1,om,om,om,om,om⟩,om,om⟩
   ·refine .inr ?_;refine .ite (λR=>?_) λR=>?_
    ·exact .some (⟨Ja,fkn 5⟩)
    ·refine .ne (λM=>?_) λM=>?_
     ·exact .some (⟨Ja,fkn 4⟩)
     ·refine .bind ((J3m j).eqn) λa6 T=>.not (λF=>?_) λF=>?_
      ·exact .some (⟨Ja,fkn 15⟩)
      ·have O:=J2m j T.2 F;have Q:Ty.fit 4096 0 (.l Jl) e:=O.2;exact .some (⟨Q,fk0⟩)
  ·refine .inr ?_;refine .ite (λP=>?_) λP=>?_
   ·exact .some (⟨Ja,fkn 5⟩)
   ·refine .ne (λJ=>?_) λJ=>?_
    ·exact .some (⟨Ja,fkn 4⟩)
    ·refine .bind ((J3m j).eqn) λa4 U=>.not (λG=>?_) λG=>?_
     ·exact .some (⟨Ja,fkn 15⟩)
     ·have L:=J2m j U.2 G;have H:Ty.fit 4096 0 (.l Jl) e:=L.2;exact .some (⟨H,fk0⟩)
 ·try dsimp only
  exact⟨h1.1.1,h1.1.2,Ja,om,om,om,om,om⟩
theorem Jvd{B S:Int}{x1:List UInt8}(h:Ty.fit B S .s x1)(ad:BH B S:=by omega)(hS:S<=9223372036854775807:=by omega):Tot (J7q x1) λy=>Ty.fit 4096 0 (.pr J11 (.i .i64)) y:=by
 unfold J7q;have s0:Ty.fit 0 S .s x1:=h;refine .bind ((J15 (B:=0) (S:=S) (x1:=(x1,0,2)) (⟨s0,fk0,fkn 2⟩)).eqn) λy2 h1=>.bind ((J15 (B:=0) (S:=S) (x1:=(x1,2,4)) (⟨s0,fkn 2,fkn 4⟩)).eqn) λJ h2=>.bind ((J15 (B:=0) (S:=S) (x1:=(x1,6,4)) (⟨s0,fkn 6,fkn 4⟩)).eqn) λg h3=>.nef (λO=>?_) λO=>?_
 ·have v6:=J6s (x:=(x1,6,4)) (⟨s0,fkn 6,fkn 4⟩) h3.2 O;have:J0 x1<=S:=s0;have:=J2.1 h3.1.1;have:1<=(4:Int)/\(4:Int)<=8/\0<=(6:Int)/\(6:Int)<=J0 x1/\(4:Int)<=J0 x1-(6:Int)/\((4:Int)<=4->0<=g.1/\g.1<=4294967295)/\((4:Int)=1->g.1<=255)/\((4:Int)=2->g.1<=65535):=v6.1;have:=JtT (J0 x1) 10;refine .gt (λK=>?_) λK=>?_
  ·exact .some (⟨fzr,fkn 5⟩)
  ·have:=Jed 10 g.1;refine .bind (Jdb s0) λN F=>?_;have L:Ty.fit 0 S .s N:=F.1;refine .bind ((J15 (B:=0) (S:=S) (x1:=(x1,J1 .i64 10 g.1,1)) (⟨s0,J5,fkn 1⟩)).eqn) λk A=>.nef (λz=>?_) λz=>?_
   ·have M:=J6s (x:=(x1,J1 .i64 10 g.1,1)) (⟨s0,J5,fkn 1⟩) A.2 z;have:=J2.1 A.1.1;have:1<=(1:Int)/\(1:Int)<=8/\0<=(J1 .i64 10 g.1)/\(J1 .i64 10 g.1)<=J0 x1/\(1:Int)<=J0 x1-(J1 .i64 10 g.1)/\((1:Int)<=4->0<=k.1/\k.1<=4294967295)/\((1:Int)=1->k.1<=255)/\((1:Int)=2->k.1<=65535):=M.1;have:=JtT (J0 x1) (J1 .i64 10 g.1);have:=JtT (JF .i64 (J0 x1) (J1 .i64 10 g.1)) 1;have:=JK2 17 k.1;refine .lt (λY=>?_) λY=>?_
    ·exact .some (⟨fzr,fkn 5⟩)
    ·refine Jd (τ:=Int×Int×(List T_api_Row)) (λq=>(x1,N,q.1,k.1,q.2.1,[],0,0,[],[],q.2.2,y2.1,J.1,[],[])) (λq=>Ty.fit 0 0 (.i .i64) q.1/\Ty.fit 0 0 (.i .i64) q.2.1/\Ty.fit 255 0 (.l Jb) q.2.2/\(0<=q.2.1)/\(q.2.1<=k.1)/\(q.1+17*(k.1-q.2.1)<=J0 x1)/\(0<=q.1)/\(J0 q.2.2<=q.2.1)) (λq=>k.1-q.2.1) ?_ (J1 .i64 (J1 .i64 10 g.1) 1,0,[]) rfl ?_
     ·rintro⟨j,r,e⟩ E;dsimp only at E;obtain⟨C,H,n,a9,ae,ac,ab,a8⟩:=E;unfold Je9
      try dsimp only
      have:=J2.1 H;have:=J2.1 C;have:J0 e<=255:=n.1;have:=J3 (l:=e);have:J0 e=_:=Jj n;refine .lt (λG=>?_) λG=>?_
      ·refine .bind ((J15 (B:=0) (S:=S) (x1:=(x1,j,1)) (⟨s0,C,fkn 1⟩)).eqn) λy8 Z=>.bind ((J15 (B:=0) (S:=S) (x1:=(x1,J1 .i64 j 1,8)) (⟨s0,J5,fkn 8⟩)).eqn) λy9 R=>.bind ((J15 (B:=0) (S:=S) (x1:=(x1,J1 .i64 j 9,8)) (⟨s0,J5,fkn 8⟩)).eqn) λa6 V=>.bind (J0n (B:=256) (Bl:=255) (Bm:=1) (S:=0) (J0 e) 1 n (J0d (B:=1) (S:=0) (t:=Jb) oo (⟨Z.1.1,R.1.1,V.1.1⟩))) λo D=>?_;have:J0 o=_:=Jj D.1;have a2:Ty.fit 255 0 (.l Jb) o:=⟨(by omega:J0 o<=255),λx hx=>D.1.2 x hx⟩;have:=Jed r 1;have:=Jed j 17;exact .some ⟨(J1 .i64 j 17,J1 .i64 r 1,o),rfl,⟨J5,J5,a2,om,om,om,om,om⟩,om,om⟩
      ·refine .inr ?_;refine .bind (Jtp L) λW w=>.ne (λT=>?_) λT=>?_
       ·exact .some (⟨fzr,w.2⟩)
       ·refine .bind (JCw s0) λI P=>?_;have Q:Ty.fit 0 S .s I:=P.1;refine .bind (JuD Q) λU v=>.ne (λa0=>?_) λa0=>?_
        ·exact .some (⟨fzr,v.2⟩)
        ·have a1:Ty.fit 16384 1073741824 J11 (y2.1,J.1,W.1,e,U.1):=⟨h1.1.1,h2.1.1,w.1.u,n.u,v.1.u⟩;refine .bind (JlT a1) λaa a7=>.not (λa3=>?_) λa3=>?_
         ·exact .some (⟨fzr,fkn 24⟩)
         ·exact .some (⟨⟨h1.1.1,h2.1.1,w.1,n.u,v.1.u⟩,fk0⟩)
     ·have:=Jed (J1 .i64 10 g.1) 1
      try dsimp only
      exact⟨J5,fk0,Ja,om,om,om,om,om⟩
   ·exact .some (⟨fzr,fkn 5⟩)
 ·exact .some (⟨fzr,fkn 5⟩)
theorem Jvq{B S:Int}{x1:J04}(h:Ty.fit B S JQ x1)(F:BG B S:=by omega):Tot (J7o x1) λy=>Ty.fit 4096 0 (.pr J11 (.pr (.i .i64) .b)) y:=by
 unfold J7o;refine .bind ((J25 h).eqn) λJ h1=>.not (λr=>?_) λr=>?_
 ·exact .some (⟨fzr,fk0,trivial⟩)
 ·have v3:=J1I h h1.2 r;have:=J3 (l:=x1.2.1);have:J0 x1.2.1=_:=Jj h.2.1;have g:Ty.fit 4096 8192 JQ x1:=v3.2;have:=J0E (J0 x1.2.1) 1;refine Jd (τ:=Int) (λq=>(q,x1,0,0,[],[],[])) (λq=>(Ty.fit 0 0 (.i .i64) q/\q<=JF .i64 (J0 x1.2.1) 1)) (λq=>q-0) ?_ (JF .i64 (J0 x1.2.1) 1) rfl ?_
  ·rintro e ⟨x,E⟩;unfold JdU
   try dsimp only
   have:=J2.1 x;refine .ge (λn=>?_) λn=>?_
   ·refine .bind (Ji g.2.1) λI D=>.ne (λk=>?_) λk=>?_
    ·have:=J0E e 1;exact .some ⟨JF .i64 e 1,rfl,⟨J1O,om⟩,om,om⟩
    ·refine .bind (Ji g.2.1) λC o=>?_;have A:Ty.fit 16384 1073741824 .s C.2.2.2.2.2.2.2:=o.1.z.2.2.2.2.2.2.2.u;refine .bind (Jvd A) λH j=>.eq (λv=>?_) λv=>?_
     ·refine .bind (Ji g.2.1) λG w=>.some (⟨j.1,w.1.z.1,trivial⟩)
     ·have:=J0E e 1;exact .some ⟨JF .i64 e 1,rfl,⟨J1O,om⟩,om,om⟩
   ·exact .some (⟨fzr,fk0,trivial⟩)
  ·try dsimp only
   exact⟨J1O,oo⟩
theorem Jwv{B S:Int}{x1:J6M}(h:Ty.fit B S tq8 x1)(k:BG B S:=by omega):Tot (J8y x1) λy=>Ty.fit 4096 0 JzL y:=by
 unfold J8y;refine .bind (Jvq h.1) λo h1=>.not (λe=>?_) λe=>?_
 ·have:=J2.1 h.1.1;refine .gt (λg=>?_) λg=>?_
  ·exact .some (⟨fzr,fkn 24⟩)
  ·refine .bind (Jpp h.2) λn h5=>.some (⟨⟨h.2,fkn 1,fk0,Ja,Ja,Ja,h5.1.u⟩,fk0⟩)
 ·have:=J2.1 h1.1.1;refine .ne (λj=>?_) λj=>?_
  ·exact .some (⟨fzr,fkn 24⟩)
  ·exact .some (⟨⟨h.2,h1.1.2.1,h1.2.1,h1.1.c.1,Ja,h1.1.d⟩,fk0⟩)
section
variable {B S:Int}
theorem Jf2{un:List T_api_Row}{n:T_api_Entry}(h:Ty.fit B S (.l Jb) un)(hn:Ty.fit B S J4 n)(O:BS B S 0 0:=by omega)(T:B<=17179869183:=by omega):Tot (Jf Ja4 (un,false,0,n,[])) λy=>Ty.fit (B+1) S (.l Jb) y/\J0 y<=J0 un+1:=by
 have hl:J0 un<=B:=h.1;have H:=J3 (l:=un);refine Jd (τ:=Bool×Int×List T_api_Row) (λq=>(un,q.1,q.2.1,n,q.2.2)) (λq=>0<=q.2.1/\q.2.1<=J0 un/\Ty.fit (B+1) S (.l Jb) q.2.2/\J0 q.2.2<=q.2.1+1/\(q.1=false->J0 q.2.2<=q.2.1)) (λq=>J0 un-q.2.1) ?_ (false,0,[]) rfl ⟨J0G _,H,Ja,by show(0:Int)<=0+1;omega,λ_=>J0G _⟩;rintro⟨done,i,out⟩ ⟨F,h1,h2,h3,h4⟩;dsimp only at F h1 h2 h3 h4;unfold Ja4;dsimp only;have:=Jh i 1;have app: ∀{x:T_api_Row} {l:List T_api_Row},Ty.fit (B+1) S (.l Jb) l->Ty.fit (B+1) S Jb x->J0 l+1<=B+1->Tot (Jz 24 l [x]) λr=>Ty.fit (B+1) S (.l Jb) r/\J0 r=J0 l+1:=λhl hx J=>
  (J0n (B:=B+1) (Bl:=B+1) (Bm:=B+1) (S:=S) _ 1 hl (J0d oo hx) rfl rfl (J0G _) (J0G _) J oo (by decide)).mono λ_ h=>⟨h.1,h.2.1⟩
 have o:Ty.fit (B+1) S Jb (n.2.2.2.2.2.2.1.1,n.1,n.1):=⟨hn.2.2.2.2.2.2.1.1,hn.1,hn.1⟩;have A:Tot (JM n) λ_=>True:=(J1y hn).mono λ_ _=>trivial;have v: ∀{d:Bool} {l:List T_api_Row},i<J0 un->Ty.fit (B+1) S (.l Jb) l->J0 l<=i+2->(d=false->J0 l<=i+1)->(∃c':Bool×Int×List T_api_Row,(un,d,J1 .i64 i 1,n,l)=(un,c'.1,c'.2.1,n,c'.2.2)/\(0<=c'.2.1/\c'.2.1<=J0 un/\Ty.fit (B+1) S (.l Jb) c'.2.2/\J0 c'.2.2<=c'.2.1+1/\(c'.1=false->J0 c'.2.2<=c'.2.1))/\J0 un-c'.2.1<J0 un-i/\0<=J0 un-i):=fun{d l} a1 a2 a3 M=>
  ⟨(d,J1 .i64 i 1,l),rfl,⟨by show 0<=J1 .i64 i 1;omega,by show J1 .i64 i 1<=_;omega,a2,by show J0 l<=J1 .i64 i 1+1;omega,λe=>by show J0 l<=J1 .i64 i 1;have:=M e;omega⟩,by show J0 un-J1 .i64 i 1<J0 un-i;omega,oo⟩
 refine .lt (λc=>?_) λc=>Tot.map (P:=λy:List T_api_Row=>Ty.fit (B+1) S (.l Jb) y/\J0 y<=J0 un+1) ?_ λ_ h=>h
 ·have N:Tot (idx un i) λr=>Ty.fit (B+1) S Jb r:=(Ji h F c).mono λ_ h=>h.1.u;refine .bind N λg k=>?_
  have body: ∀{d:Bool} {l:List T_api_Row},Ty.fit (B+1) S (.l Jb) l->J0 l<=i+1->(d=false->J0 l<=i)->Tot (ρ:=(JCI)⊕(List T_api_Row)) (if eqI g.1 n.2.2.2.2.2.2.1.1 then
     (JM n).bind λC=>
     if C then
      (Jz 24 l [(g.1,g.2.1,n.1)]).bind λG=>
      some (.inl (un,true,J1 .i64 i 1,n,G))
     else
      if geI n.2.2.2.2.2.1 g.2.2 then
       some (.inl (un,true,J1 .i64 i 1,n,l))
      else
       if geI n.2.2.2.2.2.1 g.2.1 then
        (Jz 24 l [(g.1,J1 .i64 n.2.2.2.2.2.1 1,g.2.2)]).bind λw=>
        some (.inl (un,true,J1 .i64 i 1,n,w))
       else
        (Jz 24 l [g]).bind λE=>
        some (.inl (un,true,J1 .i64 i 1,n,E))
    else
     (Jz 24 l [g]).bind λK=>
     some (.inl (un,d,J1 .i64 i 1,n,K))) λr=>match r with
      | .inl z=> ∃c':Bool×Int×List T_api_Row,z=(un,c'.1,c'.2.1,n,c'.2.2)/\(0<=c'.2.1/\c'.2.1<=J0 un/\Ty.fit (B+1) S (.l Jb) c'.2.2/\J0 c'.2.2<=c'.2.1+1/\(c'.1=false->J0 c'.2.2<=c'.2.1))/\J0 un-c'.2.1<J0 un-i/\0<=J0 un-i
      | .inr y=>Ty.fit (B+1) S (.l Jb) y/\J0 y<=J0 un+1:=fun{d l} b1 b2 L=>
   .eq (λ_=>.bind A λC _=>.ite (λ_=>.bind (app b1 ⟨k.1,k.2.1,hn.1⟩ oo) λG D=>.some (v c D.1 (by have:=D.2;omega) λe=>by cases e)) λ_=>.ge (λ_=>.some (v c b1 oo λe=>by cases e)) λ_=>.ge (λ_=>.bind (app b1 ⟨k.1,J5,k.2.2⟩ oo) λw j=>.some (v c j.1 (by have:=j.2;omega) λe=>by cases e)) λ_=>.bind (app b1 k oo) λw j=>.some (v c j.1 (by have:=j.2;omega) λe=>by cases e)) λ_=>.bind (app b1 k oo) λw j=>.some (v c j.1 (by have:=j.2;omega) λe=>by have:=j.2;have:=L e;omega)
  refine .gt (λ_=>.not (λd=>.bind A λQ _=>.ite (λ_=>.bind (app h2 o (by have:=h4 d;omega)) λR I=>?_) λ_=>?_) λd=>?_) λ_=>?_
  ·exact(body (d:=true) I.1 (by have:=I.2;have:=h4 d;omega) λe=>by cases e).mono λr h=>by cases r<;>exact h
  all_goals
   exact(body (d:=done) h2 h3 h4).mono λr h=>by cases r<;>exact h
 ·exact .not (λd=>.bind A λy _=>.ite (λ_=>.bind (app h2 o (by have:=h4 d;omega)) λy f=>.some ⟨f.1,by have:=f.2;have:=h4 d;omega⟩) λ_=>.some ⟨h2,oo⟩) λ_=>.some ⟨h2,oo⟩
theorem J54{x1:JHA}(h:Ty.fit B S Jve x1)(e:BS B S 0 0:=by omega)(g:B<=17179869183:=by omega):Tot (J2M x1) λy=>Ty.fit (B+1) S (.l Jb) y/\J0 y<=J0 x1.1+1:=by unfold J2M;refine .bind (J1y h.2) λj _=>.not (λ_=>.ne (λ_=>.some ⟨h.1.u,oo⟩) λ_=>Jf2 h.1 h.2) λ_=>Jf2 h.1 h.2
end
theorem JAw{B S:Int}{x1:J1J×T_api_Entry}(h:Ty.fit B S (.pr J2s J4) x1)(p0:J0 x1.1.2.2.2.2.2.1<=16000)(aj:BG B S:=by omega):Tot (J9z x1) λy=>Ty.fit B S JzL y/\(J0 y.1.2.2.2.2.2.1<=J0 x1.1.2.2.2.2.2.1+1):=by
 unfold J9z;have h4:Ty.fit 16000 S (.l Jb) x1.1.2.2.2.2.2.1:=⟨(by omega:J0 x1.1.2.2.2.2.2.1<=16000),λx hx=>h.1.g.1.2 x hx⟩;refine .gt (λc5=>?_) λc5=>?_
 ·refine .bind ((J2F (B:=B) (S:=S) (x1:=(x1.1.2.2.2.1,x1.2.2.2.1)) (⟨h.1.d.1,h.2.z.2.2.1⟩)).eqn) λy2 h7=>.lt (λa3=>?_) λa3=>?_
  ·refine .bind (Jk2 (B:=B) (S:=S) (⟨h.1.d.1,h.2.z.2.2.1⟩)) λy3 v=>.ne (λZ=>?_) λZ=>?_
   ·exact .some ⟨(⟨h.1,v.2⟩),om⟩
   ·have a6:Ty.fit 16384 S Jv8 (y3.1,x1.2):=⟨v.1.u,h.2.z.u⟩;refine .bind (J4K a6) λy4 j=>.ne (λa1=>?_) λa1=>?_
    ·exact .some ⟨(⟨⟨h.1.1,h.1.2.1,h.1.c.1,v.1.u,h.1.e⟩,j.2⟩),om⟩
    ·refine .bind (J4x (B:=B) (S:=S) (⟨h.1.h,h.2.z.u⟩)) λy5 q=>.ne (λa0=>?_) λa0=>?_
     ·exact .some ⟨(⟨⟨h.1.1,J3Q h.1.2.1 J5,h.1.c.1,j.1.u,h.1.e⟩,q.2⟩),om⟩
     ·refine .bind (J1y (B:=0) (S:=S) h.2.z) λy6 ae=>.ite (λO=>?_) λO=>?_
      ·have:=J2.1 h.2.z.2.2.2.2.2.2.1.1;refine .ge (λP=>?_) λP=>?_
       ·exact .some ⟨(⟨⟨h.1.1,J3Q h.1.2.1 J5,h.1.c.1,j.1.u,h.1.e.1,h4.u,q.1.u⟩,fkn 1⟩),om⟩
       ·refine .bind (J54 (B:=16000) (S:=S) (⟨h4,h.2.z.u⟩)) λL F=>?_;have W:Ty.fit 16001 S (.l Jb) L:=F.1.u;have:J0 L<=J0 x1.1.2.2.2.2.2.1+1:=F.2;exact .some ⟨(⟨⟨h.1.1,J3Q h.1.2.1 J5,h.1.c.1,j.1.u,h.1.e.1,W.u,q.1.u⟩,fk0⟩),om⟩
      ·refine .bind (J54 (B:=16000) (S:=S) (⟨h4,h.2.z.u⟩)) λY w=>?_;have M:Ty.fit 16001 S (.l Jb) Y:=w.1.u;have:J0 Y<=J0 x1.1.2.2.2.2.2.1+1:=w.2;exact .some ⟨(⟨⟨h.1.1,J3Q h.1.2.1 J5,h.1.c.1,j.1.u,h.1.e.1,M.u,q.1.u⟩,fk0⟩),om⟩
  ·refine .bind (J4K (B:=B) (S:=S) (⟨h.1.d.1,h.2.z.u⟩)) λy9 k=>.ne (λa8=>?_) λa8=>?_
   ·exact .some ⟨(⟨h.1,k.2⟩),om⟩
   ·refine .bind (J4x (B:=B) (S:=S) (⟨h.1.h,h.2.z.u⟩)) λac r=>.ne (λa5=>?_) λa5=>?_
    ·exact .some ⟨(⟨⟨h.1.1,J3Q h.1.2.1 J5,h.1.c.1,k.1.u,h.1.e⟩,r.2⟩),om⟩
    ·refine .bind (J1y (B:=0) (S:=S) h.2.z) λai ah=>.ite (λa4=>?_) λa4=>?_
     ·have:=J2.1 h.2.z.2.2.2.2.2.2.1.1;refine .ge (λK=>?_) λK=>?_
      ·exact .some ⟨(⟨⟨h.1.1,J3Q h.1.2.1 J5,h.1.c.1,k.1.u,h.1.e.1,h4.u,r.1.u⟩,fkn 1⟩),om⟩
      ·refine .bind (J54 (B:=16000) (S:=S) (⟨h4,h.2.z.u⟩)) λG J=>?_;have a2:Ty.fit 16001 S (.l Jb) G:=J.1.u;have:J0 G<=J0 x1.1.2.2.2.2.2.1+1:=J.2;exact .some ⟨(⟨⟨h.1.1,J3Q h.1.2.1 J5,h.1.c.1,k.1.u,h.1.e.1,a2.u,r.1.u⟩,fk0⟩),om⟩
     ·refine .bind (J54 (B:=16000) (S:=S) (⟨h4,h.2.z.u⟩)) λC H=>?_;have R:Ty.fit 16001 S (.l Jb) C:=H.1.u;have:J0 C<=J0 x1.1.2.2.2.2.2.1+1:=H.2;exact .some ⟨(⟨⟨h.1.1,J3Q h.1.2.1 J5,h.1.c.1,k.1.u,h.1.e.1,R.u,r.1.u⟩,fk0⟩),om⟩
 ·refine .bind (J4K (B:=B) (S:=S) (⟨h.1.d.1,h.2.z.u⟩)) λaf n=>.ne (λU=>?_) λU=>?_
  ·exact .some ⟨(⟨h.1,n.2⟩),om⟩
  ·refine .bind (J4x (B:=B) (S:=S) (⟨h.1.h,h.2.z.u⟩)) λad o=>.ne (λT=>?_) λT=>?_
   ·exact .some ⟨(⟨⟨h.1.1,J3Q h.1.2.1 J5,h.1.c.1,n.1.u,h.1.e⟩,o.2⟩),om⟩
   ·refine .bind (J1y (B:=0) (S:=S) h.2.z) λag ab=>.ite (λV=>?_) λV=>?_
    ·have:=J2.1 h.2.z.2.2.2.2.2.2.1.1;refine .ge (λQ=>?_) λQ=>?_
     ·exact .some ⟨(⟨⟨h.1.1,J3Q h.1.2.1 J5,h.1.c.1,n.1.u,h.1.e.1,h4.u,o.1.u⟩,fkn 1⟩),om⟩
     ·refine .bind (J54 (B:=16000) (S:=S) (⟨h4,h.2.z.u⟩)) λD A=>?_;have N:Ty.fit 16001 S (.l Jb) D:=A.1.u;have:J0 D<=J0 x1.1.2.2.2.2.2.1+1:=A.2;exact .some ⟨(⟨⟨h.1.1,J3Q h.1.2.1 J5,h.1.c.1,n.1.u,h.1.e.1,N.u,o.1.u⟩,fk0⟩),om⟩
    ·refine .bind (J54 (B:=16000) (S:=S) (⟨h4,h.2.z.u⟩)) λE I=>?_;have a7:Ty.fit 16001 S (.l Jb) E:=I.1.u;have:J0 E<=J0 x1.1.2.2.2.2.2.1+1:=I.2;exact .some ⟨(⟨⟨h.1.1,J3Q h.1.2.1 J5,h.1.c.1,n.1.u,h.1.e.1,a7.u,o.1.u⟩,fk0⟩),om⟩
end Go.Am
end
section
namespace Go.Am
set_option linter.unusedVariables false
set_option maxRecDepth 20000
set_option maxHeartbeats 4000000
theorem JrH{B S:Int}{x1:J6M}(h:Ty.fit B S tq8 x1)(ac:BG B S:=by omega):Tot (J6A x1) λy=>Ty.fit 400000001 1073741824 JzL y:=by
 unfold J6A;refine .bind ((J25 h.1).eqn) λy2 h1=>.not (λP=>?_) λP=>?_
 ·exact .some (⟨fzr,fkn 26⟩)
 ·have v3:=J1I h.1 h1.2 P;have:=J3 (l:=x1.1.2.1);have:J0 x1.1.2.1=_:=Jj h.1.2.1;have C:Ty.fit 4096 8192 JQ x1.1:=v3.2;refine .ltf (λN=>?_) λN=>?_
  ·refine .gt (λT=>?_) λT=>?_
   ·exact .some (⟨fzr,fkn 1⟩)
   ·have O:Ty.fit 16384 1073741824 tq8 (x1.1,x1.2):=⟨C.u,h.2⟩;refine .bind (Jwv O) λD A=>.ne (λa0=>?_) λa0=>?_
    ·exact .some (⟨fzr,A.2⟩)
    ·refine Jd (τ:=Int×J1J) (λq=>(q.1,x1.1,(0,0,0,[],[],[],[]),q.2)) (λq=>Ty.fit 0 0 (.i .i64) q.1/\Ty.fit 16384 1073741824 J2s q.2/\(0<=q.1)/\(q.1<=J0 x1.1.2.1)/\(J0 q.2.2.2.2.2.2.1<=4096+q.1)) (λq=>J0 x1.1.2.1-q.1) ?_ (0,D.1) rfl ?_
     ·rintro⟨r,e⟩ H;dsimp only at H;obtain⟨V,j,a8,a7,a1⟩:=H;unfold Jci
      try dsimp only
      have:=J2.1 V;have:J0 e.2.2.2.2.2.1<=16384:=j.2.2.2.2.2.1.1;have:=J3 (l:=e.2.2.2.2.2.1);have:J0 e.2.2.2.2.2.1=_:=Jj j.2.2.2.2.2.1;refine .lt (λU=>?_) λU=>?_
      ·refine .bind (Ji C.2.1) λy5 a4=>.le (λK=>?_) λK=>?_
       ·have a5:Ty.fit 8192 1073741824 (.l Jb) e.2.2.2.2.2.1:=⟨(by omega:J0 e.2.2.2.2.2.1<=8192),λx hx=>j.2.2.2.2.2.1.2 x hx⟩;have:=Jh r 1;exact .some ⟨(J1 .i64 r 1,e),rfl,⟨J5,j,om,om,om⟩,om,om⟩
       ·refine .bind (Ji C.2.1) λy6 Y=>.bind (JAw (B:=16384) (S:=1073741824) (⟨j,Y.1.z.u⟩) om) λw E=>?_;have v:Ty.fit 16384 1073741824 JzL w:=E.1.u;have:J0 w.1.2.2.2.2.2.1<=16384:=v.1.g.1.1;have:=J3 (l:=w.1.2.2.2.2.2.1);have:J0 w.1.2.2.2.2.2.1=_:=Jj v.1.g.1;have:J0 w.1.2.2.2.2.2.1<=J0 e.2.2.2.2.2.1+1:=E.2;refine .ne (λR=>?_) λR=>?_
        ·exact .some (⟨fzr,v.2⟩)
        ·have a9:Ty.fit 8192 1073741824 (.l Jb) w.1.2.2.2.2.2.1:=⟨(by omega:J0 w.1.2.2.2.2.2.1<=8192),λx hx=>v.1.g.1.2 x hx⟩;have:=Jh r 1;exact .some ⟨(J1 .i64 r 1,w.1),rfl,⟨J5,v.1,om,om,om⟩,om,om⟩
      ·refine .inr ?_;have:J0 e.2.2.2.1<=16384:=j.2.2.2.1.1;have:=J3 (l:=e.2.2.2.1);have:J0 e.2.2.2.1=_:=Jj j.2.2.2.1;refine Jd (τ:=Int×(List Js)) (λq=>(q.1,x1.1,(0,0,0,[],[],[],[]),e,q.2)) (λq=>(Ty.fit 0 0 (.i .i64) q.1/\0<=q.1/\(q.1<=J0 e.2.2.2.1\/q.1<=0))/\(Ty.fit 16384 1073741824 (.l Jl) q.2/\J0 q.2<=1*q.1+0)) (λq=>J0 e.2.2.2.1-q.1) ?_ (0,[]) rfl ?_
       ·rintro⟨o,k⟩ G;dsimp only at G;obtain⟨⟨Z,a2,a6⟩,n,ad⟩:=G;unfold Jcj
        try dsimp only
        have:=J2.1 Z;refine .lt (λQ=>?_) λQ=>?_
        ·refine .bind (Ji j.2.2.2.1) λy9 ab=>.gt (λW=>?_) λW=>?_
         ·refine .bind (Ji j.2.2.2.1) λa3 M=>?_;have:J0 k<=16384:=n.1;have:=J3 (l:=k);have:J0 k=_:=Jj n;refine .bind (J0n (B:=16384) (Bl:=16384) (Bm:=16384) (S:=1073741824) (J0 k) 1 n (J0d (B:=16384) (S:=1073741824) (t:=Jl) oo M.1)) λJ I=>?_;have:=Jh o 1;have:J0 J=_:=Jj I.1;exact .some ⟨(J1 .i64 o 1,J),rfl,⟨⟨J5,om,om⟩,I.1,om⟩,om,om⟩
         ·have:=Jh o 1;have:J0 k=_:=Jj n;exact .some ⟨(J1 .i64 o 1,k),rfl,⟨⟨J5,om,om⟩,n,om⟩,om,om⟩
        ·refine .inr ?_;refine .bind (JxZ (B:=16384) (S:=1073741824) (⟨C.u,n⟩)) λaa F=>.ne (λL=>?_) λL=>?_
         ·exact .some (⟨fzr,F.2⟩)
         ·exact .some (⟨⟨j.1,j.2.1,j.2.2.1,n.u,F.1.u,j.2.2.2.2.2.u⟩,fk0⟩)
       ·have:J0 ([]:List Js)=0:=rfl
        try dsimp only
        exact⟨⟨fk0,oo,oo⟩,Ja,oo⟩
     ·have:J0 D.1.2.2.2.2.2.1<=4096:=A.1.g.1.1;have:=J3 (l:=D.1.2.2.2.2.2.1);have:J0 D.1.2.2.2.2.2.1=_:=Jj A.1.g.1
      try dsimp only
      exact⟨fk0,A.1.u,om,om,om⟩
  ·exact .some (⟨fzr,fkn 1⟩)
theorem JwH{B S:Int}{x1:J04×J1J×Int}(h:Ty.fit B S (.pr JQ JzL) x1)(N:BG B S:=by omega):Tot (J8F x1) λy=>Ty.fit 16384 1073741824 tq1 y:=by
 unfold J8F;refine .bind (JpC h.c) λv h1=>.ne (λJ=>?_) λJ=>?_
 ·exact .some (⟨fzr,fkn 1⟩)
 ·refine .bind ((J18 (B:=B) (S:=S) (x1:=(x1.2.1.1,x1.2.1.2.1,x1.1,v.1,(x1.2.1.2.2.2.2.1,[]),x1.2.1.2.2.2.1,x1.2.1.2.2.2.2.2.2,x1.2.1.2.2.2.2.2.1)) (⟨h.2.1.1,h.2.1.2.1,h.1,h1.1.u,⟨h.2.1.e.1,Ja⟩,h.2.1.d.1,h.2.1.h,h.2.1.g.1⟩)).eqn) λP h4=>.not (λG=>?_) λG=>?_
  ·exact .some (⟨fzr,fkn 15⟩)
  ·have I:=J1h (x:=(x1.2.1.1,x1.2.1.2.1,x1.1,v.1,(x1.2.1.2.2.2.2.1,[]),x1.2.1.2.2.2.1,x1.2.1.2.2.2.2.2.2,x1.2.1.2.2.2.2.2.1)) (⟨h.2.1.1,h.2.1.2.1,h.1,h1.1.u,⟨h.2.1.e.1,Ja⟩,h.2.1.d.1,h.2.1.h,h.2.1.g.1⟩) h4.2 G;have j:Ty.fit 4096 8192 J7 (x1.2.1.1,x1.2.1.2.1,x1.1,v.1,(x1.2.1.2.2.2.2.1,[]),x1.2.1.2.2.2.1,x1.2.1.2.2.2.2.2.2,x1.2.1.2.2.2.2.2.1):=I.2;have:J0 x1.2.1.2.2.2.1<=4096:=j.g.1.1;have:=J3 (l:=x1.2.1.2.2.2.1);have:J0 x1.2.1.2.2.2.1=_:=Jj j.g.1;refine Jd (τ:=Jbc) (λq=>(q.1,x1.1,x1.2.1,(0,0,(0,[],0),(0,[],0),([],[]),[],[],[]),v.1,q.2)) (λq=>(Ty.fit 0 0 (.i .i64) q.1/\0<=q.1/\(q.1<=J0 x1.2.1.2.2.2.1\/q.1<=0))/\Ty.fit 16384 1073741824 J7 q.2) (λq=>J0 x1.2.1.2.2.2.1-q.1) ?_ (0,(x1.2.1.1,x1.2.1.2.1,x1.1,v.1,(x1.2.1.2.2.2.2.1,[]),x1.2.1.2.2.2.1,x1.2.1.2.2.2.2.2.2,x1.2.1.2.2.2.2.2.1)) rfl ?_
   ·rintro⟨k,o⟩ z;dsimp only at z;obtain⟨⟨F,L,O⟩,n⟩:=z;unfold JfK
    try dsimp only
    have:=J2.1 F;refine .lt (λD=>?_) λD=>?_
    ·refine .bind (Ji j.g.1) λQ M=>.eq (λH=>?_) λH=>?_
     ·have:=Jh k 1;exact .some ⟨(J1 .i64 k 1,o),rfl,⟨⟨J5,om,om⟩,n⟩,om,om⟩
     ·refine .bind (Ji j.g.1) λE w=>.bind ((J4p (B:=16384) (S:=1073741824) (x1:=(o,0,4,E.1,0,0,0,(0,0,(false,[]),false,[]),[])) (⟨n,fk0,fkn 4,w.1.1,fk0,fk0,fk0,⟨fk0,fk0,⟨trivial,Jc⟩,trivial,Jc⟩,Jc⟩)).eqn) λC r=>.ne (λA=>?_) λA=>?_
      ·exact .some (⟨fzr,r.1.1.c⟩)
      ·have K:Has C.1.2.2.2.2.2.1 E.1:=Jpl (⟨n,fk0,fkn 4,w.1.1,fk0,fk0,fk0,⟨fk0,fk0,⟨trivial,Jc⟩,trivial,Jc⟩,Jc⟩) r.2 A;have:=Jh k 1;exact .some ⟨(J1 .i64 k 1,C.1),rfl,⟨⟨J5,om,om⟩,r.1.1.1⟩,om,om⟩
    ·exact .some (⟨n,fk0⟩)
   ·try dsimp only
    exact⟨⟨fk0,oo,oo⟩,j.1,j.2.1,j.c.1.u,j.d.1.u,⟨j.e.1.1.u,Ja⟩,j.g.u⟩
theorem JCp{B S:Int}{x1:JGh}(h:Ty.fit B S (.pr JS Jx) x1)(o:BH B S:=by omega)(r:S<=9223372036854775807:=by omega):Tot (J9D x1) λy=>Ty.fit B S tq3 y:=by
 unfold J9D;refine .bind (Jzj (B:=0) (S:=S) h.2.z.1) λn h1=>.ne (λg=>?_) λg=>?_
 ·exact .some (⟨⟨fzr,Ja,fk0,Ja,trivial,Ja⟩,h1.2⟩)
 ·have h5:Ty.fit 16384 1073741824 tq8 (n.1,x1.2.2.1):=⟨h1.1.u,h.2.z.2.1⟩;refine .bind (JrH h5) λq h4=>.ne (λk=>?_) λk=>?_
  ·exact .some (⟨⟨fzr,Ja,fk0,Ja,trivial,Ja⟩,h4.2⟩)
  ·refine .bind (JwH (B:=400000001) (S:=1073741824) (⟨h1.1.u,h4.1,h.2.z.2.2⟩)) λv e=>.ne (λj=>?_) λj=>?_
   ·exact .some (⟨⟨fzr,Ja,fk0,Ja,trivial,Ja⟩,e.2⟩)
   ·exact .some (⟨⟨e.1.u,h.1⟩,fk0⟩)
theorem JCT{B S:Int}{x1:JGh}(h:Ty.fit B S (.pr JS Jx) x1)(e:BH B S:=by omega)(g:S<=9223372036854775807:=by omega):Tot (J9w x1) λy=>Ty.fit B S tq3 y:=by unfold J9w;refine .bind (JCp (B:=B) (S:=S) (⟨h.1,h.2.z.1.u,h.2.z.2.1,h.2.z.2.2⟩)) λj h1=>.some (h1)
theorem Jgp{B S:Int}{x1:TQ4}(h:Ty.fit B S (.pr J0N tq0) x1)(p0:J0 x1.2.2.2.2.2.2.2.2.2.2.2.2.2.2.2.2.2.2.2.2.1<=16000)(U:J0 x1.2.2.2.2.2.2.2.2.2.2.2.2.2.2.2.2.2.2.2.2.2<=16000)(P:BG B S:=by omega)(V:S<=9223372036854775807:=by omega):Tot (J3F x1) λy=>Ty.fit B S JH1 y/\(J0 y.2.2.2.2.2.2.2.2.2.2.2.2.2.2.2.2.2.2.2.2.1<=J0 x1.2.2.2.2.2.2.2.2.2.2.2.2.2.2.2.2.2.2.2.2.1+1/\J0 y.2.2.2.2.2.2.2.2.2.2.2.2.2.2.2.2.2.2.2.2.2<=J0 x1.2.2.2.2.2.2.2.2.2.2.2.2.2.2.2.2.2.2.2.2.2+1):=by
 unfold J3F;have:=J3 (l:=x1.2.2.2.2.2.2.2.2.2.2.2.2.2.2.2.2.2.2.2.2.1);have J:Ty.fit 16000 S (.l (.i .i64)) x1.2.2.2.2.2.2.2.2.2.2.2.2.2.2.2.2.2.2.2.2.1:=⟨(by omega:J0 x1.2.2.2.2.2.2.2.2.2.2.2.2.2.2.2.2.2.2.2.2.1<=16000),λx hx=>h.k.k.c.1.2 x hx⟩;have G:Ty.fit 16000 S (.l J0s) x1.2.2.2.2.2.2.2.2.2.2.2.2.2.2.2.2.2.2.2.2.2:=⟨(by omega:J0 x1.2.2.2.2.2.2.2.2.2.2.2.2.2.2.2.2.2.2.2.2.2<=16000),λx hx=>h.k.k.e x hx⟩;refine .bind (JxG (B:=B) (S:=S) (⟨⟨⟨h.2.1,h.c.1,⟨h.d.1,h.e.1,h.g.1⟩,⟨h.h.1,h.i.1,h.j.1⟩,⟨h.k.1,h.k.2.1⟩,h.k.c.1,h.k.d.1,h.k.e.1⟩,h.k.g.1,h.k.h.1,h.k.i.1,trivial,h.k.k.1⟩,h.1.z.2.2.2.1,h.1.z.2.2.1,h.1.z.2.2.2.2.1⟩)) λK I=>.bind (JCT (B:=B) (S:=S) (⟨I.1,I.2.z.u,h.2.1,h.h.1⟩)) λD n=>Jd (τ:=JyY) (λq=>(D.2,q.1,x1.2.1,x1.2.2.1,x1.2.2.2.1,x1.2.2.2.2.1,x1.2.2.2.2.2.1,x1.2.2.2.2.2.2.1,x1.2.2.2.2.2.2.2.1,x1.2.2.2.2.2.2.2.2.1,x1.2.2.2.2.2.2.2.2.2.1,x1.2.2.2.2.2.2.2.2.2.2.1,x1.2.2.2.2.2.2.2.2.2.2.2.1,x1.2.2.2.2.2.2.2.2.2.2.2.2.1,x1.2.2.2.2.2.2.2.2.2.2.2.2.2.1,x1.2.2.2.2.2.2.2.2.2.2.2.2.2.2.1,x1.2.2.2.2.2.2.2.2.2.2.2.2.2.2.2.1,x1.2.2.2.2.2.2.2.2.2.2.2.2.2.2.2.2.1,x1.2.2.2.2.2.2.2.2.2.2.2.2.2.2.2.2.2.1,x1.2.2.2.2.2.2.2.2.2.2.2.2.2.2.2.2.2.2.1,x1.2.2.2.2.2.2.2.2.2.2.2.2.2.2.2.2.2.2.2.1,q.2,x1.2.2.2.2.2.2.2.2.2.2.2.2.2.2.2.2.2.2.2.2.2,x1.1,(0,0,0,(false,[]),0),K.1,D.1)) (λq=>Ty.fit 0 0 (.i .i64) q.1/\Ty.fit 16000 S (.l (.i .i64)) q.2/\(0<=q.1)/\(q.1<=J0 q.2)/\(J0 q.2=J0 x1.2.2.2.2.2.2.2.2.2.2.2.2.2.2.2.2.2.2.2.2.1)) (λq=>J0 q.2-q.1) ?_ (0,x1.2.2.2.2.2.2.2.2.2.2.2.2.2.2.2.2.2.2.2.2.1) rfl ?_
 ·rintro⟨o,r⟩ w;dsimp only at w;obtain⟨H,v,N,L,O⟩:=w;unfold J6Y
  try dsimp only
  have:=J2.1 H;refine .lt (λC=>?_) λC=>?_
  ·refine .bind (J5j (l:=r)) λ_ _=>.bind (Jcm v) λT M=>?_;have:=Jh o 1;have:J0 (J0t r (Int.toNat o) 0)<=16000:=(J3W (t:=(.i .i64)) (i:=Int.toNat o) (x:=0) v fk0).1;have:=J3 (l:=J0t r (Int.toNat o) 0);have:J0 (J0t r (Int.toNat o) 0)=J0 r:=J5z;exact .some ⟨(J1 .i64 o 1,J0t r (Int.toNat o) 0),rfl,⟨J5,J3W (t:=(.i .i64)) (i:=Int.toNat o) (x:=0) v fk0,om,om,om⟩,om,om⟩
  ·refine .inr ?_;refine .ne (λA=>?_) λA=>?_
   ·refine .bind (J4v n.2) λQ E=>.some ⟨(⟨E.u,h.2.1,h.c.1,h.d.1,h.e.1,h.g.1,h.h.1,h.i.1,h.j.1,h.k.1,h.k.2.1,h.k.c.1,h.k.d.1,h.k.e.1,h.k.g.1,h.k.h.1,h.k.i.1,trivial,h.k.k.1,trivial,v.u,G.u⟩),om⟩
   ·refine .bind (J4v (B:=0) (S:=0) fk0) λR F=>.some ⟨(⟨F.u,n.1.1.1,n.1.1.2.1,n.1.1.c.1.1,n.1.1.c.1.2.1,n.1.1.c.1.c,n.1.1.d.1.1,n.1.1.d.1.2.1,n.1.1.d.1.c,n.1.1.e.1.1,n.1.1.e.1.2,n.1.1.g.1,n.1.1.h.1,n.1.1.i,n.1.2.1,n.1.c.1,n.1.d.1,trivial,n.1.g,trivial,v.u,G.u⟩),om⟩
 ·try dsimp only
  exact⟨fk0,J,om,om,om⟩
theorem J2Z{B S:Int}{x1:TQ2}(h:Ty.fit B S (.pr Jk (.pr (.i .i64) tq0)) x1)(q:BH B S:=by omega):Tot (J1m x1) λy=>Ty.fit B S JH1 y/\(J0 y.2.2.2.2.2.2.2.2.2.2.2.2.2.2.2.2.2.2.2.2.1=J0 x1.2.2.2.2.2.2.2.2.2.2.2.2.2.2.2.2.2.2.2.2.2.1/\J0 y.2.2.2.2.2.2.2.2.2.2.2.2.2.2.2.2.2.2.2.2.2=J0 x1.2.2.2.2.2.2.2.2.2.2.2.2.2.2.2.2.2.2.2.2.2.2):=by
 unfold J1m;refine .eq (λo=>?_) λo=>?_
 ·refine .bind (J4v h.2.1) λv h3=>.some ⟨(⟨h3.u,h.1.1.1,h.1.1.2.1,h.1.1.c.1.1,h.1.1.c.1.2.1,h.1.1.c.1.c,h.1.1.d.1.1,h.1.1.d.1.2.1,h.1.1.d.1.c,h.1.1.e.1.1,h.1.1.e.1.2,h.1.1.g.1,h.1.1.h.1,h.1.1.i,h.1.2.1,h.1.c.1,h.1.d.1,trivial,h.1.g,trivial,h.k.k.d⟩),om⟩
 ·refine .bind (J4v h.2.1) λr n=>.some ⟨(⟨n.u,h.c.1,h.d.1,h.e.1,h.g.1,h.h.1,h.i.1,h.j.1,h.k.1,h.k.2.1,h.k.c.1,h.k.d.1,h.k.e.1,h.k.g.1,h.k.h.1,h.k.i.1,h.k.j.1,trivial,h.k.k.2.1,trivial,h.k.k.d⟩),om⟩
theorem Jhx{B S:Int}{x1:TQ4}(h:Ty.fit B S (.pr J0N tq0) x1)(p0:J0 x1.2.2.2.2.2.2.2.2.2.2.2.2.2.2.2.2.2.2.2.2.1<=16000)(p1:J0 x1.2.2.2.2.2.2.2.2.2.2.2.2.2.2.2.2.2.2.2.2.2<=16000)(ad:BH B S:=by omega)(hB:B<=1000000:=by omega)(hS:S<=1000000000000:=by omega):Tot (J3S x1) λy=>Ty.fit B S JH1 y/\(J0 y.2.2.2.2.2.2.2.2.2.2.2.2.2.2.2.2.2.2.2.2.1<=J0 x1.2.2.2.2.2.2.2.2.2.2.2.2.2.2.2.2.2.2.2.2.1+1/\J0 y.2.2.2.2.2.2.2.2.2.2.2.2.2.2.2.2.2.2.2.2.2<=J0 x1.2.2.2.2.2.2.2.2.2.2.2.2.2.2.2.2.2.2.2.2.2+1):=by
 unfold J3S;have:=J3 (l:=x1.2.2.2.2.2.2.2.2.2.2.2.2.2.2.2.2.2.2.2.2.1);have:J0 x1.2.2.2.2.2.2.2.2.2.2.2.2.2.2.2.2.2.2.2.2.2=_:=Jj h.k.k.d;have E:Ty.fit 16000 S (.l (.i .i64)) x1.2.2.2.2.2.2.2.2.2.2.2.2.2.2.2.2.2.2.2.2.1:=⟨(by omega:J0 x1.2.2.2.2.2.2.2.2.2.2.2.2.2.2.2.2.2.2.2.2.1<=16000),λx hx=>h.k.k.c.1.2 x hx⟩;have D:Ty.fit 16000 S (.l J0s) x1.2.2.2.2.2.2.2.2.2.2.2.2.2.2.2.2.2.2.2.2.2:=⟨(by omega:J0 x1.2.2.2.2.2.2.2.2.2.2.2.2.2.2.2.2.2.2.2.2.2<=16000),λx hx=>h.k.k.e x hx⟩;refine .eq (λc8=>?_) λc8=>?_
 ·refine .bind (Jxw (B:=B) (S:=S) (⟨⟨h.2.1,h.c.1,⟨h.d.1,h.e.1,h.g.1⟩,⟨h.h.1,h.i.1,h.j.1⟩,⟨h.k.1,h.k.2.1⟩,h.k.c.1,h.k.d.1,h.k.e.1⟩,h.k.g.1,h.k.h.1,h.k.i.1,trivial,h.k.k.1⟩)) λy2 C=>.eq (λU=>?_) λU=>?_
  ·refine .bind (J0n (B:=16001) (Bl:=16000) (Bm:=1) (S:=S) (J0 x1.2.2.2.2.2.2.2.2.2.2.2.2.2.2.2.2.2.2.2.2.1) 1 E ((J0d (B:=1) (S:=0) (t:=(.i .i64)) oo C.2.1).u)) λy3 P=>.bind (J2Z (B:=B) (S:=S) (⟨C.1,C.c,h.2.1,h.c.1,h.d.1,h.e.1,h.g.1,h.h.1,h.i.1,h.j.1,h.k.1,h.k.2.1,h.k.c.1,h.k.d.1,h.k.e.1,h.k.g.1,h.k.h.1,h.k.i.1,trivial,h.k.k.1,trivial,P.1.u,D.u⟩)) λO n=>?_;have:J0 O.2.2.2.2.2.2.2.2.2.2.2.2.2.2.2.2.2.2.2.2.2=_:=Jj n.1.k.k.d;have:J0 O.2.2.2.2.2.2.2.2.2.2.2.2.2.2.2.2.2.2.2.2.1=J0 y3/\J0 O.2.2.2.2.2.2.2.2.2.2.2.2.2.2.2.2.2.2.2.2.2=J0 x1.2.2.2.2.2.2.2.2.2.2.2.2.2.2.2.2.2.2.2.2.2:=n.2;exact .some ⟨(⟨⟨n.1.1.z.1,C.2.1,n.1.1.z.2.2.u⟩,n.1.2.1,n.1.c.1,n.1.d.1,n.1.e.1,n.1.g.1,n.1.h.1,n.1.i.1,n.1.j.1,n.1.k.1,n.1.k.2.1,n.1.k.c.1,n.1.k.d.1,n.1.k.e.1,n.1.k.g.1,n.1.k.h.1,n.1.k.i.1,trivial,n.1.k.k.1,trivial,n.1.k.k.c⟩),om⟩
  ·refine .bind (J2Z (B:=B) (S:=S) (⟨C.1,C.c,h.2.1,h.c.1,h.d.1,h.e.1,h.g.1,h.h.1,h.i.1,h.j.1,h.k.1,h.k.2.1,h.k.c.1,h.k.d.1,h.k.e.1,h.k.g.1,h.k.h.1,h.k.i.1,trivial,h.k.k.1,trivial,E.u,D.u⟩)) λN o=>?_;have:J0 N.2.2.2.2.2.2.2.2.2.2.2.2.2.2.2.2.2.2.2.2.2=_:=Jj o.1.k.k.d;have:J0 N.2.2.2.2.2.2.2.2.2.2.2.2.2.2.2.2.2.2.2.2.1=J0 x1.2.2.2.2.2.2.2.2.2.2.2.2.2.2.2.2.2.2.2.2.1/\J0 N.2.2.2.2.2.2.2.2.2.2.2.2.2.2.2.2.2.2.2.2.2=J0 x1.2.2.2.2.2.2.2.2.2.2.2.2.2.2.2.2.2.2.2.2.2:=o.2;exact .some ⟨(⟨⟨o.1.1.z.1,C.2.1,o.1.1.z.2.2.u⟩,o.1.2.1,o.1.c.1,o.1.d.1,o.1.e.1,o.1.g.1,o.1.h.1,o.1.i.1,o.1.j.1,o.1.k.1,o.1.k.2.1,o.1.k.c.1,o.1.k.d.1,o.1.k.e.1,o.1.k.g.1,o.1.k.h.1,o.1.k.i.1,trivial,o.1.k.k.1,trivial,o.1.k.k.c⟩),om⟩
 ·refine .eq (λR=>?_) λR=>?_
  ·refine .bind (Jjj (B:=B) (S:=S) (⟨h.1.z.u,h.2.1,h.c.1,h.d.1,h.e.1,h.g.1,h.h.1,h.i.1,h.j.1,h.k.1,h.k.2.1,h.k.c.1,h.k.d.1,h.k.e.1,h.k.g.1,h.k.h.1,h.k.i.1,trivial,h.k.k.1,trivial,E.u,D.u⟩) om om) λY w=>?_;have:J0 Y.2.2.2.2.2.2.2.2.2.2.2.2.2.2.2.2.2.2.2.2.1<=J0 x1.2.2.2.2.2.2.2.2.2.2.2.2.2.2.2.2.2.2.2.2.1+1/\J0 Y.2.2.2.2.2.2.2.2.2.2.2.2.2.2.2.2.2.2.2.2.2<=J0 x1.2.2.2.2.2.2.2.2.2.2.2.2.2.2.2.2.2.2.2.2.2+1:=w.2;exact .some ⟨(⟨w.1.1.z.u,w.1.2.1,w.1.c.1,w.1.d.1,w.1.e.1,w.1.g.1,w.1.h.1,w.1.i.1,w.1.j.1,w.1.k.1,w.1.k.2.1,w.1.k.c.1,w.1.k.d.1,w.1.k.e.1,w.1.k.g.1,w.1.k.h.1,w.1.k.i.1,trivial,w.1.k.k.1,trivial,w.1.k.k.c⟩),om⟩
  ·refine .eq (λa4=>?_) λa4=>?_
   ·refine .bind (JwJ (B:=B) (S:=S) (⟨⟨⟨h.2.1,h.c.1,⟨h.d.1,h.e.1,h.g.1⟩,⟨h.h.1,h.i.1,h.j.1⟩,⟨h.k.1,h.k.2.1⟩,h.k.c.1,h.k.d.1,h.k.e.1⟩,h.k.g.1,h.k.h.1,h.k.i.1,trivial,h.k.k.1⟩,h.1.z.2.2.1⟩)) λy7 J=>.bind (J2Z (B:=B) (S:=S) (⟨J.1,J.2,h.2.1,h.c.1,h.d.1,h.e.1,h.g.1,h.h.1,h.i.1,h.j.1,h.k.1,h.k.2.1,h.k.c.1,h.k.d.1,h.k.e.1,h.k.g.1,h.k.h.1,h.k.i.1,trivial,h.k.k.1,trivial,E.u,D.u⟩)) λM q=>?_;have:J0 M.2.2.2.2.2.2.2.2.2.2.2.2.2.2.2.2.2.2.2.2.2=_:=Jj q.1.k.k.d;have:J0 M.2.2.2.2.2.2.2.2.2.2.2.2.2.2.2.2.2.2.2.2.1=J0 x1.2.2.2.2.2.2.2.2.2.2.2.2.2.2.2.2.2.2.2.2.1/\J0 M.2.2.2.2.2.2.2.2.2.2.2.2.2.2.2.2.2.2.2.2.2=J0 x1.2.2.2.2.2.2.2.2.2.2.2.2.2.2.2.2.2.2.2.2.2:=q.2;exact .some ⟨(⟨q.1.1.z.u,q.1.2.1,q.1.c.1,q.1.d.1,q.1.e.1,q.1.g.1,q.1.h.1,q.1.i.1,q.1.j.1,q.1.k.1,q.1.k.2.1,q.1.k.c.1,q.1.k.d.1,q.1.k.e.1,q.1.k.g.1,q.1.k.h.1,q.1.k.i.1,trivial,q.1.k.k.1,trivial,q.1.k.k.c⟩),om⟩
   ·refine .eq (λa0=>?_) λa0=>?_
    ·refine .bind (Jop (B:=B) (S:=S) (⟨⟨h.2.1,h.c.1,⟨h.d.1,h.e.1,h.g.1⟩,⟨h.h.1,h.i.1,h.j.1⟩,⟨h.k.1,h.k.2.1⟩,h.k.c.1,h.k.d.1,h.k.e.1⟩,h.k.g.1,h.k.h.1,h.k.i.1,trivial,h.k.k.1⟩)) λy9 L=>.bind (J2Z (B:=B) (S:=S) (⟨L.1,L.c,h.2.1,h.c.1,h.d.1,h.e.1,h.g.1,h.h.1,h.i.1,h.j.1,h.k.1,h.k.2.1,h.k.c.1,h.k.d.1,h.k.e.1,h.k.g.1,h.k.h.1,h.k.i.1,trivial,h.k.k.1,trivial,E.u,D.u⟩)) λG r=>?_;have:J0 G.2.2.2.2.2.2.2.2.2.2.2.2.2.2.2.2.2.2.2.2.2=_:=Jj r.1.k.k.d;have:J0 G.2.2.2.2.2.2.2.2.2.2.2.2.2.2.2.2.2.2.2.2.1=J0 x1.2.2.2.2.2.2.2.2.2.2.2.2.2.2.2.2.2.2.2.2.1/\J0 G.2.2.2.2.2.2.2.2.2.2.2.2.2.2.2.2.2.2.2.2.2=J0 x1.2.2.2.2.2.2.2.2.2.2.2.2.2.2.2.2.2.2.2.2.2:=r.2;exact .some ⟨(⟨r.1.1.z.u,r.1.2.1,r.1.c.1,r.1.d.1,r.1.e.1,r.1.g.1,r.1.h.1,r.1.i.1,r.1.j.1,r.1.k.1,r.1.k.2.1,r.1.k.c.1,r.1.k.d.1,r.1.k.e.1,r.1.k.g.1,r.1.k.h.1,r.1.k.i.1,trivial,r.1.k.k.1,trivial,r.1.k.k.c⟩),om⟩
    ·refine .eq (λT=>?_) λT=>?_
     ·refine .bind (J7m (B:=B) (S:=S) (⟨h.d.1,h.e.1,h.g.1⟩)) λac a1=>.bind (J8H (B:=B) (S:=S) (⟨⟨h.d.1,h.e.1,h.g.1⟩,a1⟩)) λab F=>.eq (λV=>?_) λV=>?_
      ·refine .bind (J4v F.1.2) λa7 a2=>.some ⟨(⟨a2.u,h.2.1,h.c.1,F.1.1.1,F.1.1.2.1.u,F.1.1.c,h.h.1,h.i.1,h.j.1,h.k.1,h.k.2.1,h.k.c.1,h.k.d.1,h.k.e.1,h.k.g.1,h.k.h.1,h.k.i.1,trivial,h.k.k.1,trivial,E.u,D.u⟩),om⟩
      ·refine .bind (J4v F.1.2) λa9 Q=>.some ⟨(⟨Q.u,h.2.1,h.c.1,h.d.1,h.e.1,h.g.1,h.h.1,h.i.1,h.j.1,h.k.1,h.k.2.1,h.k.c.1,h.k.d.1,h.k.e.1,h.k.g.1,h.k.h.1,h.k.i.1,trivial,h.k.k.1,trivial,E.u,D.u⟩),om⟩
     ·refine .eq (λW=>?_) λW=>?_
      ·refine .bind (Jgp (B:=B) (S:=S) (⟨h.1.z.u,h.2.1,h.c.1,h.d.1,h.e.1,h.g.1,h.h.1,h.i.1,h.j.1,h.k.1,h.k.2.1,h.k.c.1,h.k.d.1,h.k.e.1,h.k.g.1,h.k.h.1,h.k.i.1,trivial,h.k.k.1,trivial,E.u,D.u⟩) om om) λK A=>?_;have:J0 K.2.2.2.2.2.2.2.2.2.2.2.2.2.2.2.2.2.2.2.2.1<=J0 x1.2.2.2.2.2.2.2.2.2.2.2.2.2.2.2.2.2.2.2.2.1+1/\J0 K.2.2.2.2.2.2.2.2.2.2.2.2.2.2.2.2.2.2.2.2.2<=J0 x1.2.2.2.2.2.2.2.2.2.2.2.2.2.2.2.2.2.2.2.2.2+1:=A.2;exact .some ⟨(⟨A.1.1.z.u,A.1.2.1,A.1.c.1,A.1.d.1,A.1.e.1,A.1.g.1,A.1.h.1,A.1.i.1,A.1.j.1,A.1.k.1,A.1.k.2.1,A.1.k.c.1,A.1.k.d.1,A.1.k.e.1,A.1.k.g.1,A.1.k.h.1,A.1.k.i.1,trivial,A.1.k.k.1,trivial,A.1.k.k.c⟩),om⟩
      ·refine .eq (λa3=>?_) λa3=>?_
       ·refine .bind (JBU (B:=B) (S:=S) (⟨⟨h.2.1,h.c.1,⟨h.d.1,h.e.1,h.g.1⟩,⟨h.h.1,h.i.1,h.j.1⟩,⟨h.k.1,h.k.2.1⟩,h.k.c.1,h.k.d.1,h.k.e.1⟩,h.k.g.1,h.k.h.1,h.k.i.1,trivial,h.k.k.1⟩)) λaa I=>.bind (J2Z (B:=B) (S:=S) (⟨I.1,I.c,h.2.1,h.c.1,h.d.1,h.e.1,h.g.1,h.h.1,h.i.1,h.j.1,h.k.1,h.k.2.1,h.k.c.1,h.k.d.1,h.k.e.1,h.k.g.1,h.k.h.1,h.k.i.1,trivial,h.k.k.1,trivial,E.u,D.u⟩)) λH v=>?_;have:J0 H.2.2.2.2.2.2.2.2.2.2.2.2.2.2.2.2.2.2.2.2.2=_:=Jj v.1.k.k.d;have:J0 H.2.2.2.2.2.2.2.2.2.2.2.2.2.2.2.2.2.2.2.2.1=J0 x1.2.2.2.2.2.2.2.2.2.2.2.2.2.2.2.2.2.2.2.2.1/\J0 H.2.2.2.2.2.2.2.2.2.2.2.2.2.2.2.2.2.2.2.2.2=J0 x1.2.2.2.2.2.2.2.2.2.2.2.2.2.2.2.2.2.2.2.2.2:=v.2;exact .some ⟨(⟨v.1.1.z.u,v.1.2.1,v.1.c.1,v.1.d.1,v.1.e.1,v.1.g.1,v.1.h.1,v.1.i.1,v.1.j.1,v.1.k.1,v.1.k.2.1,v.1.k.c.1,v.1.k.d.1,v.1.k.e.1,v.1.k.g.1,v.1.k.h.1,v.1.k.i.1,trivial,v.1.k.k.1,trivial,v.1.k.k.c⟩),om⟩
       ·refine .bind (J03 (B:=0) (S:=0) (fkn 1)) λa8 Z=>.some ⟨(⟨Z.1.u,h.2.1,h.c.1,h.d.1,h.e.1,h.g.1,h.h.1,h.i.1,h.j.1,h.k.1,h.k.2.1,h.k.c.1,h.k.d.1,h.k.e.1,h.k.g.1,h.k.h.1,h.k.i.1,trivial,h.k.k.1,trivial,E.u,D.u⟩),om⟩
theorem JDB{B S:Int}{x1:Ju×(List J4l)}(h:Ty.fit B S (.pr Jk (.l J0N)) x1)(av:BH B S:=by omega)(hB:B<=1000000:=by omega)(hS:S<=1000000000000:=by omega):Tot (Jbj x1) λy=>Ty.fit B S (.pr Jk (.pr (.l JX) (.l J0s))) y:=by
 unfold Jbj;refine Jd (τ:=Int×(List Int)×(List J6d)×Int×Int×Int×(List T_api_Entry)×Int×Int×(List J06)×Int×(List T_api_Grant)×(List T_api_Grant)×(List Js)×(List T_api_Row)×(List T_api_Row)×(List (List UInt8))×Int×(List Int)×Bool×(List JN)×Bool×(List J0H)) (λq=>(x1.2,q.1,x1.1,((0,0,(0,[],0),(0,[],0),([],[]),[],[],[]),[],0,[],false,[]),q.2.1,q.2.2.1,q.2.2.2.1,q.2.2.2.2.1,q.2.2.2.2.2.1,q.2.2.2.2.2.2.1,q.2.2.2.2.2.2.2.1,q.2.2.2.2.2.2.2.2.1,q.2.2.2.2.2.2.2.2.2.1,q.2.2.2.2.2.2.2.2.2.2.1,q.2.2.2.2.2.2.2.2.2.2.2.1,q.2.2.2.2.2.2.2.2.2.2.2.2.1,q.2.2.2.2.2.2.2.2.2.2.2.2.2.1,q.2.2.2.2.2.2.2.2.2.2.2.2.2.2.1,q.2.2.2.2.2.2.2.2.2.2.2.2.2.2.2.1,q.2.2.2.2.2.2.2.2.2.2.2.2.2.2.2.2.1,q.2.2.2.2.2.2.2.2.2.2.2.2.2.2.2.2.2.1,q.2.2.2.2.2.2.2.2.2.2.2.2.2.2.2.2.2.2.1,q.2.2.2.2.2.2.2.2.2.2.2.2.2.2.2.2.2.2.2.1,q.2.2.2.2.2.2.2.2.2.2.2.2.2.2.2.2.2.2.2.2.1,q.2.2.2.2.2.2.2.2.2.2.2.2.2.2.2.2.2.2.2.2.2.1,q.2.2.2.2.2.2.2.2.2.2.2.2.2.2.2.2.2.2.2.2.2.2)) (λq=>Ty.fit 0 0 (.i .i64) q.1/\Ty.fit 1000 S (.l (.i .i64)) q.2.1/\Ty.fit 1000 S (.l J0s) q.2.2.1/\Ty.fit 0 0 (.i .i64) q.2.2.2.1/\Ty.fit 0 0 (.i .i64) q.2.2.2.2.1/\Ty.fit 0 0 (.i .i64) q.2.2.2.2.2.1/\Ty.fit B S (.l J4) q.2.2.2.2.2.2.1/\Ty.fit 0 0 (.i .i64) q.2.2.2.2.2.2.2.1/\Ty.fit 0 0 (.i .i64) q.2.2.2.2.2.2.2.2.1/\Ty.fit B S (.l J02) q.2.2.2.2.2.2.2.2.2.1/\Ty.fit 0 0 (.i .i64) q.2.2.2.2.2.2.2.2.2.2.1/\Ty.fit B S (.l J8) q.2.2.2.2.2.2.2.2.2.2.2.1/\Ty.fit B S (.l J8) q.2.2.2.2.2.2.2.2.2.2.2.2.1/\Ty.fit B S (.l Jl) q.2.2.2.2.2.2.2.2.2.2.2.2.2.1/\Ty.fit B S (.l Jb) q.2.2.2.2.2.2.2.2.2.2.2.2.2.2.1/\Ty.fit B S (.l Jb) q.2.2.2.2.2.2.2.2.2.2.2.2.2.2.2.1/\Ty.fit B S (.l .s) q.2.2.2.2.2.2.2.2.2.2.2.2.2.2.2.2.1/\Ty.fit 0 0 (.i .i64) q.2.2.2.2.2.2.2.2.2.2.2.2.2.2.2.2.2.1/\Ty.fit B S (.l (.i .i64)) q.2.2.2.2.2.2.2.2.2.2.2.2.2.2.2.2.2.2.1/\Ty.fit B S (.l JL) q.2.2.2.2.2.2.2.2.2.2.2.2.2.2.2.2.2.2.2.2.1/\Ty.fit 1000 S (.l JX) q.2.2.2.2.2.2.2.2.2.2.2.2.2.2.2.2.2.2.2.2.2.2/\(0<=q.1)/\(q.1<=1000)/\(J0 q.2.1<=q.1)/\(J0 q.2.2.1<=q.1)/\(J0 q.2.2.2.2.2.2.2.2.2.2.2.2.2.2.2.2.2.2.2.2.2.2<=q.1)) (λq=>1001-q.1) ?_ (0,[],[],x1.1.1.1,x1.1.1.2.1,x1.1.1.2.2.1.1,x1.1.1.2.2.1.2.1,x1.1.1.2.2.1.2.2,x1.1.1.2.2.2.1.1,x1.1.1.2.2.2.1.2.1,x1.1.1.2.2.2.1.2.2,x1.1.1.2.2.2.2.1.1,x1.1.1.2.2.2.2.1.2,x1.1.1.2.2.2.2.2.1,x1.1.1.2.2.2.2.2.2.1,x1.1.1.2.2.2.2.2.2.2,x1.1.2.1,x1.1.2.2.1,x1.1.2.2.2.1,x1.1.2.2.2.2.1,x1.1.2.2.2.2.2,false,[]) rfl ?_
 ·rintro⟨O,A,w,an,ao,ap,aq,ac,ae,ak,am,af,ah,ai,a8,aa,al,aj,ag,a9,ab,ad,r⟩ Y;dsimp only at Y;obtain⟨i1,i2,N,V,Q,W,R,P,U,G,L,M,F,I,C,D,E,J,K,H,v,az,ax,ay,au,aw⟩:=Y;unfold JkF
  try dsimp only
  have:J0 A<=1000:=i2.1;have:=J3 (l:=A);have:J0 w<=1000:=N.1;have:=J3 (l:=w);have:J0 w=_:=Jj N;have:J0 r<=1000:=v.1;have:=J3 (l:=r);have:J0 r=_:=Jj v;have:J0 x1.2=_:=Jj h.2;refine .lt (λa5=>?_) λa5=>?_
  ·refine .lt (λa3=>?_) λa3=>?_
   ·refine .not (λa4=>?_) λa4=>?_
    ·refine .bind (Ji h.2) λy3 a6=>.bind (Jhx (B:=B) (S:=S) (⟨a6.1.z.u,V,Q,W,R,P,U,G,L,M,F,I,C,D,E,J,K,trivial,H,trivial,i2.u,N.u⟩) om om) λo n=>?_;have:J0 o.2.2.2.2.2.2.2.2.2.2.2.2.2.2.2.2.2.2.2.2.2=_:=Jj n.1.k.k.d;have:J0 o.2.2.2.2.2.2.2.2.2.2.2.2.2.2.2.2.2.2.2.2.1<=J0 A+1/\J0 o.2.2.2.2.2.2.2.2.2.2.2.2.2.2.2.2.2.2.2.2.2<=J0 w+1:=n.2;refine .bind (J0n (B:=1001) (Bl:=1000) (Bm:=1) (S:=S) (J0 r) 1 v (J0d (B:=1) (S:=S) (t:=JX) oo (n.1.1.z.u))) λT Z=>?_;have a7:Ty.fit 1000 S (.l (.i .i64)) o.2.2.2.2.2.2.2.2.2.2.2.2.2.2.2.2.2.2.2.2.1:=⟨(by omega:J0 o.2.2.2.2.2.2.2.2.2.2.2.2.2.2.2.2.2.2.2.2.1<=1000),λx hx=>n.1.k.k.c.1.2 x hx⟩;have a2:Ty.fit 1000 S (.l J0s) o.2.2.2.2.2.2.2.2.2.2.2.2.2.2.2.2.2.2.2.2.2:=⟨(by omega:J0 o.2.2.2.2.2.2.2.2.2.2.2.2.2.2.2.2.2.2.2.2.2<=1000),λx hx=>n.1.k.k.e x hx⟩;have:J0 T=_:=Jj Z.1;have a1:Ty.fit 1000 S (.l JX) T:=⟨(by omega:J0 T<=1000),λx hx=>Z.1.2 x hx⟩;have:=Jh O 1;exact .some ⟨(J1 .i64 O 1,o.2.2.2.2.2.2.2.2.2.2.2.2.2.2.2.2.2.2.2.2.1,o.2.2.2.2.2.2.2.2.2.2.2.2.2.2.2.2.2.2.2.2.2,o.2.1,o.2.2.1,o.2.2.2.1,o.2.2.2.2.1,o.2.2.2.2.2.1,o.2.2.2.2.2.2.1,o.2.2.2.2.2.2.2.1,o.2.2.2.2.2.2.2.2.1,o.2.2.2.2.2.2.2.2.2.1,o.2.2.2.2.2.2.2.2.2.2.1,o.2.2.2.2.2.2.2.2.2.2.2.1,o.2.2.2.2.2.2.2.2.2.2.2.2.1,o.2.2.2.2.2.2.2.2.2.2.2.2.2.1,o.2.2.2.2.2.2.2.2.2.2.2.2.2.2.1,o.2.2.2.2.2.2.2.2.2.2.2.2.2.2.2.1,o.2.2.2.2.2.2.2.2.2.2.2.2.2.2.2.2.1,o.2.2.2.2.2.2.2.2.2.2.2.2.2.2.2.2.2.1,o.2.2.2.2.2.2.2.2.2.2.2.2.2.2.2.2.2.2.1,o.2.2.2.2.2.2.2.2.2.2.2.2.2.2.2.2.2.2.2.1,T),rfl,⟨J5,a7,a2,n.1.2.1,n.1.c.1,n.1.d.1,n.1.e.1,n.1.g.1,n.1.h.1,n.1.i.1,n.1.j.1,n.1.k.1,n.1.k.2.1,n.1.k.c.1,n.1.k.d.1,n.1.k.e.1,n.1.k.g.1,n.1.k.h.1,n.1.k.i.1,n.1.k.k.1,a1,om,om,om,om,om⟩,om,om⟩
    ·exact .some (⟨⟨⟨V,Q,⟨W,R,P⟩,⟨U,G,L⟩,⟨M,F⟩,I,C,D⟩,E,J,K,trivial,H⟩,v.u,N.u⟩)
   ·exact .some (⟨⟨⟨V,Q,⟨W,R,P⟩,⟨U,G,L⟩,⟨M,F⟩,I,C,D⟩,E,J,K,trivial,H⟩,v.u,N.u⟩)
  ·exact .some (⟨⟨⟨V,Q,⟨W,R,P⟩,⟨U,G,L⟩,⟨M,F⟩,I,C,D⟩,E,J,K,trivial,H⟩,v.u,N.u⟩)
 ·try dsimp only
  exact⟨fk0,Ja,Ja,h.1.1.1,h.1.1.2.1,h.1.1.c.1.1,h.1.1.c.1.2.1,h.1.1.c.1.c,h.1.1.d.1.1,h.1.1.d.1.2.1,h.1.1.d.1.c,h.1.1.e.1.1,h.1.1.e.1.2,h.1.1.g.1,h.1.1.h.1,h.1.1.i,h.1.2.1,h.1.c.1,h.1.d.1,h.1.g,Ja,om,om,om,om,om⟩
theorem Jjv{B S:Int}{x1:JGu}(h:Ty.fit B S JG8 x1)(p0:0<=x1.2.2.2)(w:0<=x1.1)(q:x1.1<=1000)(o:BH B S:=by omega)(A:B<=1000000:=by omega)(z:S<=1000000000000:=by omega):Tot (J4i x1) λy=>Ty.fit B S (.pr Jk J6) y/\(0<=y.2.2):=by unfold J4i;refine .bind (Jn (B:=B) (S:=S) (⟨fkn 4,h.c⟩) om) λC h3=>?_;have:=J2.1 h3.1.c;refine .bind (Jn (B:=B) (S:=S) (⟨fkn 3,h3.1.2⟩) om) λr j=>?_;have:=J2.1 j.1.c;refine .bind (JDi (B:=0) (S:=0) (⟨J5,J5⟩)) λx k=>.bind (Jhy (B:=B) (S:=S) (⟨J5,h.1,trivial,j.1.2⟩) om om om) λn e=>?_;have:0<=n.2.2:=e.2;refine .bind (JDB (B:=B) (S:=S) (⟨k.1.u,e.1.1⟩)) λv g=>.some ⟨(⟨g.1,e.1.2⟩),om⟩
theorem Jm4{B S:Int}{x1:JGu}(h:Ty.fit B S JG8 x1)(p0:0<=x1.2.2.2)(j:0<=x1.1)(n:x1.1<=1000)(g:BH B S:=by omega)(o:B<=1000000:=by omega)(k:S<=1000000000000:=by omega):Tot (J4T x1) λy=>Ty.fit B S (.pr J7 J6) y/\(0<=y.2.2):=by unfold J4T;refine .bind (Jjv (B:=B) (S:=S) (⟨h.1,trivial,h.c⟩) om om om) λe h3=>?_;have:0<=e.2.2:=h3.2;exact .some ⟨(⟨h3.1.1.1,h3.1.2⟩),om⟩
theorem JH9{B S:Int}{x1:JbV}(h:Ty.fit B S tq9 x1)(p0:0<=x1.2.2)(n:0<=x1.1)(r:x1.1<=1000)(k:BH B S:=by omega)(v:B<=1000000:=by omega)(q:S<=1000000000000:=by omega):Tot (Jcz x1) λy=>Ty.fit B S (.pr (.i .i64) (.pr JQ J6)) y/\(0<=y.2.2.2):=by unfold Jcz;refine .bind (Jm4 (B:=B) (S:=S) (⟨h.1,trivial,h.2⟩) om om om) λj h3=>?_;have:0<=j.2.2:=h3.2;refine .bind (J7m h3.1.1.c.1) λo e=>.bind (J8H (B:=B) (S:=S) (⟨h3.1.1.c.1,e⟩)) λw g=>.some ⟨(⟨h3.1.1.1,g.1.1.u,h3.1.2⟩),om⟩
theorem J6D{B S:Int}{x1:JKA}(h:Ty.fit B S JMm x1)(r:BS B S 0 0:=by omega):Tot (J1g x1) λy=>Ty.fit 0 0 (.i .i64) y:=by
 unfold J1g;have s0:Ty.fit 0 S JMm x1:=h;refine .ltf (λq=>?_) λq=>?_
 ·refine .eq (λo=>?_) λo=>?_
  ·have:=J2.1 s0.1.1;refine .lt (λn=>?_) λn=>?_
   ·exact .some (fkn (-1))
   ·refine .eq (λk=>?_) λk=>?_
    ·refine .eq (λj=>?_) λj=>?_
     ·exact .some fk0
     ·exact .some (fkn 1)
    ·exact .some (fkn 1)
  ·refine .eq (λe=>?_) λe=>?_
   ·have:=J2.1 s0.1.1;refine .eq (λg=>?_) λg=>?_
    ·exact .some fk0
    ·exact .some (fkn 1)
   ·exact .some (fkn 1)
 ·exact .some (fkn (-1))
theorem JuA{B S:Int}{x1:(List T_api_Entry)×T_api_Entry}(h:Ty.fit B S (.pr (.l J4) J4) x1)(ai:BS B S 0 0:=by omega)(hB:B<=17179869183:=by omega):Tot (J7K x1) λy=>Ty.fit (2*B+1) S (.pr (.l J4) .b) y/\(J0 y.1<=J0 x1.1+1):=by
 unfold J7K;have:J0 x1.1<=B:=h.1.1;have:=J3 (l:=x1.1);have:J0 x1.1=_:=Jj h.1;refine Jd (τ:=Int) (λq=>(x1.1,q,x1.2)) (λq=>(Ty.fit 0 0 (.i .i64) q/\0<=q/\(q<=J0 x1.1\/q<=0))) (λq=>J0 x1.1-q) ?_ 0 rfl ?_
 ·rintro v ⟨i4,w5,z6⟩;unfold JcR
  try dsimp only
  have:=J2.1 i4;refine .lt (λc7=>?_) λc7=>?_
  ·refine .bind (Ji h.1) λy3 O=>.bind (J6D (B:=0) (S:=S) (⟨O.1.z,h.2.z⟩)) λy4 a8=>.lt (λL=>?_) λL=>?_
   ·have:=Jh v 1;exact .some ⟨J1 .i64 v 1,rfl,⟨J5,om,om⟩,om,om⟩
   ·refine .inr ?_;refine .lt (λJ=>?_) λJ=>?_
    ·refine .bind (Ji h.1) λy5 a2=>.bind (J6D (B:=0) (S:=S) (⟨a2.1.z,h.2.z⟩)) λy6 ab=>.eq (λa4=>?_) λa4=>?_
     ·refine .bind (Ji h.1) λy7 aa=>.some ⟨(⟨h.1.u,trivial⟩),om⟩
     ·refine .bind (J5p h.1) λH g=>.clo g.1 oo (by decide) ?_;have:J0 H<=B:=g.1.1;have:J0 H=_:=Jj g.1;refine .bind (J0n (B:=(B+1)) (Bl:=B) (Bm:=1) (S:=S) (J0 H) 1 g.1 (J0d (B:=1) (S:=S) (t:=J4) oo (h.2.z.u))) λx E=>.bind (J35 h.1) λr o=>?_;have:J0 x=_:=Jj E.1;have:J0 r<=B:=o.1.1;have:J0 r=_:=Jj o.1;refine .bind (J0n (B:=(2*B+1)) (Bl:=(B+1)) (Bm:=B) (S:=S) (J0 x) (J0 r) E.1 o.1) λY A=>?_;have:J0 Y=_:=Jj A.1;exact .some ⟨(⟨A.1,trivial⟩),om⟩
    ·refine .bind (J5p h.1) λK F=>.clo F.1 oo (by decide) ?_;refine .bind (J0n (B:=(B+1)) (Bl:=B) (Bm:=1) (S:=S) (J0 K) 1 F.1 (J0d (B:=1) (S:=S) (t:=J4) oo (h.2.z.u))) λQ W=>.bind (J35 h.1) λV a5=>.bind (J0n (B:=(2*B+1)) (Bl:=(B+1)) (Bm:=B) (S:=S) (J0 Q) (J0 V) W.1 a5.1) λae a0=>.some ⟨(⟨a0.1,trivial⟩),om⟩
  ·refine .inr ?_;refine .lt (λT=>?_) λT=>?_
   ·refine .bind (Ji h.1) λaf a1=>.bind (J6D (B:=0) (S:=S) (⟨a1.1.z,h.2.z⟩)) λah ad=>.eq (λP=>?_) λP=>?_
    ·refine .bind (Ji h.1) λag a9=>.some ⟨(⟨h.1.u,trivial⟩),om⟩
    ·refine .bind (J5p h.1) λM D=>.clo D.1 oo (by decide) ?_;refine .bind (J0n (B:=(B+1)) (Bl:=B) (Bm:=1) (S:=S) (J0 M) 1 D.1 (J0d (B:=1) (S:=S) (t:=J4) oo (h.2.z.u))) λR I=>.bind (J35 h.1) λN U=>.bind (J0n (B:=(2*B+1)) (Bl:=(B+1)) (Bm:=B) (S:=S) (J0 R) (J0 N) I.1 U.1) λac a3=>.some ⟨(⟨a3.1,trivial⟩),om⟩
   ·refine .bind (J5p h.1) λj e=>.clo e.1 oo (by decide) ?_;have:J0 j<=B:=e.1.1;have:J0 j=_:=Jj e.1;refine .bind (J0n (B:=(B+1)) (Bl:=B) (Bm:=1) (S:=S) (J0 j) 1 e.1 (J0d (B:=1) (S:=S) (t:=J4) oo (h.2.z.u))) λG C=>.bind (J35 h.1) λw k=>?_;have:J0 G=_:=Jj C.1;have:=J3 (l:=w);have:J0 w=_:=Jj k.1;refine .bind (J0n (B:=(2*B+1)) (Bl:=(B+1)) (Bm:=B) (S:=S) (J0 G) (J0 w) C.1 k.1) λZ n=>?_;have:J0 Z=_:=Jj n.1;exact .some ⟨(⟨n.1,trivial⟩),om⟩
 ·try dsimp only
  exact⟨fk0,oo,oo⟩
theorem Jeo{B S:Int}{x1:Int×Int×T_api_Row}(h:Ty.fit B S (.pr (.i .i64) (.pr (.i .i64) Jb)) x1)(v:BS B S 0 0:=by omega):Tot (J1S x1) λy=>Ty.fit 0 0 .b y:=by
 unfold J1S;refine .ge (λr=>?_) λr=>?_
 ·have:=J2.1 h.2.1;refine .le (λk=>?_) λk=>?_
  ·refine .le (λq=>?_) λq=>?_
   ·have:=J2.1 h.c.1;refine .ge (λo=>?_) λo=>?_
    ·have:=J2.1 h.d.1;refine .le (λn=>?_) λn=>?_
     ·refine .lt (λg=>?_) λg=>?_
      ·have:=J2.1 h.e;refine .ge (λj=>?_) λj=>?_
       ·exact .some trivial
       ·exact .some trivial
      ·exact .some trivial
     ·exact .some trivial
    ·exact .some trivial
   ·exact .some trivial
  ·exact .some trivial
 ·exact .some trivial
theorem Jwt{B S:Int}{x1:JC}(h:Ty.fit B S J0F x1)(a3:BS B S 0 0:=by omega)(hB:B<=9223372036854775807:=by omega):Tot (J1x x1) λy=>Ty.fit 0 0 .b y:=by
 unfold J1x;refine .bind (Jeo (B:=0) (S:=0) (⟨h.1,h.2.1,h.c.1,h.d.1,h.e.1⟩)) λy2 h1=>.nof (λW=>?_) λW=>?_
 ·have:J0 x1.2.2.2.2.2<=B:=h.g.1;have:=J3 (l:=x1.2.2.2.2.2);have:J0 x1.2.2.2.2.2=_:=Jj h.g;refine .gt (λY=>?_) λY=>?_
  ·exact .some trivial
  ·refine Jd (τ:=Int) (λq=>(q,x1)) (λq=>(Ty.fit 0 0 (.i .i64) q/\0<=q/\(q<=J0 x1.2.2.2.2.2\/q<=0))) (λq=>J0 x1.2.2.2.2.2-q) ?_ 0 rfl ?_
   ·rintro j ⟨V,w8,z9⟩;unfold J6R
    try dsimp only
    have:=J2.1 V;refine .lt (λL=>?_) λL=>?_
    ·refine .bind (Ji h.g) λr n=>.bind ((J2n (B:=0) (S:=S) (x1:=r) n.1.z).eqn) λy5 w=>.nof (λk=>?_) λk=>?_
     ·have E:=J22 (x:=r) n.1.z w.2 k;have o:Ty.fit 0 8192 J4 r:=E.2;refine .bind (J1y o) λy6 a5=>.nof (λA=>?_) λA=>?_
      ·have:=J2.1 h.1;refine .ltf (λO=>?_) λO=>?_
       ·have:=J2.1 h.2.1;refine .gtf (λC=>?_) λC=>?_
        ·have:=J2.1 h.c.1;refine .ltf (λM=>?_) λM=>?_
         ·have:=J2.1 h.d.1;refine .gt (λT=>?_) λT=>?_
          ·exact .some trivial
          ·refine .gt (λN=>?_) λN=>?_
           ·have:=J0E j 1;refine .bind (Ji h.g) λy7 K=>.bind (J6D (B:=0) (S:=(S+8192)) (⟨K.1.z.u,o.u⟩)) λy8 a6=>.ge (λQ=>?_) λQ=>?_
            ·exact .some trivial
            ·refine .gt (λD=>?_) λD=>?_
             ·refine .bind (Ji h.g) λy9 a0=>.eq (λv=>?_) λv=>?_
              ·refine .bind (Ji h.g) λa1 a2=>.ne (λG=>?_) λG=>?_
               ·exact .some trivial
               ·have:=Jh j 1;exact .some ⟨J1 .i64 j 1,rfl,⟨J5,om,om⟩,om,om⟩
              ·refine .ge (λU=>?_) λU=>?_
               ·exact .some trivial
               ·have:=Jh j 1;exact .some ⟨J1 .i64 j 1,rfl,⟨J5,om,om⟩,om,om⟩
             ·refine .ge (λH=>?_) λH=>?_
              ·exact .some trivial
              ·have:=Jh j 1;exact .some ⟨J1 .i64 j 1,rfl,⟨J5,om,om⟩,om,om⟩
           ·refine .gt (λP=>?_) λP=>?_
            ·have:=J0E j 1;refine .bind (Ji h.g) λa8 Z=>.eq (λF=>?_) λF=>?_
             ·refine .bind (Ji h.g) λa4 a7=>.ne (λJ=>?_) λJ=>?_
              ·exact .some trivial
              ·have:=Jh j 1;exact .some ⟨J1 .i64 j 1,rfl,⟨J5,om,om⟩,om,om⟩
             ·refine .ge (λI=>?_) λI=>?_
              ·exact .some trivial
              ·have:=Jh j 1;exact .some ⟨J1 .i64 j 1,rfl,⟨J5,om,om⟩,om,om⟩
            ·refine .ge (λR=>?_) λR=>?_
             ·exact .some trivial
             ·have:=Jh j 1;exact .some ⟨J1 .i64 j 1,rfl,⟨J5,om,om⟩,om,om⟩
         ·exact .some trivial
        ·exact .some trivial
       ·exact .some trivial
      ·exact .some trivial
     ·exact .some trivial
    ·exact .some trivial
   ·try dsimp only
    exact⟨fk0,oo,oo⟩
 ·exact .some trivial
theorem Jdo{B S:Int}{x1:JJe}(h:Ty.fit B S (.pr (.l J4) (.pr (.i .i64) (.pr (.i .i64) Jb))) x1)(af:BS B S 0 0:=by omega)(hB:B<=17179869183:=by omega):Tot (J3c x1) λy=>Ty.fit B S JOy y:=by
 unfold J3c;refine .bind (Jeo (B:=0) (S:=0) (h.2)) λy2 h1=>.not (λc2=>?_) λc2=>?_
 ·exact .some (⟨fzr,fkn 1⟩)
 ·have:J0 x1.1<=B:=h.1.1;have:=J3 (l:=x1.1);have:J0 x1.1=_:=Jj h.1;refine Jd (τ:=Int) (λq=>(x1.1,x1.2.1,x1.2.2.1,x1.2.2.2.1,x1.2.2.2.2.1,x1.2.2.2.2.2,q,0,0,0,0,0,[])) (λq=>(Ty.fit 0 0 (.i .i64) q/\0<=q/\(q<=J0 x1.1\/q<=0))) (λq=>J0 x1.1-q) ?_ 0 rfl ?_
  ·rintro C ⟨i6,w7,z8⟩;unfold JaF
   try dsimp only
   have:=J2.1 i6;have:=J3 (l:=x1.1);refine .lt (λc9=>?_) λc9=>?_
   ·refine .bind (Ji h.1) λU D=>.bind ((J2n (B:=0) (S:=S) (x1:=U) D.1.z).eqn) λy5 N=>.not (λG=>?_) λG=>?_
    ·exact .some (⟨fzr,fkn 12⟩)
    ·have ak:=J22 (x:=U) D.1.z N.2 G;have:=Jh C 1;exact .some ⟨J1 .i64 C 1,rfl,⟨J5,om,om⟩,om,om⟩
   ·refine .inr ?_;refine Jd (τ:=Bool×Int×JC) (λq=>(x1.1,x1.2.1,x1.2.2.1,x1.2.2.2.1,x1.2.2.2.2.1,q.1,q.2.1,(0,0,0,0,0,[]),q.2.2)) (λq=>Ty.fit 0 0 (.i .i64) q.2.1/\Ty.fit B S J0F q.2.2/\(0<=q.2.1)/\(q.2.1<=J0 x1.1)/\(J0 q.2.2.2.2.2.2.2<=q.2.1)) (λq=>J0 x1.1-q.2.1) ?_ (false,0,(x1.2.1,x1.2.2.1,x1.2.2.2.1,x1.2.2.2.2.1,x1.2.2.2.2.2,[])) rfl ?_
    ·rintro⟨o,n,j⟩ E;dsimp only at E;obtain⟨a2,k,al,a9,ab⟩:=E;unfold JaX
     try dsimp only
     have:=J2.1 a2;have:J0 j.2.2.2.2.2<=B:=k.2.2.2.2.2.1;have:=J3 (l:=j.2.2.2.2.2);have:J0 j.2.2.2.2.2=_:=Jj k.2.2.2.2.2;refine .lt (λP=>?_) λP=>?_
     ·refine .bind (Ji h.1) λI w=>.bind (J1y (B:=0) (S:=S) w.1.z) λy8 ac=>.nof (λL=>?_) λL=>?_
      ·have:=J2.1 w.1.z.2.2.2.2.2.2.1.1;refine .ltf (λW=>?_) λW=>?_
       ·have:=J2.1 h.e.1;refine .gtf (λO=>?_) λO=>?_
        ·have:=J2.1 w.1.z.1;refine .ltf (λR=>?_) λR=>?_
         ·have:=J2.1 h.c.1;refine .gt (λV=>?_) λV=>?_
          ·have am:Ty.fit B S (.l J4) j.2.2.2.2.2:=⟨(by omega:J0 j.2.2.2.2.2<=B),λx hx=>k.2.2.2.2.2.2 x hx⟩;have:=Jh n 1;exact .some ⟨(o,J1 .i64 n 1,j),rfl,⟨J5,k,om,om,om⟩,om,om⟩
          ·refine Jd (τ:=Bool×Int) (λq=>(x1.1,x1.2.1,x1.2.2.1,x1.2.2.2.1,x1.2.2.2.2.1,q.1,n,q.2,(0,0,0,0,0,[]),j,I)) (λq=>(Ty.fit 0 0 (.i .i64) q.2/\0<=q.2/\(q.2<=J0 j.2.2.2.2.2\/q.2<=0))) (λq=>J0 j.2.2.2.2.2-q.2) ?_ (o,0) rfl ?_
           ·rintro⟨H,r⟩ F;dsimp only at F;obtain⟨T,an,aj⟩:=F;unfold JaD
            try dsimp only
            have:=J2.1 T;refine .lt (λQ=>?_) λQ=>?_
            ·refine .itf (λM=>?_) λM=>?_
             ·refine .bind (Ji k.2.2.2.2.2) λa6 ad=>.eq (λa1=>?_) λa1=>?_
              ·refine .bind (Ji k.2.2.2.2.2) λa0 ai=>?_;have:=Jh r 1;exact .some ⟨(Jo (eqT J4 a0 I),J1 .i64 r 1),rfl,⟨J5,om,om⟩,om,om⟩
              ·have:=Jh r 1;exact .some ⟨(false,J1 .i64 r 1),rfl,⟨J5,om,om⟩,om,om⟩
             ·have:=Jh r 1;exact .some ⟨(true,J1 .i64 r 1),rfl,⟨J5,om,om⟩,om,om⟩
            ·refine .inr ?_;refine .bind (JuA (B:=B) (S:=S) (⟨k.2.2.2.2.2,w.1.z.u⟩)) λv A=>?_;have:J0 v.1=_:=Jj A.1.1;have:J0 v.1<=J0 j.2.2.2.2.2+1:=A.2;have K:Ty.fit B S (.l J4) v.1:=⟨(by omega:J0 v.1<=B),λx hx=>A.1.1.2 x hx⟩;have:=Jh n 1;exact .some ⟨(H,J1 .i64 n 1,(j.1,j.2.1,j.2.2.1,j.2.2.2.1,j.2.2.2.2.1,v.1)),rfl,⟨J5,⟨k.1,k.2.1,k.2.2.1,k.2.2.2.1,k.2.2.2.2.1,K⟩,om,om,om⟩,om,om⟩
           ·try dsimp only
            exact⟨fk0,oo,oo⟩
         ·have ag:Ty.fit B S (.l J4) j.2.2.2.2.2:=⟨(by omega:J0 j.2.2.2.2.2<=B),λx hx=>k.2.2.2.2.2.2 x hx⟩;have:=Jh n 1;exact .some ⟨(o,J1 .i64 n 1,j),rfl,⟨J5,k,om,om,om⟩,om,om⟩
        ·have aa:Ty.fit B S (.l J4) j.2.2.2.2.2:=⟨(by omega:J0 j.2.2.2.2.2<=B),λx hx=>k.2.2.2.2.2.2 x hx⟩;have:=Jh n 1;exact .some ⟨(o,J1 .i64 n 1,j),rfl,⟨J5,k,om,om,om⟩,om,om⟩
       ·have ah:Ty.fit B S (.l J4) j.2.2.2.2.2:=⟨(by omega:J0 j.2.2.2.2.2<=B),λx hx=>k.2.2.2.2.2.2 x hx⟩;have:=Jh n 1;exact .some ⟨(o,J1 .i64 n 1,j),rfl,⟨J5,k,om,om,om⟩,om,om⟩
      ·have ae:Ty.fit B S (.l J4) j.2.2.2.2.2:=⟨(by omega:J0 j.2.2.2.2.2<=B),λx hx=>k.2.2.2.2.2.2 x hx⟩;have:=Jh n 1;exact .some ⟨(o,J1 .i64 n 1,j),rfl,⟨J5,k,om,om,om⟩,om,om⟩
     ·refine .inr ?_;refine .ite (λZ=>?_) λZ=>?_
      ·exact .some (⟨fzr,fkn 41⟩)
      ·refine .gt (λY=>?_) λY=>?_
       ·exact .some (⟨fzr,fkn 21⟩)
       ·refine .bind (Jwt k) λa8 a7=>.not (λJ=>?_) λJ=>?_
        ·exact .some (⟨fzr,fkn 13⟩)
        ·exact .some (⟨k,fk0⟩)
    ·try dsimp only
     exact⟨fk0,⟨h.2.1,h.c.1,h.d.1,h.e.1,h.g,Ja⟩,om,om,om⟩
  ·try dsimp only
   exact⟨fk0,oo,oo⟩
theorem Jyl{B S:Int}{x1:Jw}(h:Ty.fit B S J6 x1)(p0:0<=x1.2)(C:BH B S:=by omega)(L:B<=1000000:=by omega)(K:S<=1000000000000:=by omega):Tot (J3j x1) λy=>Ty.fit B S (.pr J0F (.pr J0F (.pr J0F J6))) y/\(0<=y.2.2.2.2):=by unfold J3j;refine .bind (JH9 (B:=B) (S:=S) (⟨fkn 30,h⟩) om om om) λw h2=>?_;have:0<=w.2.2.2:=h2.2;refine .bind (Jn (B:=B) (S:=S) (⟨fkn 3,h2.1.c⟩) om) λE h5=>?_;have:=J2.1 h5.1.c;refine .bind (Jn (B:=B) (S:=S) (⟨fkn 4,h5.1.2⟩) om) λJ v=>?_;have:=J2.1 v.1.c;refine .bind (Jn (B:=B) (S:=S) (⟨fkn 15,v.1.2⟩) om) λG k=>?_;have:=J2.1 k.1.c;refine .bind (Jn (B:=B) (S:=S) (⟨fkn 15,k.1.2⟩) om) λH n=>?_;have:=J2.1 n.1.c;refine .bind (Jn (B:=B) (S:=S) (⟨fkn 3,n.1.2⟩) om) λD e=>?_;have:=J2.1 e.1.c;refine .bind (Jdo (B:=B) (S:=S) (⟨h2.1.2.1.2.1,fkn 1,J5,h5.1.1,J5,e.1.1⟩)) λF q=>.bind (Jn (B:=B) (S:=S) (⟨fkn 3,e.1.2⟩) om) λI g=>?_;have:=J2.1 g.1.c;refine .bind (Jdo (B:=B) (S:=S) (⟨h2.1.2.1.2.1,J5,J5,h5.1.1,J5,g.1.1⟩)) λx r=>.bind (Jn (B:=B) (S:=S) (⟨fkn 9,g.1.2⟩) om) λA j=>?_;have:=J2.1 j.1.c;refine .bind (Jdo (B:=B) (S:=S) (⟨h2.1.2.1.2.1,J5,J5,h5.1.1,J5,j.1.1⟩)) λz o=>.some ⟨(⟨q.1,r.1,o.1,j.1.2⟩),om⟩
end Go.Am
end
section
namespace Go.Am
section
variable (P:Program)
def J9K:Nat->TypeId->Bool
 |0,_=>false
 |n+1,t=>match P.underlying t with
  |some .bool=>true
  |some (.int _)=>true
  |some .string=>true
  |some (.slice e)=>J9K n e&&decide (t<P.types.size/\0<P.cellsOf e)
  |some (.struct fs)=>fs.toList.all (λf=>J9K n f.type)&&decide (t<P.types.size)
  |some (.array _ e)=>J9K n e&&decide (t<P.types.size)
  |_=>false
def J4U:Nat->TypeId->List PV->Prop
 |0,_,_=>False
 |n+1,t,pvs=>match P.underlying t with
  |some .bool=> ∃b,pvs=[.b b]
  |some (.int k)=> ∃z,pvs=[.i k z]/\(Lit.int k z).wf=true
  |some .string=> ∃l,pvs=[.s l]/\l.length<=maxLen
  |some (.slice e)=> ∃rows,pvs=[.sl (P.cellsOf e) rows]/\rows.length<=maxLen/\ ∀row∈rows,row.length=P.cellsOf e/\J4U n e row
  |some (.struct fs)=>pvs.length=P.cellsOf t/\ ∀f∈fs.toList,J4U n f.type ((pvs.drop f.offset).take (P.cellsOf f.type))
  |some (.array m e)=>pvs.length=P.cellsOf t/\ ∀i,i<m->J4U n e ((pvs.drop (i*P.cellsOf e)).take (P.cellsOf e))
  |_=>False
end
section
variable {H:Type} {enc:TypeId×Value->H} {P:Program} {w:World} {base:Nat} {sp:Nat->Bool} {held:Bool}
def JGx(w:World)(pvs:List PV)(cs:List Value):Prop:=pvs.length=cs.length/\ ∀(i:Nat) p v,pvs[i]?=some p->cs[i]?=some v->J0w w (λr _=>r<w.heap.size) p v
theorem Jwj{a:Addr}{v:Value}(h:w.cell? a=some v):a.spot=none/\J0V w a.block a.off=some v/\a.block<w.heap.size:=by
 unfold World.cell? at h;unfold J0V;split at h
 ·rename_i c t fz hb;split at h
  ·cases h
  ·rename_i hs;refine⟨by simpa using hs,by rw[hb];exact h,?_⟩;have:=JGf.1 hb;exact this.1
 ·cases h
theorem JJF{a:Addr}{n:Nat}{cs:List Value}(h:w.cells? base a n=some cs):cs.length=n/\ ∀i v,cs[i]?=some v->w.cell? (a.add i)=some v:=by
 unfold World.cells? at h;split at h
 ·have hl:=mapM_some_length h;refine⟨by simpa using hl,λi v hv=>?_⟩;have hi:i<n:=by have:=(J6y.1 hv).1;simp at hl;omega
  have:=mapM_some_get h i i (by simp[hi]);rw[this,hv]
 ·cases h
theorem JsJ{α:Type}(Q:Nat->α->Prop): ∀(m:Nat),(∀i,i<m-> ∃x,Q i x)-> ∃xs:List α,xs.length=m/\ ∀i x,xs[i]?=some x->Q i x
 |0,_=>⟨[],rfl,λi x h=>by simp at h⟩
 |m+1,h=>by
  obtain⟨xs,hl,hx⟩:=JsJ Q m (λi hi=>h i (by omega));obtain⟨y,hy⟩:=h m (by omega);refine⟨xs++[y],by simp[hl],λi x hi=>?_⟩;rcases zQ1 i xs.length with g|e
  ·rw[J81 g]at hi;exact hx i x hi
  ·rw[J7Z e]at hi;have:i-xs.length=0:=by have:=(J6y.1 hi).1;simp at this;omega
   rw[this]at hi;simp at hi;subst hi;obtain rfl:i=m:=by omega
   exact hy
theorem Jnp{α:Type}: ∀(xs:List (List α)) (j:Nat) (y:List α),xs[j]?=some y->(xs.flatten.drop ((xs.take j).map List.length).sum).take y.length=y
 |[],j,y,h=>by simp at h
 |x::xs,0,y,h=>by simp at h;subst h;simp
 |x::xs,j+1,y,h=>by
  simp at h;have:=Jnp xs j y h;simp only[JH7,J0C,List.sum_cons,J86,JKE];exact this
theorem JLv(hl:laidOutB P=true)(hm:mapsRowed P=true): ∀(n:Nat) (t:TypeId) (cs:List Value) (x:DataW H×List MemPlace) (S:Nat),J9K P n t=true->DataW.trod enc P w base sp held S t cs=some x->
  ∃pvs,J4U P n t pvs/\JGx w pvs cs:=by
 have K:=kids_rows hl hm;intro n
 induction n with
 |zero=>intro t cs x S hp;simp[J9K]at hp
 |succ n ih=>
  intro t cs x S hp h;unfold J9K at hp;unfold J4U;split at hp
  ·rename_i C;obtain⟨b,rfl,_⟩:=DataW.trod_bool C h;refine⟨[.b b],by simp,rfl,λi p v h1 h2=>?_⟩
   match i with
   |0=>simp at h1 h2;subst h1 h2;exact .b _
   |i+1=>simp at h1
  ·rename_i k C;obtain⟨z,rfl,_,ak⟩:=DataW.trod_int C h;refine⟨[.i k z],by simpa using ak,rfl,λi p v h1 h2=>?_⟩
   match i with
   |0=>simp at h1 h2;subst h1 h2;exact .i _ _
   |i+1=>simp at h1
  ·rename_i C;obtain⟨s,rfl,_,ag⟩:=DataW.trod_string C h;refine⟨[.s s.data.toList],⟨_,rfl,by rw[Array.length_toList];exact ag⟩,rfl,λi p v h1 h2=>?_⟩
   match i with
   |0=>simp at h1 h2;subst h1 h2;exact .s _
   |i+1=>simp at h1
  ·rename_i e C;simp only[JW,decide_eq_true_eq]at hp;rcases DataW.trod_slice C h with⟨rfl,_⟩|⟨a,len,cap,a6,rest,n0,_,rfl,_,_,av,hcm,aw,O,_⟩
   ·refine⟨[.sl (P.cellsOf e) []],⟨[],rfl,zQ5 _,by simp⟩,rfl,λi p v h1 h2=>?_⟩
    match i with
    |0=>simp at h1 h2;subst h1 h2;exact .sl0 _ _ _
    |i+1=>simp at h1
   ·
    have ad: ∀i,i<len-> ∃row:List PV,(row.length=P.cellsOf e/\J4U P n e row)/\ ∀j p,row[j]?=some p-> ∃v,w.cell? (a.add (i*P.cellsOf e)|>.add j)=some v/\J0w w (λr _=>r<w.heap.size) p v:=by
     intro i hi;have h1:=O i hi;have h2: ∃y,a6[i]?=some y:=⟨_,JD (by omega)⟩;obtain⟨y,hy⟩:=h2;rw[hy,J2i]at h1;obtain⟨cs',hc,af⟩:=h1;obtain⟨row,q1,q2,q3⟩:=ih e cs' y n0 hp.1 af;obtain⟨c1,c2⟩:=JJF hc;refine⟨row,⟨by omega,q1⟩,λj p hj=>?_⟩;have M:j<cs'.length:=by have:=(J6y.1 hj).1;omega
     have hv:=JD M;exact⟨_,c2 j _ hv,q3 j p _ hj hv⟩
    obtain⟨rows,aj,B⟩:=JsJ _ len ad;refine⟨[.sl (P.cellsOf e) rows],⟨rows,rfl,by omega,λrow hr=>?_⟩,rfl,λi p v h1 h2=>?_⟩
    ·obtain⟨i,hi⟩:=J87 hr;exact(B i row hi).1
    match i with
    |i+1=>simp at h1
    |0=>
     simp at h1 h2;subst h1 h2;by_cases h0: ∃(i j:Nat) (row:List PV) (p:PV),rows[i]?=some row/\row[j]?=some p
     ·obtain⟨i0,j0,aa,p0,a8,ao⟩:=h0;have Y:a.spot=none\/P.cellsOf e=0:=by
       rcases JA5 (P.cellsOf e)with hz|ab
       ·exact .inr hz
       ·have hlen:0<len:=by have:=(J6y.1 a8).1;omega
        have I:=JD (l:=rows) (i:=0) (by omega);have q:=B 0 _ I;have ah:=JD (l:=rows[0]'(by omega)) (i:=0) (by omega);obtain⟨v,hv,_⟩:=q.2 0 _ ah;rw[Jqw]at hv;exact .inl (by simpa[Addr.add]using(Jwj hv).1)
      rcases Y with Y|hz
      ·have cell: ∀(i j:Nat) (row:List PV) (p:PV),rows[i]?=some row->row[j]?=some p-> ∃v,(a.block<w.heap.size/\J0V w a.block (a.off+i*P.cellsOf e+j)=some v)/\J0w w (λr _=>r<w.heap.size) p v:=by
        intro i j row p hi hj;obtain⟨v,hv,hr⟩:=(B i row hi).2 j p hj;obtain⟨s1,s2,s3⟩:=Jwj hv;refine⟨v,?_,hr⟩;have e1:((a.add (i*P.cellsOf e)).add j).block=a.block:=by unfold Addr.add;split<;>split<;>rfl
        have e2:((a.add (i*P.cellsOf e)).add j).off=a.off+i*P.cellsOf e+j:=by unfold Addr.add;split<;>split<;>simp_all
        rw[e1]at s3;rw[e1,e2]at s2;exact⟨s3,s2⟩
       have ea:a=⟨a.block,a.off,none⟩:=by cases a;simp_all
       rw[ea,<-aj];refine .sl _ rows a.block a.off cap (λi j=>((J0V w a.block (a.off+i*P.cellsOf e+j)).getD default)) (by omega) (λrow hr=>?_) (λi j row p hi hj=>?_) (λi j row p hi hj=>?_)
       ·obtain⟨i,hi⟩:=J87 hr;exact(B i row hi).1.1
       ·obtain⟨v,⟨h3,h4⟩,_⟩:=cell i j row p hi hj;exact⟨h3,by rw[h4];rfl⟩
       ·obtain⟨v,⟨h3,h4⟩,h5⟩:=cell i j row p hi hj;rw[h4];exact h5
      ·have:=(B i0 aa a8).1.1;have:=(J6y.1 ao).1;omega
     ·
      rcases JA5 len with hz|ab
      ·have:rows=[]:=by cases rows<;>simp_all
       subst this;subst hz;exact .sl0 _ _ _
      ·exfalso;have I:=JD (l:=rows) (i:=0) (by omega);have q:=(B 0 _ I).1.1;exact h0 ⟨0,0,_,_,I,JD (by omega)⟩
  ·rename_i fs C;simp only[JW,decide_eq_true_eq,JqD]at hp;obtain⟨xs,n0,_,_,Q,a7,O⟩:=DataW.trod_struct C h;obtain⟨_,R,a5⟩:=K.struct hp.2 C;have hf: ∀i,i<fs.toList.length-> ∃g:List PV,∀f,fs.toList[i]?=some f->J4U P n f.type g/\JGx w g ((cs.drop f.offset).take (P.cellsOf f.type)):=by
    intro i hi;have hfi:=JD hi;have ac:=zQ9 hfi;have ae:fs[i]?=some (fs.toList[i]):=by rw[<-JCX];exact hfi
    have h1:=O i _ ae;have h2: ∃y,xs[i]?=some y:=⟨_,JD (by simpa[a7]using hi)⟩;obtain⟨y,hy⟩:=h2;rw[hy]at h1;obtain⟨g,q1,q2⟩:=ih _ _ _ _ (hp.1 _ ac) h1;refine⟨g,λf V=>?_⟩;rw[hfi]at V;injection V with V;subst V
    exact⟨q1,q2⟩
   obtain⟨A,W,F⟩:=JsJ _ _ hf;have hlen: ∀(j:Nat) (f:Field),fs.toList[j]?=some f-> ∀g:List PV,A[j]?=some g->g.length=P.cellsOf f.type:=by
    intro j f hj g hy;have q:=(F j g hy f hj).2.1;have o:=a5 j f hj;rw[q,JaB,JaH,Q,R,o];have:((fs.toList.take j).map λf=>P.cellsOf f.type).sum+P.cellsOf f.type<=(fs.toList.map λf=>P.cellsOf f.type).sum:=by
     have e1:fs.toList=fs.toList.take j++(f::fs.toList.drop (j+1)):=by have L:=(J6y.1 hj);obtain⟨L,he⟩:=L;rw[<-he,<-List.drop_eq_getElem_cons L,JjB]
     conv=>rhs;rw[e1]
     simp only[Ja1,J0C,List.sum_append,List.sum_cons];omega
    omega
   have J:A.map List.length=fs.toList.map λf=>P.cellsOf f.type:=by
    apply Jmh;intro j;rw[J1W,J1W];cases hy:A[j]? with
    |none=>
     have:fs.toList[j]?=none:=by rw[List.getElem?_eq_none_iff]at hy⊢;omega
     rw[this];rfl
    |some g=>
     have hj:j<fs.toList.length:=by have:=(J6y.1 hy).1;omega
     have G:=JD hj;rw[G];simp only[J1j];rw[hlen j _ G g hy]
   have E: ∀(j:Nat) (f:Field),fs.toList[j]?=some f->((A.take j).map List.length).sum=f.offset:=by intro j f hj;rw[a5 j f hj,Jrb,J,<-Jrb]
   refine⟨A.flatten,⟨?_,λf hf=>?_⟩,?_,λi p v h1 h2=>?_⟩
   ·rw[JH6,J,R]
   ·obtain⟨j,hj⟩:=J87 hf;have L:j<A.length:=by have:=(J6y.1 hj).1;omega
    have D:=JD L;have:=Jnp A j _ D;rw[E j f hj,hlen j f hj _ D]at this;rw[this];exact(F j _ D f hj).1
   ·rw[JH6,J,Q,R]
   ·
    have a4: ∀(l:List (List PV)) (i:Nat) p,l.flatten[i]?=some p-> ∃j g k,l[j]?=some g/\g[k]?=some p/\i=((l.take j).map List.length).sum+k:=by
     intro l
     induction l with
     |nil=>intro i p h;simp at h
     |cons y l N=>
      intro i p h;rw[J86]at h;rcases zQ1 i y.length with M|Z
      ·rw[J81 M]at h;exact⟨0,y,i,rfl,h,by simp⟩
      ·rw[J7Z Z]at h;obtain⟨j,g,k,a1,a2,a3⟩:=N _ _ h;exact⟨j+1,g,k,by simpa using a1,a2,by simp only[JH7,J0C,List.sum_cons];omega⟩
    obtain⟨j,g,k,a1,a2,a3⟩:=a4 _ _ _ h1;have hj:j<fs.toList.length:=by have:=(J6y.1 a1).1;omega
    have G:=JD hj;have q:=(F j g a1 _ G).2;refine q.2 k p v a2 ?_;have hk:k<P.cellsOf (fs.toList[j]).type:=by have:=(J6y.1 a2).1;rw[hlen j _ G g a1]at this;exact this
    rw[Jue hk,J7k,<-E j _ G,<-a3];exact h2
  ·rename_i m e C;simp only[JW,decide_eq_true_eq]at hp;obtain⟨xs,n0,_,_,Q,a7,O⟩:=DataW.trod_array C h;obtain⟨_,a0⟩:=K.array hp.2 C;have hf: ∀i,i<m-> ∃g:List PV,J4U P n e g/\JGx w g ((cs.drop (i*P.cellsOf e)).take (P.cellsOf e)):=by intro i hi;have h1:=O i hi;have h2: ∃y,xs[i]?=some y:=⟨_,JD (by omega)⟩;obtain⟨y,hy⟩:=h2;rw[hy]at h1;exact ih _ _ _ _ hp.1 h1
   obtain⟨A,W,F⟩:=JsJ _ _ hf;have hlen: ∀(j:Nat) g,A[j]?=some g->g.length=P.cellsOf e:=by
    intro j g hy;have q:=(F j g hy).2.1;have hj:j<m:=by have:=(J6y.1 hy).1;omega
    rw[q,JaB,JaH,Q,a0];have:j*P.cellsOf e+P.cellsOf e<=m*P.cellsOf e:=by rw[<-zQ8];exact zQ7 _ hj
    omega
   have T: ∀y∈A,y.length=P.cellsOf e:=λy hy=>by obtain⟨j,hj⟩:=J87 hy;exact hlen j y hj
   have U: ∀l:List (List PV),(∀y∈l,y.length=P.cellsOf e)->(l.map List.length).sum=l.length*P.cellsOf e:=by
    intro l
    induction l with
    |nil=>intro _;simp
    |cons y l N=>intro hh;simp[hh y (by simp),N (λz hz=>hh z (by simp[hz])),zQ8,Nat.add_comm]
   have E: ∀j,j<=m->((A.take j).map List.length).sum=j*P.cellsOf e:=by intro j hj;rw[U _ (λy hy=>T y (JHq hy)),JaB,W,Nat.min_eq_left hj]
   refine⟨A.flatten,⟨?_,λj hj=>?_⟩,?_,λi p v h1 h2=>?_⟩
   ·rw[JH6,U _ T,W,a0]
   ·have D:=JD (l:=A) (i:=j) (by omega);have:=Jnp A j _ D;rw[E j (by omega),hlen j _ D]at this;rw[this];exact(F j _ D).1
   ·rw[JH6,U _ T,Q,W,a0]
   ·have a4: ∀(l:List (List PV)) (i:Nat) p,l.flatten[i]?=some p-> ∃j g k,l[j]?=some g/\g[k]?=some p/\i=((l.take j).map List.length).sum+k:=by
     intro l
     induction l with
     |nil=>intro i p h;simp at h
     |cons y l N=>
      intro i p h;rw[J86]at h;rcases zQ1 i y.length with M|Z
      ·rw[J81 M]at h;exact⟨0,y,i,rfl,h,by simp⟩
      ·rw[J7Z Z]at h;obtain⟨j,g,k,a1,a2,a3⟩:=N _ _ h;exact⟨j+1,g,k,by simpa using a1,a2,by simp only[JH7,J0C,List.sum_cons];omega⟩
    obtain⟨j,g,k,a1,a2,a3⟩:=a4 _ _ _ h1;have hj:j<m:=by have:=(J6y.1 a1).1;omega
    have q:=(F j g a1).2;refine q.2 k p v a2 ?_;have hk:k<P.cellsOf e:=by have:=(J6y.1 a2).1;rw[hlen j g a1]at this;exact this
    rw[Jue hk,J7k,<-E j (by omega),<-a3];exact h2
  ·cases hp
end
end Go.Am
end
section
namespace Go.Am
open Go.ChangeShapes Go.WideShapes Go.ChangeAt Go.RowKit
def gh0(w:World):Gh:=⟨λ_=>none,λr _=>r<w.heap.size⟩
theorem JtF(g:Gh)(w:World)(b r o:Nat): ¬Wr1 ⟨[],g,w⟩ b r o:=by unfold Wr1;simp
theorem JOA(w:World):Inv ⟨[],gh0 w,w⟩ where
 box:=λb cs h=>by simp at h
 arr:=λb wm esz rows h=>by simp at h
 apart:=λb1 b2 r o h=>absurd h (JtF _ _ _ _ _)
 const:=λr o h=>⟨h,λb=>JtF _ _ _ _ _⟩
def JeF(w w':World):Prop:=JdF (λ_ _=>False) w w'
theorem JeF.kept{w w':World}(h:JeF w w')(g:MemPlace->Prop):w.keptBut w' g:=by
 obtain⟨h1,h2,h3,h4,h5⟩:=h;refine⟨h4,h5,λi hi=>?_⟩;have n:=Jj2 hi;cases hw:w.heap[i]? with
 |none=>rw[n]at hw;cases hw
 |some x=>
  cases x with
  |cells c e fz=>
   obtain⟨c',q1,q2,q3⟩:=h2 i c e fz hw;rw[q1];exact⟨rfl,rfl,q2,λj _=>q3 j (λhf=>hf)⟩
  |map es k=>
   have:=h3 i _ hw (λc e fz he=>by cases he);rw[this];exact .inr ⟨rfl,rfl⟩
  |_=>
   have:=h3 i _ hw (λc e fz he=>by cases he);rw[this]
theorem JeF.same{w w':World}(h:JeF w w'){p:MemPlace}(hp:p.block<w.heap.size):w.sameAt w' p:=by
 obtain⟨h1,h2,h3,h4,h5⟩:=h;cases p with
 |cell b off=>
  have hb:b<w.heap.size:=hp;have g:=Jj2 hb;show w'.cell? ⟨b,off,none⟩=w.cell? ⟨b,off,none⟩;rw[J7z,J7z];unfold J0V;cases hw:w.heap[b]? with
  |none=>rw[g]at hw;cases hw
  |some x=>
   cases x with
   |cells c e fz=>
    obtain⟨c',q1,q2,q3⟩:=h2 b c e fz hw;rw[q1];exact q3 off (λhf=>hf)
   |_=>
    have:=h3 b _ hw (λc e fz he=>by cases he);rw[this]
 |map b=>
  have hb:b<w.heap.size:=hp;have g:=Jj2 hb;show w'.heap[b]?=w.heap[b]?;cases hw:w.heap[b]? with
  |none=>rw[g]at hw;cases hw
  |some x=>
   cases x with
   |cells c e fz=>
    obtain⟨c',q1,q2,q3⟩:=h2 b c e fz hw;rw[q1];have:c'=c:=by apply Array.ext_getElem?;intro i;exact q3 i (λhf=>hf)
    rw[this]
   |_=>exact h3 b _ hw (λc e fz he=>by cases he)
theorem JeF.frozen{w w':World}(h:JeF w w'){a:Addr}(hp:a.block<w.heap.size):w'.frozen? a=w.frozen? a:=by
 obtain⟨h1,h2,h3,h4,h5⟩:=h;have g:=Jj2 hp;unfold World.frozen?;cases hw:w.heap[a.block]? with
 |none=>rw[g]at hw;cases hw
 |some x=>
  cases x with
  |cells c e fz=>
   obtain⟨c',q1,q2,q3⟩:=h2 a.block c e fz hw;rw[q1]
  |_=>
   have:=h3 a.block _ hw (λc e fz he=>by cases he);rw[this]
theorem JIH{P:Program}{F:Orc}(q:J4N P F){f:FuncId}{args:List AV}{vals:Array Value}{w:World}(hl:args.length=vals.size)
  (hr: ∀(i:Nat) x v,args[i]?=some x->vals[i]?=some v->JH ⟨[],gh0 w,w⟩ x v) (h:F f args []=some (.p (.b true),[])):
  Calls P f vals w λe w'=>e=.returned (.bool true)/\JeF w w':=by
 refine((q _ _ _ _ h).2 (gh0 w) w vals (JOA w) hl hr).mono λe w' ⟨v,g',he,_,k,g⟩=>?_;cases g with
 |p _ _ g=>
  cases g with
  |b=>
   refine⟨he,?_⟩;obtain⟨j,y,n,z⟩:=k.keep;refine⟨j,λr c e fz hr=>?_,n,z⟩;obtain⟨c',q1,q2,q3⟩:=y r c e fz hr;exact⟨c',q1,q2,λo _=>q3 o (fun⟨b,hb⟩=>JtF _ _ _ _ _ hb)⟩
section
variable {H:Type} {enc:TypeId×Value->H} {P:Program}
theorem Jlt(hl:laidOutB P=true)(hm:mapsRowed P=true)(g: ∀{t e:TypeId},t<P.types.size->P.underlying t=some (.slice e)->0<P.cellsOf e){W o:World}{sp:Nat->Bool}:
  ∀{ts:List TypeId} {vs:List Value} {j:List (DataW H)} {ps:List MemPlace},(∀t∈ts,t<P.types.size)->DataW.TrodAll enc P W 0 (λ_=>true) true ts vs j ps->
   (∀p∈ps,W.sameAt o p)->(∀p∈ps,sp p.block=true)->DataW.TrodAll enc P o 0 sp true ts vs j ps
 |[],[],[],_,_,h,_,_=>h
 |[],_::_,_,_,_,h,_,_=>h.elim
 |[],[],_::_,_,_,h,_,_=>h.elim
 |_::_,[],_,_,_,h,_,_=>h.elim
 |_::_,_::_,[],_,_,h,_,_=>h.elim
 |t::ts,v::vs,d::j,_,k,⟨p,q,⟨n,h1⟩,h2,rfl⟩,hs,hp=>by
  refine⟨p,q,⟨n,DataW.trod_stays (kids_rows hl hm) g (λh=>by cases h) (k t (by simp)) h1 (λx hx=>hs x (by simp[hx])) (λx hx=>hp x (by simp[hx]))⟩,?_,rfl⟩;exact Jlt hl hm g (λx hx=>k x (by simp[hx])) h2 (λx hx=>hs x (by simp[hx])) (λx hx=>hp x (by simp[hx]))
def Jbg(P:Program):Bool:=(List.range P.types.size).all λt=>match P.underlying t with
 |some (.slice e)=>decide (0<P.cellsOf e)
 |_=>true
theorem JAq(h:Jbg P=true){t e:TypeId}(g:t<P.types.size)(he:P.underlying t=some (.slice e)):0<P.cellsOf e:=by unfold Jbg at h;rw[JqD]at h;have:=h t (by simpa using g);rw[he]at this;simpa using this
theorem JKc{fn:Func}{s:ChangeSpec}{tb:TypeId}(hl:laidOutB P=true)(hm:mapsRowed P=true)(D:Jbg P=true)(A: ∀t∈fn.params.toList,t<P.types.size)
  (r:fn.resultTypes= #[tb]) (z:P.underlying tb=some .bool) (e:s.vars=[]) {apart fresh j again:Bool} {W v:World} {args:Array Value} {n C:List (DataW H)} {o:List MemPlace}
  (E:C=[]->s.fn H (n++C)={results:=[.lit (.bool true)],args:=n})
  (B:DataW.Whole enc P fn.params.toList s.vars apart W args.toList n C o) (k:JeF W v):s.post enc P fn apart fresh j again W args (.bool true) v:=by
 have y:=B;have g:=B.lt;obtain⟨p,q,h1,h2,rfl,hz,hn⟩:=B;rw[e]at h2;obtain⟨rfl,rfl⟩:=trodVars_none h2;rw[J45]at y g hz hn;have hf:=E rfl;have h: ∀sp:Nat->Bool,(∀x∈p,sp x.block=true)->DataW.TrodAll enc P v 0 sp true fn.params.toList args.toList n p:=λsp hp=>
  Jlt hl hm (λF he=>JAq D F he) A h1 (λx hx=>k.same (g x hx)) hp
 have hr: ∀(b:Nat) (sp:Nat->Bool) (hd:Bool),DataW.TrodAll enc P v b sp hd fn.resultTypes.toList ((Value.bool true).resultList fn.resultTypes.size) [.lit (.bool true)] []:=by intro b sp hd;rw[r];exact trodAll_cons_mk (shut_bool z _) trodAll_mk0
 refine⟨n,[],p,[],p,[],y,?_,?_,?_,k.kept _,λ_=>⟨?_,?_⟩⟩
 ·rw[hf];exact hr _ _ _
 ·rw[hf];exact h _ (λx hx=>by simpa using g x hx)
 ·rw[hf,e];rfl
 ·exact ok_one r rfl (okWide_bool_mk z _)
 ·refine⟨_,[],[]++p,⟨[]++p,[],trodAll_append (h _ (λ_ _=>rfl)) (hr _ _ _),by rw[e];rfl,by simp,λb off hp=>?_,λha=>by simpa using hn ha⟩,λx hx _=>by simpa using hx⟩;have w:MemPlace.cell b off∈p:=by simpa using hp
  rw[k.frozen (a:=⟨b,off,none⟩) (g _ w)];exact hz b off w
def JFM(P:Program)(t:TypeId)(pvs:List PV):AV:=match P.underlying t with
 |some (.struct _)=>.data pvs
 |some (.array _ _)=>.data pvs
 |_=>match pvs with
  |[c]=>.p c
  |_=>.unk
theorem JF7(hl:laidOutB P=true)(hm:mapsRowed P=true){n:Nat}{t:TypeId}{w:World}{r:Reach}{base:Nat}{sp:Nat->Bool}{v:Value}{d:DataW H}{ps:List MemPlace}(hp:J9K P n t=true)
  (hv:Value.okWide P w r base t v) (h:DataW.Trod enc P w 0 sp true t v d ps): ∃pvs,J4U P n t pvs/\JH ⟨[],gh0 w,w⟩ (JFM P t pvs) v:=by
 obtain⟨j,h⟩:=h;obtain⟨pvs,q1,q2,q3⟩:=JLv hl hm n t _ _ j hp h;refine⟨pvs,q1,?_⟩;cases n with
 |zero=>simp[J9K]at hp
 |succ n=>
  unfold J9K at hp;unfold Value.okWide at hv;unfold JFM;have one: ∀{c:PV},pvs=[c]->(∀cs,v≠.agg cs)->JH ⟨[],gh0 w,w⟩ (.p c) v:=by intro c hc o;subst hc;refine .p _ _ (q3 0 c v rfl ?_);cases v<;>first|rfl|exact absurd rfl (o _)
  unfold J4U at q1;split at hp
  ·rename_i g;rw[g]at q1 hv⊢;obtain⟨b,rfl⟩:=q1;exact one rfl (λcs he=>by subst he;simp[Cell.okWide,Cell.ok,g]at hv)
  ·rename_i k g;rw[g]at q1 hv⊢;obtain⟨z,rfl,_⟩:=q1;exact one rfl (λcs he=>by subst he;simp[Cell.okWide,Cell.ok,g]at hv)
  ·rename_i g;rw[g]at q1 hv⊢;obtain⟨z,rfl,_⟩:=q1;exact one rfl (λcs he=>by subst he;simp[Cell.okWide,Cell.ok,g]at hv)
  ·rename_i e g;rw[g]at q1 hv⊢;obtain⟨rows,rfl,_⟩:=q1;exact one rfl (λcs he=>by subst he;simp[Cell.okWide,Cell.ok,g]at hv)
  ·rename_i fs g;rw[g]at hv⊢;obtain⟨cs,rfl,_⟩:=hv;exact .data _ _ (by simpa[Value.cells]using q2) (λi x v h1 h2=>q3 i x v h1 (by simpa[Value.cells]using h2))
  ·rename_i m e g;rw[g]at hv⊢;obtain⟨cs,rfl,_⟩:=hv;exact .data _ _ (by simpa[Value.cells]using q2) (λi x v h1 h2=>q3 i x v h1 (by simpa[Value.cells]using h2))
  ·cases hp
end
end Go.Am
end
section
namespace Go.Am
section
variable (P:Program) {α β:Type}
def Rd(n:Nat)(t:TypeId)(r:α->List PV)(Q:α->Prop):Prop:= ∀pvs,J4U P n t pvs-> ∃x,pvs=r x/\Q x
def fieldsOf(t:TypeId):Option (List (TypeId×Nat)):=match P.underlying t with
 |some (.struct fs)=>some (fs.toList.map λf=>(f.type,f.offset))
 |_=>none
variable {P}
theorem JMp{n:Nat}{t:TypeId}{k:IntKind}(e:P.underlying t=some (.int k)):Rd P (n+1) t (r_i k) λz=>k.min<=z/\z<=k.max:=by intro pvs h;unfold J4U at h;rw[e]at h;obtain⟨z,rfl,hz⟩:=h;refine⟨z,rfl,?_⟩;simpa[Lit.wf,IntKind.has]using hz
theorem Rd.mono{n:Nat}{t:TypeId}{r:α->List PV}{Q g:α->Prop}(h:Rd P n t r Q)(hq: ∀x,Q x->g x):Rd P n t r g:=λpvs hp=>by obtain⟨x,e,q⟩:=h pvs hp;exact⟨x,e,hq x q⟩
theorem JM3{n:Nat}{t:TypeId}(e:P.underlying t=some .bool):Rd P (n+1) t r_b λ_=>True:=by intro pvs h;unfold J4U at h;rw[e]at h;obtain⟨z,rfl⟩:=h;exact⟨z,rfl,trivial⟩
theorem JMV{n:Nat}{t:TypeId}(e:P.underlying t=some .string):Rd P (n+1) t r_s λl=>l.length<=maxLen:=by intro pvs h;unfold J4U at h;rw[e]at h;obtain⟨z,rfl,hz⟩:=h;exact⟨z,rfl,hz⟩
theorem JKR{n:Nat}{t e:TypeId}{r:α->List PV}{Q:α->Prop}{k:Nat}(o:P.underlying t=some (.slice e))(hk:P.cellsOf e=k)(he:Rd P n e r Q):
  Rd P (n+1) t (JOM k r) λl=>l.length<=maxLen/\ ∀x∈l,Q x:=by
 intro pvs h;unfold J4U at h;rw[o]at h;obtain⟨rows,rfl,hl,hr⟩:=h;have g: ∀rows:List (List PV),(∀row∈rows,row.length=P.cellsOf e/\J4U P n e row)-> ∃l:List α,rows=l.map r/\ ∀x∈l,Q x:=by
  intro rows
  induction rows with
  |nil=>intro _;exact⟨[],rfl,by simp⟩
  |cons row rows ih=>
   intro j;obtain⟨l,rfl,hl⟩:=ih (λr hr=>j r (by simp[hr]));obtain⟨x,rfl,hx⟩:=he row (j row (by simp)).2;refine⟨x::l,rfl,λy hy=>?_⟩;rcases J3f.1 hy with rfl|hy
   ·exact hx
   ·exact hl y hy
 obtain⟨l,rfl,hq⟩:=g rows hr;exact⟨l,by rw[hk];rfl,by simpa using hl,hq⟩
theorem JJt{n m:Nat}{t e:TypeId}{r:α->List PV}{Q:α->Prop}{k:Nat}(o:P.underlying t=some (.array m e))(hk:P.cellsOf e=k)(hm:P.cellsOf t=m*k)(he:Rd P n e r Q):
  Rd P (n+1) t (J9u (n:=m) r) λv=> ∀(i:Nat) (h:i<m),Q v[i]:=by
 intro pvs h;unfold J4U at h;rw[o]at h;obtain⟨hl,hr⟩:=h;rw[hm]at hl;have g: ∀(m:Nat) (pvs:List PV),pvs.length=m*k->(∀i,i<m->J4U P n e ((pvs.drop (i*k)).take k))-> ∃l:List α,l.length=m/\pvs=(l.map r).flatten/\ ∀(i:Nat) (h:i<l.length),Q l[i]:=by
  intro m
  induction m with
  |zero=>
   intro pvs h _;refine⟨[],rfl,?_,by simp⟩;rw[Jqw]at h;simpa using h
  |succ m ih=>
   intro pvs h j;rw[zQ8]at h;obtain⟨l,h1,h2,h3⟩:=ih (pvs.drop k) (by rw[JaH];omega) (λi hi=>by have:=j (i+1) (by omega);rw[Jjs];rw[zQ8,Nat.add_comm]at this;exact this)
   obtain⟨x,e1,hx⟩:=he _ (j 0 (by omega));rw[Jqw,JmA]at e1;refine⟨x::l,by simp[h1],?_,λi hi=>?_⟩
   ·rw[J0C,J86,<-e1,<-h2,JjB]
   ·cases i with
    |zero=>exact hx
    |succ i=>exact h3 i (by simpa using hi)
 obtain⟨l,h1,h2,h3⟩:=g m pvs hl (λi hi=>by have:=hr i hi;rwa[hk]at this);refine⟨⟨l.toArray,by simpa using h1⟩,?_,λi hi=>?_⟩
 ·rw[h2];rfl
 ·have:=h3 i (by omega);simpa using this
theorem JIB{m n:Nat}{t:TypeId}{j:List (TypeId×Nat)}{pvs:List PV}(hm:m=n+1)(e:fieldsOf P t=some j)(h:J4U P m t pvs):
  pvs.length=P.cellsOf t/\ ∀x∈j,J4U P n x.1 ((pvs.drop x.2).take (P.cellsOf x.1)):=by
 subst hm;unfold J4U at h;unfold fieldsOf at e;split at e
 ·rename_i fs g;rw[g]at h;injection e with e;subst e;refine⟨h.1,λx hx=>?_⟩;obtain⟨f,hf,rfl⟩:=J40.1 hx;exact h.2 f hf
 ·cases e
end
end Go.Am
end
section
namespace Go.Am
section
variable (P:Program)
def Jd9(p:Ty->TypeId->Bool):Nat->List (TypeId×Nat)->Ty->Bool
 |_,[],.u=>true
 |_,[],_=>false
 |o,[f],a=>decide (f.2=o)&&p a f.1&&decide (P.cellsOf f.1=a.sz)
 |o,f::g::r,.pr a c=>decide (f.2=o)&&p a f.1&&decide (P.cellsOf f.1=a.sz)&&Jd9 p (o+a.sz) (g::r) c
 |_,_::_::_,_=>false
def JqJ:Nat->Ty->TypeId->Bool
 |0,_,_=>false
 |n+1,ty,t=>match fieldsOf P t with
  |some fs=>Jd9 P (JqJ n) 0 fs ty&&decide (P.cellsOf t=ty.sz)
  |none=>match P.underlying t,ty with
   |some .bool,.b=>true
   |some (.int k),.i g=>decide (k=g)
   |some .string,.s=>true
   |some (.slice e),.l a=>JqJ n a e&&decide (P.cellsOf e=a.sz)
   |some (.array m e),.ar h a=>decide (m=h)&&JqJ n a e&&decide (P.cellsOf e=a.sz)&&decide (P.cellsOf t=m*a.sz)
   |_,_=>false
def Ty.inR:(t:Ty)->t.D->Prop
 | .b,_=>True
 | .i k,z=>k.min<=z/\z<=k.max
 | .s,z=>List.length z<=maxLen
 | .l t,z=>List.length z<=maxLen/\ ∀x∈(z:List t.D),t.inR x
 | .pr a c,x=>a.inR x.1/\c.inR x.2
 | .ar n t,v=> ∀(i:Nat) (h:i<n),t.inR ((v:Vector t.D n)[i])
 | .u,_=>True
 | .f,_=>True
end
section
variable {P:Program}
theorem JFf{n:Nat}(ih: ∀ty t,JqJ P n ty t=true->Rd P n t (cel ty) ty.inR): ∀(o:Nat) (fs:List (TypeId×Nat)) (ty:Ty) (pvs:List PV),Jd9 P (JqJ P n) o fs ty=true->
  (∀x∈fs,J4U P n x.1 ((pvs.drop x.2).take (P.cellsOf x.1)))-> ∃x:ty.D,(pvs.drop o).take ty.sz=cel ty x/\ty.inR x
 |o,[],ty,pvs,h,_=>by
  cases ty with
  |u=>exact⟨(),by simp[Ty.sz,cel],trivial⟩
  |_=>simp[Jd9]at h
 |o,[f],ty,pvs,h,hf=>by
  simp only[Jd9,JW,decide_eq_true_eq]at h;obtain⟨⟨h1,h2⟩,h3⟩:=h;have:=hf f (by simp);rw[h1,h3]at this;obtain⟨x,e,q⟩:=ih ty f.1 h2 _ this;exact⟨x,e,q⟩
 |o,f::g::r,ty,pvs,h,hf=>by
  cases ty with
  |pr a c=>
   simp only[Jd9,JW,decide_eq_true_eq]at h;obtain⟨⟨⟨h1,h2⟩,h3⟩,h4⟩:=h;have:=hf f (by simp);rw[h1,h3]at this;obtain⟨x,e,q⟩:=ih a f.1 h2 _ this;obtain⟨y,e',q'⟩:=JFf ih (o+a.sz) (g::r) c pvs h4 (λz hz=>hf z (by simp[J3f.1 hz]));refine⟨(x,y),?_,q,q'⟩;simp only[cel,Ty.sz];rw[<-e,<-e',<-Jjs,List.take_add]
  |_=>simp[Jd9]at h
theorem rdT: ∀(n:Nat) (ty:Ty) (t:TypeId),JqJ P n ty t=true->Rd P n t (cel ty) ty.inR
 |0,_,_,h=>by cases h
 |n+1,ty,t,h=>by
  unfold JqJ at h;split at h
  ·rename_i fs j;simp only[JW,decide_eq_true_eq]at h;intro pvs hp;obtain⟨hl,hf⟩:=JIB rfl j hp;obtain⟨x,e,q⟩:=JFf (rdT n) 0 fs ty pvs h.1 hf;rw[JmA,<-h.2,<-hl,List.take_length]at e;exact⟨x,e,q⟩
  ·split at h
   ·rename_i g;exact JM3 g
   ·rename_i k o g;simp only[decide_eq_true_eq]at h;subst h;exact JMp g
   ·rename_i g;exact JMV g
   ·rename_i e a g;simp only[JW,decide_eq_true_eq]at h;exact JKR g h.2 (rdT n a e h.1)
   ·rename_i m e r a g;simp only[JW,decide_eq_true_eq]at h;obtain⟨⟨⟨h1,h2⟩,h3⟩,h4⟩:=h;subst h1;exact JJt g h3 h4 (rdT n a e h2)
   ·cases h
def JI9(P:Program)(t:TypeId):Bool:=match P.underlying t with
 |some (.struct _)=>true
 |some (.array _ _)=>true
 |_=>false
def JJp(agg:Bool)(t:Ty)(x:t.D):TA:=if agg=true then .dt t x else .c (.d t x)
theorem JHP(L:Nat->Nat){t:TypeId}{ty:Ty}{agg:Bool}(ha:JI9 P t=agg)(h1:agg=false->ty.sz=1)(x:ty.D):JFM P t (cel ty x)=J17 L (JJp agg ty x):=by
 unfold JFM JI9 at*;generalize P.underlying t=u at ha⊢;rcases u with _|d
 ·subst ha;dsimp only;rw[JAy (h1 rfl) x];rfl
 ·cases d<;>first
   |(subst ha;rfl)
   |(subst ha;dsimp only;rw[JAy (h1 rfl) x];rfl)
theorem JN2{F:Orc}{f:FuncId}{g:Sig}{S:(tyL g.ti).D->Option (tyL g.to).D}{xs:List TA}{x:(tyL g.ti).D}{y:(tyL g.to).D}(he:EOk F (sigE f g S))(hx:Ju2 g xs []=some x)(e:S x=some y)
  (hv:Jze g y=some (.a (.c (.d .b true)),[])):F f (xs.map (J17 (lns []))) []=some (.p (.b true),[]):=by
 have h:(sigE f g S).go xs [] (λv out=>some (v,out))=some (TV.a (.c (.d .b true)),([]:List (Bool×TB))):=by simp only[sigE,hx,e,JK,hv];cases g.same<;>rfl
 obtain⟨v,out,h1,_,h3⟩:=he.ok h;injection h3 with h3;injection h3 with h4 h5;subst h4 h5;exact h1
end
end Go.Am
end
section
namespace Go.Am
set_option linter.unusedVariables false
set_option maxRecDepth 20000
set_option maxHeartbeats 4000000
section
variable {B S:Int}
def EF(e:T_api_Entry):Prop:=1<=e.1/\e.1<=1099511627776/\1<=e.2.2.1/\e.2.2.1<=1073741824/\0<=e.2.2.2.1/\e.2.2.2.1<e.1/\0<=e.2.2.2.2.1/\e.2.2.2.2.1<e.1/\0<=e.2.2.2.2.2.1/\e.2.2.2.2.2.1<e.1/\e.2.2.2.2.2.2.2=[]/\J26 e.2.2.2.2.2.2.1=some true/\((e.2.1=1/\e.2.2.2.2.2.1=0)\/(e.2.1=2/\0<e.2.2.2.1/\1<=e.2.2.2.2.2.1/\e.2.2.2.2.2.1<=e.2.2.2.1))
theorem JmT{x:JG}(e:J2u x=some true):0<=x.1/\x.1<x.2:=by
 have g:Par (J2u x) λy=>y=true->0<=x.1/\x.1<x.2:=by unfold J2u;exact .ge (λc=>.some λd=>⟨c,J7P.1 d⟩) λ_=>.some nofun
 exact g _ e rfl
theorem EF.of{e:T_api_Entry}(h:J09 e=some true)(hk:e.2.1=1\/e.2.1=2):EF e:=by
 have x:Par (J3q e) λy=>y.2=true->y.1=e->1<=e.2.2.1/\e.2.2.1<=1073741824/\e.2.2.2.2.2.2.2=[]/\J26 e.2.2.2.2.2.2.1=some true/\((e.2.1=1/\e.2.2.2.2.2.1=0)\/(e.2.1=2/\0<e.2.2.2.1/\1<=e.2.2.2.2.2.1/\e.2.2.2.2.2.1<=e.2.2.2.1)):=by
  unfold J3q;refine .eq (λo=>.bind λN h2=>.eq (λg=>by omega) λ_=>.ite (λj=>.ge (λk=>.some λn he=>?_) λ_=>.some nofun) λ_=>.some nofun) λo=>.eq (λg=>.bind λN h2=>.eq (λ_=>.ite (λj=>.gt (λL=>.ge (λM=>.le (λG=>.ge (λk=>.some λn he=>?_) λ_=>.some nofun) λ_=>.some nofun) λ_=>.some nofun) λ_=>.some nofun) λ_=>.some nofun) λc=>absurd g c) λg=>by omega
  ·subst j;have e1:(0:Int)=e.2.2.2.2.2.1:=congrArg (λz:T_api_Entry=>z.2.2.2.2.2.1) he;have e2:([]:List UInt8)=e.2.2.2.2.2.2.2:=congrArg (λz:T_api_Entry=>z.2.2.2.2.2.2.2) he;exact⟨k,J2D.1 n,e2.symm,h2,.inl ⟨o,e1.symm⟩⟩
  ·subst j;have e2:([]:List UInt8)=e.2.2.2.2.2.2.2:=congrArg (λz:T_api_Entry=>z.2.2.2.2.2.2.2) he;exact⟨k,J2D.1 n,e2.symm,h2,.inr ⟨g,L,M,G⟩⟩
 have q:Par (J09 e) λy=>y=true->EF e:=by unfold J09;refine .bind λa ha=>.ite (λo=>.ite (λg=>.ge (λk=>.le (λn=>.bind λb1 v=>.ite (λH=>.bind λb2 r=>.ite (λj=>.bind λO w=>.some λD=>?_) λ_=>.some nofun) λ_=>.some nofun) λ_=>.some nofun) λ_=>.some nofun) λ_=>.some nofun) λ_=>.some nofun;subst H;subst j;subst D;obtain⟨a1,a2,a3,J,I⟩:=x _ ha o (J1D.1 g);obtain⟨K,E⟩:=JmT v;obtain⟨A,C⟩:=JmT r;obtain⟨B,F⟩:=JmT w;exact⟨k,n,a1,a2,K,E,A,C,B,F,a3,J,I⟩
 exact q _ h rfl
theorem Jwf{c:J2x}(h:J0T c=some true):Tot (J3M c) λy=>y=true:=by have e:J3M c=J0T c:=rfl;exact⟨true,e.trans h,rfl⟩
theorem Jpm{c:J1M}(h:J26 c=some true):Tot (J5O c) λy=>y=true:=by
 have n:Par (J26 c) λy=>y=true->0<=c.1/\c.1<64/\0<=c.2.1/\c.2.1<16/\J0T c.2.2.1=some true/\J0T c.2.2.2=some true:=by unfold J26;refine .ge (λe=>.lt (λg=>.ge (λj=>.lt (λk=>.bind λa ha=>.ite (λr=>.bind λb hb=>.some λo=>?_) λ_=>.some nofun) λ_=>.some nofun) λ_=>.some nofun) λ_=>.some nofun) λ_=>.some nofun;subst r;subst o;exact⟨e,g,j,k,ha,hb⟩
 obtain⟨e,g,j,k,v,x⟩:=n _ h rfl;unfold J5O;have hp:Tot (J7B c.1) λy=>y=true:=by unfold J7B;exact .ge (λ_=>.some (J7P.2 g)) λc=>absurd e c
 refine .bind hp λB d=>.ite (λ_=>.ge (λ_=>.lt (λ_=>.bind (Jwf v) λz q=>.ite (λ_=>.bind (Jwf x) λA w=>.some w) λc=>by rw[q]at c;cases c) λc=>absurd k c) λc=>absurd j c) λc=>by rw[d]at c;cases c
theorem JGr{e:T_api_Entry}(h:EF e):Tot (J8w e) λy=>y=true:=by
 obtain⟨a1,a2,a3,H,A,E,z,v,D,q,j,k,F⟩:=h;have o: ∀{n:Int},0<=n->n<e.1->Tot (J4w (n,e)) λy=>y=true:=fun{n} h1 h2=>by unfold J4w;exact .ge (λ_=>.some (J7P.2 h2)) λc=>absurd h1 c
 have I: ∀{b:Bool} {Q:Prop},b=true->Jo b=true->Q:=fun{b Q} h1 h2=>by subst h1;cases h2
 have hb:neS e.2.2.2.2.2.2.2 []=false:=by rw[j];rfl
 have hl:J0 e.2.2.2.2.2.2.2<=8192:=by rw[j];decide
 unfold J8w;refine .ltf (λ_=>.gtf (λ_=>.ltf (λ_=>.gtf (λ_=>.bind (o A E) λJ w=>.nof (λ_=>.bind (o z v) λG x=>.nof (λ_=>.bind (o D q) λr g=>.not (λc=>by rw[g]at c;cases c) λ_=>?_) λc=>by rw[x]at c;cases c) λc=>by rw[w]at c;cases c) λc=>by omega) λc=>by omega) λc=>by omega) λc=>by omega
 refine .eq (λc=>by omega) λ_=>.eq (λc=>by omega) λ_=>.eq (λc=>by omega) λ_=>.eq (λc=>by omega) λ_=>.eq (λc=>by omega) λ_=>.eq (λc=>by omega) λ_=>.eq (λC=>?_) λC=>.eq (λB=>?_) λB=>by omega
 ·refine .ltf (λ_=>.gt (λc=>by omega) λ_=>.eq (λc=>by omega) λ_=>.ite (λc=>by rw[hb]at c;cases c) λ_=>.le (λ_=>?_) λc=>absurd hl c) λc=>by omega
  have hr:Tot (J63 e) λy=>y=true:=by unfold J63;exact .ge (λ_=>.some (J2D.2 (by omega))) λc=>by omega
  exact .bind hr λy d=>.ite (λ_=>.bind (Jpm k) λr g=>.some g) λc=>by rw[d]at c;cases c
 ·refine .ltf (λ_=>.gt (λc=>by omega) λ_=>.ne (λc=>by omega) λ_=>.ite (λc=>by rw[hb]at c;cases c) λ_=>.le (λ_=>?_) λc=>absurd hl c) λc=>by omega
  have hr:Tot (J21 e) λy=>y=true:=⟨true,rfl,rfl⟩;exact .bind hr λy d=>.ite (λ_=>.bind (Jpm k) λr g=>.some g) λc=>by rw[d]at c;cases c
def pgE(e:T_api_Entry):Int:=e.2.2.2.2.2.2.1.1
def Jjc(r:JC):Prop:=1<=r.1/\r.1<=r.2.1/\r.2.1<=1099511627776/\0<=r.2.2.1/\r.2.2.1<=r.2.2.2.1/\r.2.2.2.1<64/\0<=r.2.2.2.2.1/\r.2.2.2.2.1<=8
def Jsw(r:JC)(e:T_api_Entry):Prop:=J09 e=some true/\(e.2.1=1\/e.2.1=2)/\r.1<=e.1/\e.1<=r.2.1/\r.2.2.1<=pgE e/\pgE e<=r.2.2.2.1
def J76(f:Int)(a b:T_api_Entry):Prop:=(pgE a<pgE b/\b.2.2.2.2.1<f)\/(pgE a=pgE b/\a.1<b.1/\b.2.2.2.2.1=a.1)
def J4n(r:JC):Prop:=Jjc r/\J0 r.2.2.2.2.2<=4096/\(∀(j:Nat) (e:T_api_Entry),r.2.2.2.2.2[j]?=some e->Jsw r e)/\(∀e,r.2.2.2.2.2[0]?=some e->e.2.2.2.2.1<r.1)/\ ∀(j:Nat) (a b:T_api_Entry),r.2.2.2.2.2[j]?=some a->r.2.2.2.2.2[j+1]?=some b->J76 r.1 a b
theorem Jjc.of{r:JC}(h:J1S (r.1,r.2.1,r.2.2.1,r.2.2.2.1,r.2.2.2.2.1)=some true):Jjc r:=by
 have e:Par (J1S (r.1,r.2.1,r.2.2.1,r.2.2.2.1,r.2.2.2.2.1)) λy=>y=true->Jjc r:=by unfold J1S;exact .ge (λw=>.le (λg=>.le (λj=>.ge (λv=>.le (λo=>.lt (λq=>.ge (λk=>.some λn=>⟨w,g,j,v,o,q,k,J2D.1 n⟩) λ_=>.some nofun) λ_=>.some nofun) λ_=>.some nofun) λ_=>.some nofun) λ_=>.some nofun) λ_=>.some nofun) λ_=>.some nofun
 exact e _ h rfl
theorem JGF{e:T_api_Entry}(h:JM e=some true):e.2.1=1\/e.2.1=2:=by
 have g:Par (JM e) λy=>y=true->e.2.1=1\/e.2.1=2:=by unfold JM;exact .eqf (λ_=>.some λd=>.inr (J5K.1 d)) λc=>.some λ_=>.inl c
 exact g _ h rfl
theorem Jn6{e:T_api_Entry}(h:e.2.1=1\/e.2.1=2):Tot (JM e) λy=>y=true:=by unfold JM;exact .eqf (λc=>.some (J5K.2 (by omega))) λ_=>.some rfl
theorem Jwq{e:T_api_Entry}(h:e.2.1=1\/e.2.1=2):Tot (J9q e) λy=>y=true:=Jn6 h
theorem JrN{a b:T_api_Entry}{y:Int}(h:J1g (a,b)=some y)(c: ¬0<=y):pgE a<pgE b\/(pgE a=pgE b/\a.1<b.1):=by
 have e:Par (J1g (a,b)) λy=> ¬0<=y->pgE a<pgE b\/(pgE a=pgE b/\a.1<b.1):=by unfold J1g;exact .ltf (λ_=>.eq (λj=>.lt (λg=>.some λ_=>.inr ⟨j,g⟩) λ_=>.eq (λ_=>.eq (λ_=>.some λc=>absurd (J0G 0) c) λ_=>.some λc=>absurd (by decide) c) λ_=>.some λc=>absurd (by decide) c) λ_=>.eq (λ_=>.eq (λ_=>.some λc=>absurd (J0G 0) c) λ_=>.some λc=>absurd (by decide) c) λ_=>.some λc=>absurd (by decide) c) λc=>.some λ_=>.inl c
 exact e _ h c
theorem JDr{a b:T_api_Entry}(h:pgE a<pgE b\/(pgE a=pgE b/\a.1<b.1)):Tot (J1g (a,b)) λy=> ¬0<=y:=by unfold pgE at h;unfold J1g;exact .ltf (λc=>.eq (λe=>.lt (λj=>.some (by decide)) λg=>by dsimp only at c e g;omega) λe=>by dsimp only at c e;omega) λc=>.some (by decide)
theorem J4n.of{r:JC}(h:J1x r=some true):J4n r:=by
 have G:Par (J1x r) λy=>y=true->J4n r:=by
  unfold J1x;refine .bind λa ha=>.nof (λL=>.gt (λ_=>.some nofun) λM=>?_) λ_=>.some nofun;subst L;refine .while (λz=>z.2=r/\0<=z.1/\(∀(j:Nat) (e:T_api_Entry),(j:Int)<z.1->r.2.2.2.2.2[j]?=some e->Jsw r e)/\(∀e,0<z.1->r.2.2.2.2.2[0]?=some e->e.2.2.2.2.1<r.1)/\ ∀(j:Nat) (a b:T_api_Entry),(j:Int)+1<z.1->r.2.2.2.2.2[j]?=some a->r.2.2.2.2.2[j+1]?=some b->J76 r.1 a b) ⟨rfl,J0G _,λj e h=>by dsimp only at h;omega,λe h=>by dsimp only at h;omega,λj a b h=>by dsimp only at h;omega⟩ ?_;rintro⟨i,z⟩ ⟨rfl,J,h1,h2,h3⟩;dsimp only at J h1 h2 h3 M;unfold J6R;dsimp only;have W:=Jh i 1;have V:=J0E i 1;refine .lt (λc=>?_) λc=>.some λ_=>⟨Jjc.of ha,by omega,λj e he=>h1 j e (by have:=J8t he;omega) he,λe he=>h2 e (by have:=J8t he;omega) he,λj a b F B=>h3 j a b (by have:=J8t B;omega) F B⟩;refine .bind λe he=>.bind λb hb=>.nof (λN=>.bind λd hd=>.nof (λK=>.ltf (λY=>.gtf (λc6=>.ltf (λT=>.gt (λ_=>.some nofun) λS=>?_) λ_=>.some nofun) λ_=>.some nofun) λ_=>.some nofun) λ_=>.some nofun) λ_=>.some nofun;subst N;subst K;obtain⟨_,o⟩:=J3L he;have C:Jsw z e:=⟨hb,JGF hd,by omega,by omega,by unfold pgE;omega,by unfold pgE;omega⟩;have D:(i=0->e.2.2.2.2.1<z.1)->(∀a,0<i->z.2.2.2.2.2[(i-1).toNat]?=some a->J76 z.1 a e)->(z=z/\0<=J1 .i64 i 1/\(∀(j:Nat) (e:T_api_Entry),(j:Int)<J1 .i64 i 1->z.2.2.2.2.2[j]?=some e->Jsw z e)/\(∀e,0<J1 .i64 i 1->z.2.2.2.2.2[0]?=some e->e.2.2.2.2.1<z.1)/\ ∀(j:Nat) (a b:T_api_Entry),(j:Int)+1<J1 .i64 i 1->z.2.2.2.2.2[j]?=some a->z.2.2.2.2.2[j+1]?=some b->J76 z.1 a b):=by
   intro O P;refine⟨rfl,by omega,λj f hj hf=>?_,λf hp hf=>?_,λj a b hj ha hb=>?_⟩
   ·by_cases hl:(j:Int)<i
    ·exact h1 j f hl hf
    ·have:j=i.toNat:=by omega
     subst this;rw[o]at hf;injection hf with hf;subst hf;exact C
   ·by_cases hi:0<i
    ·exact h2 f hi hf
    ·have I:i=0:=by omega
     subst I;rw[show(0:Int).toNat=0 from rfl]at o;rw[o]at hf;injection hf with hf;subst hf;exact O rfl
   ·by_cases hl:(j:Int)+1<i
    ·exact h3 j a b hl ha hb
    ·have e1:j+1=i.toNat:=by omega
     have e2:j=(i-1).toNat:=by omega
     rw[e1,o]at hb;injection hb with hb;subst hb
     rw[e2]at ha;exact P a (by omega) ha
  have w: ∀{a:T_api_Entry},0<i->idx z.2.2.2.2.2 (JF .i64 i 1)=some a->z.2.2.2.2.2[(i-1).toNat]?=some a:=fun{a} hi ha=>by obtain⟨_,q⟩:=J3L ha;rw[show(i-1).toNat=(JF .i64 i 1).toNat by omega];exact q
  have zero: ¬0<i-> ¬z.1<=e.2.2.2.2.1->(z=z/\0<=J1 .i64 i 1/\(∀(j:Nat) (e:T_api_Entry),(j:Int)<J1 .i64 i 1->z.2.2.2.2.2[j]?=some e->Jsw z e)/\(∀e,0<J1 .i64 i 1->z.2.2.2.2.2[0]?=some e->e.2.2.2.2.1<z.1)/\ ∀(j:Nat) (a b:T_api_Entry),(j:Int)+1<J1 .i64 i 1->z.2.2.2.2.2[j]?=some a->z.2.2.2.2.2[j+1]?=some b->J76 z.1 a b):=λhi hf=>D (λ_=>by omega) λa h=>absurd h hi;refine .gt (λv=>.bind λR A=>.bind λU H=>.ge (λ_=>.some nofun) λE=>.gt (λ_=>.bind λZ g=>.eq (λx=>.bind λQ k=>.ne (λ_=>.some nofun) λn=>.some ?_) λx=>.ge (λ_=>.some nofun) λn=>.some ?_) λc=>absurd v c) λv=>.gt (λc=>absurd c v) λ_=>.ge (λ_=>.some nofun) λn=>.some (zero v n)
  ·rw[A]at g k;injection g with g;injection k with k;subst g;subst k;refine D (λh=>by omega) λa _ ha=>?_;rw[w v A]at ha;injection ha with ha;subst ha
   rcases JrN H E with q|⟨q1,q2⟩
   ·unfold pgE at q;omega
   ·exact .inr ⟨x,q2,n⟩
  ·rw[A]at g;injection g with g;subst g;refine D (λh=>by omega) λa _ ha=>?_;rw[w v A]at ha;injection ha with ha;subst ha
   rcases JrN H E with q|⟨q1,q2⟩
   ·exact .inl ⟨q,by omega⟩
   ·exact absurd q1 x
 exact G _ h rfl
end
section
variable {B S:Int}
theorem Jds{α:Type}{l:List α}{i:Int}(g:0<=i)(h1:i<J0 l): ∃a,idx l i=some a/\l[i.toNat]?=some a:=by
 have e:i.toNat<l.length:=by unfold J0 at h1;omega
 exact⟨l[i.toNat],by unfold idx;rw[if_pos g,JD e],JD e⟩
theorem JCh{r:JC}(h:Jjc r):Tot (J1S (r.1,r.2.1,r.2.2.1,r.2.2.2.1,r.2.2.2.2.1)) λy=>y=true:=by obtain⟨h1,h2,h3,h4,h5,e,j,g⟩:=h;unfold J1S;exact .ge (λ_=>.le (λ_=>.le (λ_=>.ge (λ_=>.le (λ_=>.lt (λ_=>.ge (λ_=>.some (J2D.2 g)) λc=>absurd j c) λc=>absurd e c) λc=>absurd h5 c) λc=>absurd h4 c) λc=>absurd h3 c) λc=>absurd h2 c) λc=>absurd h1 c
theorem JyN{r:JC}(h:Jjc r):Tot (J6N r) λy=>y=true:=by obtain⟨h1,h2,h3,h4,h5,e,j,g⟩:=h;unfold J6N;exact .ge (λ_=>.le (λ_=>.le (λ_=>.ge (λ_=>.le (λ_=>.lt (λ_=>.ge (λ_=>.some (J2D.2 g)) λc=>absurd j c) λc=>absurd e c) λc=>absurd h5 c) λc=>absurd h4 c) λc=>absurd h3 c) λc=>absurd h2 c) λc=>absurd h1 c
theorem J1o{α:Type}{o:Option α}{v:α}(h:o=some v):Tot o λy=>y=v:=⟨v,h,rfl⟩
theorem Jw0{r:JC}(h:J4n r){i:Int}(hi:0<i)(hl:i<J0 r.2.2.2.2.2){a b:T_api_Entry}(ha:r.2.2.2.2.2[(i-1).toNat]?=some a)(hb:r.2.2.2.2.2[i.toNat]?=some b):J76 r.1 a b:=
 h.2.2.2.2 (i-1).toNat a b ha (by rw[show(i-1).toNat+1=i.toNat by omega];exact hb)
theorem JFI{r:JC}(h:J4n r):J1x r=some true:=by
 have n:Tot (J1x r) λy=>y=true:=by
  obtain⟨g1,g2,H,K,g5⟩:=id h;unfold J1x;refine .bind (JCh g1) λy2 D=>.nof (λ_=>.gt (λc=>by omega) λ_=>?_) λc=>by rw[D]at c;cases c
  refine Jd (τ:=Int) (λq=>(q,r)) (λq=>0<=q/\q<=J0 r.2.2.2.2.2) (λq=>J0 r.2.2.2.2.2-q) ?_ 0 rfl ⟨J0G _,J3⟩;rintro i ⟨G,h1⟩;unfold J6R;dsimp only;have W:=Jh i 1;have U:=J0E i 1;refine .lt (λc=>?_) λc=>.some rfl;obtain⟨e,he,g⟩:=Jds G c;obtain⟨L,E,R,S,B,F⟩:=H _ e g;have k: ∃c':Int,((J1 .i64 i 1,r):Int×JC)=(c',r)/\(0<=c'/\c'<=J0 r.2.2.2.2.2)/\J0 r.2.2.2.2.2-c'<J0 r.2.2.2.2.2-i/\0<=J0 r.2.2.2.2.2-i:=⟨J1 .i64 i 1,rfl,⟨by omega,by omega⟩,by omega,by omega⟩;unfold pgE at B F;refine .bind (J1o he) λw P=>?_;subst P;refine .bind (J1o L) λV M=>.nof (λ_=>.bind (Jn6 E) λY J=>.nof (λ_=>.ltf (λ_=>.gtf (λ_=>.ltf (λ_=>.gt (λc=>by omega) λ_=>?_) λc=>by omega) λc=>by omega) λc=>by omega) λc=>by rw[J]at c;cases c) λc=>by rw[M]at c;cases c
  refine .gt (λj=>?_) λj=>.gt (λc=>absurd c j) λ_=>.ge (λc=>?_) λ_=>.some k
  ·have e1:JF .i64 i 1=i-1:=by omega
   rw[e1];obtain⟨a,ha,v⟩:=Jds (l:=r.2.2.2.2.2) (i:=i-1) (by omega) (by omega);have x:=Jw0 h j c v g;refine .bind (J1o ha) λC I=>?_;subst I;refine .bind (JDr (a:=C) (b:=w) (by rcases x with⟨q,_⟩|⟨q1,q2,_⟩;exact .inl q;exact .inr ⟨q1,q2⟩)) λT O=>.ge (λc=>absurd c O) λ_=>.gt (λ_=>.bind (J1o ha) λZ N=>?_) λc=>absurd j c;subst N;unfold J76 pgE at x;refine .eq (λo=>.bind (J1o ha) λQ z=>?_) λo=>.ge (λc=>by omega) λ_=>.some k;subst z;exact .ne (λc=>by omega) λ_=>.some k
  ·have A:i=0:=by omega
   subst A;have:=K w g;omega
 obtain⟨y,e,d⟩:=n;rw[e,d]
theorem JCD{a b:T_api_Entry}(h:pgE a=pgE b/\a.1<b.1):Tot (J5N (a,b)) λy=> ¬0<=y:=by
 obtain⟨h1,h2⟩:=h;unfold pgE at h1;have j:J2A (a.2.2.2.2.2.2.1.1,b.2.2.2.2.2.2.1.1)=some 0:=by unfold J2A J5i;dsimp only;rw[h1];simp[neI,ltI,gtI]
 have e:J2A (a.1,b.1)=some (-1):=by unfold J2A J5i;dsimp only;simp[neI,ltI,gtI,h2]
 unfold J5N;dsimp only;rw[j,e];show Tot ((J6U [0, -1]).bind _) _;have g:J6U [0, -1]=some (-1):=by unfold J6U;rw[JsE (s':=(0,[0, -1],J0 ([0, -1]:List Int),1)) (by rfl)];exact Jjy (by rfl)
 rw[g];exact .some (by decide)
theorem J6Q{r:JC}(h:J4n r):J3H r=some true:=by
 have w:Tot (J3H r) λy=>y=true:=by
  obtain⟨g1,g2,P,I,Y⟩:=id h;unfold J3H;refine .bind (JyN g1) λZ C=>.nof (λ_=>.gt (λc=>by omega) λ_=>?_) λc=>by rw[C]at c;cases c
  refine Jd (τ:=Int) (λq=>(r.2.2.2.2.2,J0 r.2.2.2.2.2,q,r)) (λq=>0<=q/\q<=J0 r.2.2.2.2.2) (λq=>J0 r.2.2.2.2.2-q) ?_ 0 rfl ⟨J0G _,J3⟩;rintro i ⟨E,h1⟩;unfold JhR;dsimp only;have U:=Jh i 1;have S:=J0E i 1;refine .lt (λc=>?_) λc=>.some rfl;obtain⟨e,he,g⟩:=Jds E c;obtain⟨J,o,B,D,n,v⟩:=P _ e g;have k: ∃c':Int,((r.2.2.2.2.2,J0 r.2.2.2.2.2,J1 .i64 i 1,r):JKe)=(r.2.2.2.2.2,J0 r.2.2.2.2.2,c',r)/\(0<=c'/\c'<=J0 r.2.2.2.2.2)/\J0 r.2.2.2.2.2-c'<J0 r.2.2.2.2.2-i/\0<=J0 r.2.2.2.2.2-i:=⟨J1 .i64 i 1,rfl,⟨by omega,by omega⟩,by omega,by omega⟩;unfold pgE at n v;have hw:Tot (J8S (r,e)) λy=>y=true:=by unfold J8S;exact .bind (Jwq o) λy d=>.ite (λ_=>.ge (λ_=>.le (λ_=>.ge (λ_=>.some (J2D.2 D)) λc=>absurd B c) λc=>absurd v c) λc=>absurd n c) λc=>by rw[d]at c;cases c
  refine .bind (J1o he) λA O=>?_;subst O;refine .bind (JGr (EF.of J o)) λT K=>.nof (λ_=>.bind hw λV G=>.not (λc=>by rw[G]at c;cases c) λ_=>?_) λc=>by rw[K]at c;cases c
  refine .eqf (λx=>?_) λx=>.ge (λc=>?_) λ_=>.some k
  ·have hi:0<i:=by omega
   have e1:JF .i64 i 1=i-1:=by omega
   rw[e1];obtain⟨a,ha,z⟩:=Jds (l:=r.2.2.2.2.2) (i:=i-1) (by omega) (by omega);have j:=Jw0 h hi c z g;refine .bind (J1o ha) λR F=>?_;subst F;refine .lt (λN=>.ge (λc=>?_) λ_=>.some k) λN=>.bind (J1o ha) λH M=>?_
   ·unfold J76 pgE at j;omega
   ·subst M;have Q:=j;unfold J76 pgE at j;refine .bind (JCD (a:=H) (b:=A) (by unfold pgE;omega)) λW L=>.gef (λ_=>.ne (λc=>by omega) λ_=>.some k) λc=>absurd c L
  ·subst x;have:=I A g;omega
 obtain⟨y,e,d⟩:=w;rw[e,d]
end
section
variable {B S:Int}
def ent(r:JC):List T_api_Entry:=r.2.2.2.2.2
def JAk(r:JC)(p:Int)(k:Nat):JC:=(r.1,r.2.1,r.2.2.1,p-1,r.2.2.2.2.1,(ent r).take k)
def Jsm(r:JC)(p:Int)(k:Nat):JC:=(r.1,r.2.1,p,r.2.2.2.1,r.2.2.2.2.1,(ent r).drop k)
theorem JM4{r:JC}(h:J4n r): ∀(d j:Nat) (a b:T_api_Entry),(ent r)[j]?=some a->(ent r)[j+d]?=some b->pgE a<=pgE b:=by
 intro d
 induction d with
 |zero=>intro j a b ha hb;rw[J77,ha]at hb;injection hb with hb;subst hb;exact J0G _
 |succ d ih=>
  intro j a b ha hb;have e:j+d<(ent r).length:=by obtain⟨q,_⟩:=J6y.1 hb;omega
  have hc:=JD e;have h1:=ih j a _ ha hc;have h2:=h.2.2.2.2 (j+d) _ b hc hb;unfold J76 at h2;omega
structure Cut(r:JC)(p:Int)(k:Nat):Prop where
 le:k<=(ent r).length
 lo: ∀(j:Nat) (e:T_api_Entry),j<k->(ent r)[j]?=some e->pgE e<p
 hi: ∀(j:Nat) (e:T_api_Entry),k<=j->(ent r)[j]?=some e->p<=pgE e
theorem Jdw{α:Type}{l:List α}{k j:Nat}{e:α}(h:(l.take k)[j]?=some e):j<k/\l[j]?=some e:=by
 rw[JcW]at h;split at h
 ·exact⟨by assumption,h⟩
 ·cases h
theorem JLM{r:JC}{p:Int}{k:Nat}(h:J4n r)(c:Cut r p k)(hp:r.2.2.1<p)(A:p<=r.2.2.2.1):J4n (JAk r p k):=by
 obtain⟨⟨a1,a2,a3,v,C,D,o,g⟩,g2,z,w,y⟩:=h;refine⟨⟨a1,a2,a3,v,by show r.2.2.1<=p-1;omega,by show p-1<64;omega,o,g⟩,?_,λj e he=>?_,λe he=>?_,λj a b ha hb=>?_⟩
 ·show J0 ((ent r).take k)<=4096;have:J0 (ent r)<=4096:=g2;unfold J0 at*;rw[JaB];omega
 ·obtain⟨h1,h2⟩:=Jdw he;obtain⟨b1,b2,q,x,n,B⟩:=z j e h2;have:=c.lo j e h1 h2;exact⟨b1,b2,q,x,n,by show pgE e<=p-1;omega⟩
 ·exact w e (Jdw he).2
 ·exact y j a b (Jdw ha).2 (Jdw hb).2
theorem JJc{r:JC}{p:Int}{k:Nat}(h:J4n r)(c:Cut r p k)(hp:r.2.2.1<p)(o:p<=r.2.2.2.1):J4n (Jsm r p k):=by
 obtain⟨⟨a1,a2,a3,F,E,B,w,v⟩,g2,C,z,q⟩:=h;have g: ∀{j:Nat} {e:T_api_Entry},((ent r).drop k)[j]?=some e->(ent r)[k+j]?=some e:=fun{j e} h=>by rw[J7k]at h;exact h
 refine⟨⟨a1,a2,a3,by show 0<=p;omega,o,B,w,v⟩,?_,λj e he=>?_,λe he=>?_,λj a b ha hb=>?_⟩
 ·show J0 ((ent r).drop k)<=4096;have:J0 (ent r)<=4096:=g2;unfold J0 at*;rw[JaH];omega
 ·have h2:=g he;obtain⟨b1,b2,y,A,D,x⟩:=C _ e h2;exact⟨b1,b2,y,A,c.hi _ e (Nat.le_add_right _ _) h2,x⟩
 ·have h2:=g he;rw[J77]at h2;by_cases hk:k=0
  ·subst hk;exact z e h2
  ·have n:k-1<(ent r).length:=by have:=c.le;omega
   have ha:=JD n;have q1:=c.lo (k-1) _ (by omega) ha;have q2:=c.hi k e (zQ0 _) h2;have q3:=q (k-1) _ e ha (by rw[show k-1+1=k by omega];exact h2);unfold J76 at q3;show e.2.2.2.2.1<r.1;omega
 ·have h1:=g ha;have h2:=g hb;exact q (k+j) a b h1 h2
theorem JI1{α:Type}{bytes:Nat}{l m:List α}(h:J0 l+J0 m<=34359738368)(hb:bytes<=2048):Jz bytes l m=some (l++m):=by unfold Jz;rw[if_pos (JjH (by unfold J0 at h;omega) hb)]
def J5w(id:Int)(e:T_api_Entry):Bool:=eqI (pgE e) id
theorem Jns{r:JC}(h:J4n r)(id:Int):J2T (r,id)=some ((ent r).filter (J5w id)):=by
 have o:Tot (J2T (r,id)) λy=>y=(ent r).filter (J5w id):=by
  have g2:J0 (ent r)<=4096:=h.2.1;unfold J2T;refine .bind (J1o (JFI h)) λG w=>.not (λc=>by rw[w]at c;cases c) λ_=>Jd (τ:=Int) (λq=>(id,q,r,((ent r).take q.toNat).filter (J5w id))) (λq=>0<=q/\q<=J0 (ent r)) (λq=>J0 (ent r)-q) ?_ 0 (by simp) ⟨J0G _,J3⟩;rintro i ⟨x,h1⟩;unfold JdE;dsimp only;have E:=Jh i 1;refine .lt (λc=>?_) λc=>.some ?_
  ·have c:i<J0 (ent r):=c;obtain⟨e,he,v⟩:=Jds x c;have e1:(J1 .i64 i 1).toNat=i.toNat+1:=by omega
   have n:(ent r).take (J1 .i64 i 1).toNat=(ent r).take i.toNat++[e]:=by rw[e1,List.take_add_one,v];rfl
   have j:idx r.2.2.2.2.2 i=some e:=he;refine .bind (J1o j) λC D=>?_;subst D;refine .eq (λk=>.bind (J1o j) λA B=>?_) λk=>?_
   ·subst B;have hl:J0 (((ent r).take i.toNat).filter (J5w id))<=4096:=by
     have q1:=List.length_filter_le (J5w id) ((ent r).take i.toNat);have q2:=List.length_take_le i.toNat (ent r);unfold J0 at g2⊢;have q3:((ent r).take i.toNat).length<=(ent r).length:=by rw[JaB];omega
     omega
    refine .bind (J1o (JI1 (by rw[Jdv];omega) (by decide))) λF z=>?_;subst z;refine .some ⟨J1 .i64 i 1,?_,⟨by omega,by omega⟩,by omega,by omega⟩;have g:J5w id A=true:=J5K.2 k;rw[n,List.filter_append,List.filter_cons_of_pos g,List.filter_nil]
   ·refine .some ⟨J1 .i64 i 1,?_,⟨by omega,by omega⟩,by omega,by omega⟩;have g: ¬J5w id C=true:=λh=>k (J5K.1 h);rw[n,List.filter_append,List.filter_cons_of_neg g,List.filter_nil,J45]
  ·have c: ¬i<J0 (ent r):=c;rw[List.take_of_length_le (by unfold J0 at c;omega)]
 obtain⟨y,e,d⟩:=o;rw[e,d]
theorem JvV(l:List T_api_Entry)(hl:J0 l<=4096):J2E (l,l)=some true:=by
 have g:Tot (J2E (l,l)) λy=>y=true:=by unfold J2E;refine .ne (λc=>absurd rfl c) λ_=>Jd (τ:=Int) (λq=>(l,l,q)) (λq=>0<=q/\q<=J0 l) (λq=>J0 l-q) ?_ 0 rfl ⟨J0G _,J3⟩;rintro i ⟨n,h1⟩;unfold J96;dsimp only;have r:=Jh i 1;refine .lt (λc=>?_) λ_=>.some rfl;obtain⟨e,he,_⟩:=Jds n c;refine .bind (J1o he) λo k=>.bind (J1o he) λh j=>.not (λc=>?_) λ_=>.some ⟨J1 .i64 i 1,rfl,⟨by omega,by omega⟩,by omega,by omega⟩;subst k;subst j;have q:eqT J4 h h=true:=J1D.2 rfl;cases q.symm.trans c
 obtain⟨y,e,d⟩:=g;rw[e,d]
theorem JGn{r:JC}{p id:Int}{k:Nat}(c:Cut r p k)(h:id<p):(ent (JAk r p k)).filter (J5w id)=(ent r).filter (J5w id):=by
 have e:(ent r).filter (J5w id)=((ent r).take k).filter (J5w id)++((ent r).drop k).filter (J5w id):=by rw[<-List.filter_append,JjB]
 have z:((ent r).drop k).filter (J5w id)=[]:=by rw[List.filter_eq_nil_iff];intro a ha;obtain⟨j,hj⟩:=JbU.1 ha;rw[J7k]at hj;have:=c.hi _ a (Nat.le_add_right k j) hj;intro hc;have:=J5K.1 hc;omega
 rw[e,z,J45];rfl
theorem JDI{r:JC}{p id:Int}{k:Nat}(c:Cut r p k)(h: ¬id<p):(ent (Jsm r p k)).filter (J5w id)=(ent r).filter (J5w id):=by
 have e:(ent r).filter (J5w id)=((ent r).take k).filter (J5w id)++((ent r).drop k).filter (J5w id):=by rw[<-List.filter_append,JjB]
 have z:((ent r).take k).filter (J5w id)=[]:=by rw[List.filter_eq_nil_iff];intro a ha;obtain⟨j,hj⟩:=JbU.1 ha;obtain⟨h1,h2⟩:=Jdw hj;have:=c.lo _ a h1 h2;intro hc;have:=J5K.1 hc;omega
 rw[e,z,Ja3];rfl
theorem JIt{r:JC}{p:Int}(h:J4n r)(hp:Ty.fit 0 0 (.i .i64) p):Tot (J19 (ent r,p)) λy=>y.2=p/\((y.1= -1/\Cut r p (ent r).length)\/(0<=y.1/\Cut r p y.1.toNat)):=by
 have g2:J0 (ent r)<=4096:=h.2.1;unfold J19;dsimp only;refine Jd (τ:=Int) (λq=>(ent r,J0 (ent r),q,p)) (λq=>0<=q/\q<=J0 (ent r)/\ ∀(j:Nat) (e:T_api_Entry),(j:Int)<q->(ent r)[j]?=some e->pgE e<p) (λq=>J0 (ent r)-q) ?_ 0 rfl ⟨J0G _,J3,λj e hj=>by omega⟩;rintro i ⟨o,h1,h2⟩;unfold J2Q;dsimp only;have x:=Jh i 1;refine .lt (λc=>?_) λc=>.some ⟨rfl,.inl ⟨rfl,zQ0 _,λj e hj he=>h2 j e (by unfold J0 at c;omega) he,λj e hj he=>by have:=(J6y.1 he).1;omega⟩⟩;obtain⟨e,he,k⟩:=Jds o c;refine .bind (J1o he) λn v=>?_;subst v;unfold J60;refine .bind (.some (Q:=λy:Bool×Int=>y=(geI (pgE n) p,p)) rfl) λz w=>?_;subst w;refine .ite (λg=>.some ⟨rfl,.inr ⟨o,?_,λj f hj hf=>h2 j f (by omega) hf,λj f hj hf=>?_⟩⟩) λg=>.some ⟨J1 .i64 i 1,rfl,⟨by omega,by omega,λj f hj hf=>?_⟩,by omega,by omega⟩
 ·show i.toNat<=(ent r).length;unfold J0 at c;omega
 ·have q:=JcN.1 g;have q2:=JM4 h (j-i.toNat) i.toNat n f k (by rw[show i.toNat+(j-i.toNat)=j by omega];exact hf);omega
 ·by_cases hl:(j:Int)<i
  ·exact h2 j f hl hf
  ·have:j=i.toNat:=by omega
   subst this;rw[k]at hf;injection hf with hf;subst hf
   have q: ¬p<=pgE n:=λh=>by rw[JcN.2 h]at g;cases g
   omega
theorem JCo{l:List T_api_Entry}(h:J0 l<=4096):J0e l=some l:=by unfold J0e J1T;rw[if_pos (JjH (by unfold J0 at h;omega) (by decide))]
theorem JK0{r:JC}{p:Int}(h:J4n r)(hp:Ty.fit 0 0 (.i .i64) p)(h1:r.2.2.1<p)(h2:p<=r.2.2.2.1):Tot (J5D (r,p)) λy=> ∃k,Cut r p k/\y=(JAk r p k,Jsm r p k,0):=by
 have g2:J0 (ent r)<=4096:=h.2.1;have q:=J2.1 hp;have I:=J0E p 1;have H:=h.1.2.2.2.1;unfold J5D;dsimp only;refine .bind (J1o (J6Q h)) λJ C=>.not (λc=>by rw[C]at c;cases c) λ_=>.lef (λ_=>.gt (λc=>absurd h2 (by omega)) λ_=>?_) λc=>by omega
 refine .bind (JIt h hp) λg ⟨A,hc⟩=>?_;have ep:JF .i64 g.2 1=p-1:=by rw[A];omega
 have D: ∀k:Nat,J0 ((ent r).take k)<=4096:=λk=>by unfold J0 at*;rw[JaB];omega
 have E: ∀k:Nat,J0 ((ent r).drop k)<=4096:=λk=>by unfold J0 at*;rw[JaH];omega
 have part: ∀(k:Int),0<=k->k<=J0 (ent r)->Cut r p k.toNat->Tot ((J0B r.2.2.2.2.2 none (some k)).bind λw=>
   (J0e w).bind λz=>
   (J0B r.2.2.2.2.2 (some k) none).bind λj=>
   (J0e j).bind λn=>
   some ((r.1,r.2.1,r.2.2.1,JF .i64 g.2 1,r.2.2.2.2.1,z),(r.1,r.2.1,g.2,r.2.2.2.1,r.2.2.2.2.1,n),(0:Int))) λy=> ∃k,Cut r p k/\y=(JAk r p k,Jsm r p k,0):=λk v o e=>by
  refine .bind (JB8 (l:=r.2.2.2.2.2) v o) λw ⟨F,_⟩=>?_;subst F;refine .bind (J1o (JCo (D k.toNat))) λz G=>.bind (JrK (l:=r.2.2.2.2.2) v o) λj ⟨B,_⟩=>?_;subst G;subst B;refine .bind (J1o (JCo (E k.toNat))) λn x=>.some ⟨k.toNat,e,?_⟩;subst x;rw[ep,A];rfl
 refine .lt (λc=>?_) λc=>?_
 ·rcases hc with⟨_,e⟩|⟨h,_⟩
  ·exact part (J0 r.2.2.2.2.2) J3 (J0G _) e
  ·omega
 ·rcases hc with⟨h,_⟩|⟨h,e⟩
  ·omega
  ·exact part g.1 h (by have:=e.le;unfold J0;omega) e
end
section
variable {B S:Int}
theorem JqY{a b lv:Int}(h1:1<=a)(h2:a<=b)(h3:b<=100)(h4:0<=lv)(h5:lv<=8):J4n (a,b,0,0,lv,[]):=
 ⟨⟨h1,h2,by show b<=1099511627776;omega,by show(0:Int)<=0;decide,by show(0:Int)<=0;decide,by show(0:Int)<64;decide,h4,h5⟩,by show J0 ([]:List T_api_Entry)<=4096;decide,λj e h=>by simp at h,λe h=>by simp at h,λj a b h=>by simp at h⟩
theorem JGb:J53 ()=some true:=by
 have v1:=J6Q (JqY (a:=1) (b:=2) (lv:=0) (by decide) (by decide) (by decide) (by decide) (by decide));have v2:=J6Q (JqY (a:=3) (b:=3) (lv:=0) (by decide) (by decide) (by decide) (by decide) (by decide));have v3:=J6Q (JqY (a:=1) (b:=3) (lv:=1) (by decide) (by decide) (by decide) (by decide) (by decide));have m:J5l (([]:List T_api_Entry),[])=some []:=by unfold J5l;refine Jjy ?_;unfold J9I;dsimp only;rw[if_pos (by rfl),JI1 (α:=T_api_Entry) (l:=[]) (m:=[]) (by decide) (by decide)];rfl
 have g:Tot (J2z ((1,2,0,0,0,[]),3,3,0,0,0,[])) λy=>y=((1,3,0,0,1,[]),0):=by
  unfold J2z;dsimp only;refine .bind (J1o v1) λv h=>.nof (λ_=>.bind (J1o v2) λw k=>.not (λc=>by rw[k]at c;cases c) λ_=>?_) λc=>by rw[h]at c;cases c
  have o:J5M ((1,2,0,0,0,([]:List T_api_Entry)),3,3,0,0,0,([]:List T_api_Entry))=some true:=by rfl
  refine .bind (J1o o) λA r=>.not (λc=>by rw[r]at c;cases c) λ_=>.gef (λ_=>.gt (λc=>absurd c (by decide)) λ_=>?_) λc=>absurd c (by decide);refine .bind (J1o m) λx q=>?_;subst q;have e1:J1 .i64 (J31 0 0) 1=1:=by rfl
  rw[e1];exact .bind (J1o v3) λz n=>.not (λc=>by rw[n]at c;cases c) λ_=>.some rfl
 have j:Tot (J53 ()) λy=>y=true:=by unfold J53;refine .bind g λv h=>?_;subst h;exact .eq (λ_=>.eq (λ_=>.eq (λ_=>.some (by rfl)) λc=>absurd rfl c) λc=>absurd rfl c) λc=>absurd rfl c
 obtain⟨y,e,d⟩:=j;rw[e,d]
abbrev rZ:JC:=(0,0,0,0,0,[])
theorem JHf{x:JJe}{y:Jes}(e:J3c x=some y):y.1=rZ\/J1x y.1=some true:=by
 have g:Par (J3c x) λy=>y.1=rZ\/J1x y.1=some true:=by
  unfold J3c;refine .bind λ_ _=>.not (λ_=>.some (.inl rfl)) λ_=>.while (λ_=>True) trivial λz _=>?_;unfold JaF;refine .lt (λ_=>.bind λ_ _=>.bind λ_ _=>.not (λ_=>.some (.inl rfl)) λ_=>.some trivial) λ_=>.map (.while (λ_=>True) trivial λz _=>?_);unfold JaX;refine .lt (λ_=>.bind λ_ _=>.bind λ_ _=>.nof (λ_=>.ltf (λ_=>.gtf (λ_=>.ltf (λ_=>.gt (λ_=>.some trivial) λ_=>?_) λ_=>.some trivial) λ_=>.some trivial) λ_=>.some trivial) λ_=>.some trivial) λ_=>.map (.ite (λ_=>.some (.inl rfl)) λ_=>.gt (λ_=>.some (.inl rfl)) λ_=>.bind λb hb=>.not (λ_=>.some (.inl rfl)) λc=>.some (.inr ?_))
  ·refine .while (λ_=>True) trivial λz _=>?_;unfold JaD;exact .lt (λ_=>.itf (λ_=>.bind λ_ _=>.eq (λ_=>.bind λ_ _=>.some trivial) λ_=>.some trivial) λ_=>.some trivial) λ_=>.map (.bind λ_ _=>.some trivial)
  ·subst c;exact hb
 exact g _ e
theorem JDA{c:Jw}{y:JNO}(e:J3j c=some y):y.1=rZ\/J4n y.1:=by
 have g:Par (J3j c) λy=>y.1=rZ\/J4n y.1:=by
  unfold J3j;refine .bind λ_ _=>.bind λ_ _=>.bind λ_ _=>.bind λ_ _=>.bind λ_ _=>.bind λ_ _=>.bind λk j=>.bind λ_ _=>.bind λ_ _=>.bind λ_ _=>.bind λ_ _=>.some ?_;rcases JHf j with h|h
  ·exact .inl h
  ·exact .inr (J4n.of h)
 exact g _ e
theorem JL7{l:List Int}{y:Jw}(e:J5g (l,400)=some y):y.2=0/\J0 y.1<=400:=by
 have g:Par (J5g (l,400)) λy=>y.2=0/\J0 y.1<=400:=by
  unfold J5g;dsimp only;refine .gt (λc=>.bind λa ha=>.some ⟨rfl,?_⟩) λc=>.some ⟨rfl,by show J0 l<=400;omega⟩;obtain⟨r,hr,_,h2⟩:=JB8 (l:=l) (k:=400) (by decide) (by omega);rw[hr]at ha;injection ha with ha;subst ha
  show J0 r<=400;omega
 exact g _ e
theorem Jeg{j:List Int}{x1:Int}(w0:Ty.inR (.l (.i .u8)) j)(w1:Ty.inR (.i .u8) x1):J3s (j,x1)=some true:=by
 have H:Tot (J3s (j,x1)) λy=>y=true:=by
  have q1:0<=x1/\x1<=255:=by have:=w1;simpa[Ty.inR,IntKind.min,IntKind.max,IntKind.signed,IntKind.bits]using this
  have L:Ty.fit (J0 j) 0 (.l (.i .u8)) j:=⟨J0G _,λa ha=>by have:=w0.2 a ha;rw[JBE];simpa[Ty.inR,IntKind.min,IntKind.max,IntKind.signed,IntKind.bits]using this⟩
  have T:0<=J0 j:=J3;unfold J3s;dsimp only;refine .bind (J1o JGb) λy2 K=>.not (λc=>by rw[K]at c;cases c) λ_=>.bind ((JFE (B:=J0 j) (S:=0) (x1:=(j,400)) ⟨L,JfF .i64 400⟩ (by show(0:Int)<=400;decide)).eqn) λG h3=>?_;obtain⟨n1,n2⟩:=JL7 h3.2;have R:Ty.fit 16384 1073741824 J6 G:=⟨⟨by show J0 G.1<=16384;omega,λa ha=>h3.1.1.1.2 a ha⟩,h3.1.1.2⟩;refine .bind ((Jyl (B:=16384) (S:=1073741824) R (by omega)).eqn) λg h4=>.eq (λ_=>.some rfl) λc=>?_;have hr:J4n g.1:=by
   rcases JDA h4.2 with h|h
   ·rw[h]at c;exact absurd rfl c
   ·exact h
  obtain⟨⟨a1,a2,a3,O,a5,a6,W,U⟩,g2,_⟩:=id hr;have s1:=J0E g.1.2.2.2.1 g.1.2.2.1;have Z:=JFO x1;have s3:=Jh g.1.2.2.1 1;refine .bind (JrA (k:=.i64) (B:=0) (S:=0) (x:=cvI .i64 x1) (y:=JF .i64 g.1.2.2.2.1 g.1.2.2.1) JbJ (by omega)) λr h5=>?_;have b0:=h5.2.1 (by omega);have b1:=h5.2.2 (by omega);have V:=Jh (J1 .i64 g.1.2.2.1 1) r;have ep:J1 .i64 (J1 .i64 g.1.2.2.1 1) r=g.1.2.2.1+1+r:=by omega
  rw[ep];generalize hp:g.1.2.2.1+1+r=p;have A:g.1.2.2.1<p:=by omega
  have z:p<=g.1.2.2.2.1:=by omega
  refine .bind (JK0 hr (by rw[J2];omega) A z) λy6 ⟨k,v,M⟩=>?_;subst M;dsimp only;have I:=JLM hr v A z;have F:=JJc hr v A z;generalize g.1=a at*;refine Jd (τ:=Int) (λq=>(p,0,q,g.2.2.2,a,g.2.1,g.2.2.1,JAk a p k,Jsm a p k)) (λq=>0<=q/\q<=64) (λq=>64-q) ?_ a.2.2.1 rfl ⟨O,by omega⟩;rintro i ⟨Y,h1⟩;unfold J6J;dsimp only;have o1:=Jh i 1;have J:=Jns hr i;have hlen:J0 ((ent a).filter (J5w i))<=4096:=by have q:=List.length_filter_le (J5w i) (ent a);have w:J0 (ent a)<=4096:=g2;unfold J0 at w⊢;omega
  refine .le (λc=>.ge (λP=>?_) λP=>?_) λc=>.inr (.eq (λ_=>.some ?_) λc=>absurd rfl c)
  ·have n:=Jns F i;rw[JDI v (by omega)]at n;refine .bind (J1o n) λN D=>.bind (J1o J) λQ C=>?_;subst D;subst C;exact .bind (J1o (JvV _ hlen)) λE o=>.not (λc=>by rw[o]at c;cases c) λ_=>.some ⟨J1 .i64 i 1,rfl,⟨by omega,by omega⟩,by omega,by omega⟩
  ·have n:=Jns I i;rw[JGn v (by omega)]at n;refine .bind (J1o n) λN D=>.bind (J1o J) λQ C=>?_;subst D;subst C;exact .bind (J1o (JvV _ hlen)) λE o=>.not (λc=>by rw[o]at c;cases c) λ_=>.some ⟨J1 .i64 i 1,rfl,⟨by omega,by omega⟩,by omega,by omega⟩
  ·show eqI _ _=true;rw[J5K];show J1 .i64 (J0 ((ent a).take k)) (J0 ((ent a).drop k))=J0 (ent a);have e:=JjB k (ent a);have e2:J0 ((ent a).take k)+J0 ((ent a).drop k)=J0 (ent a):=by rw[<-Jjo,e]
   have w:J0 (ent a)<=4096:=g2;have q1:=J3 (l:=(ent a).take k);have q2:=J3 (l:=(ent a).drop k);have q3:=Jh (J0 ((ent a).take k)) (J0 ((ent a).drop k));omega
 obtain⟨y,e,d⟩:=H;rw[e,d]
end
end Go.Am
end
section
namespace Go.Am
set_option maxRecDepth 20000
def lkA{α:Type}(f:FuncId):List (FuncId×α)->Option α
 |[]=>none
 |(g,a)::r=>if f=g then some a else lkA f r
noncomputable def JGS:List (FuncId×AFn):=[(8,erF JrO),(24,erF J9n),(64,erF Jf8),(54,erF Jc8),(53,erF Jog),(42,erF JhJ),(25,erF Jbv),(50,erF Jhk),(71,erF Jbr),(70,erF Jh2),(61,erF Jii),(60,erF Jnb),(59,erF JdB),(62,erF Jdg),(63,erF Jdx),(51,erF Jks),(40,erF Jky),(39,erF JfU),(52,erF Jg4),(41,erF JkB),(23,erF Jnd),(11,erF Jcd),(7,erF JkZ),(10,erF Jl5)]
noncomputable def JGX:List (FuncId×AFn):=[(20,erF J89),(98,erF Jc3),(99,erF Je5),(85,erF Jap),(68,erF Jcf),(57,erF J95),(75,erF JgL),(66,erF Jpk),(74,erF Jpx),(72,erF JpW),(73,erF JpH),(65,erF JpK),(55,erF Jq0),(49,erF Jh6),(69,erF Jc9),(58,erF JlD),(48,erF JlH),(36,erF Jl0),(47,erF Jno),(46,erF Jkr),(33,erF Jkx),(34,erF JmC),(84,erF Jh3),(177,erF Jk4)]
noncomputable def JFL:List (FuncId×AFn):=[(130,erF JkV),(131,erF Jmv),(100,erF Jkq),(118,erF JlY),(188,erF Jdn),(208,erF JlW),(209,erF Jna),(210,erF Jnk),(162,erF Jlo),(191,erF Jkc),(190,erF Jfs),(138,erF JkI),(106,erF JlS),(211,erF JpV),(163,erF Jkk),(164,erF Jbp),(117,erF JkG),(94,erF Jln),(86,erF Jlk),(76,erF Jk9),(37,erF Jfz),(153,erF Jhs),(154,erF Jq2),(199,erF Jps)]
noncomputable def JGV:List (FuncId×AFn):=[(156,erF JnU),(152,erF JmN),(196,erF JgC),(197,erF JpN),(198,erF JgO),(155,erF JmJ),(107,erF JmR),(89,erF Jn7),(104,erF Jpz),(121,erF Jol),(113,erF JpB),(140,erF JpQ),(151,erF JhK),(195,erF JeV),(150,erF JhH),(149,erF Jk5),(112,erF Jh8),(148,erF Jk7),(111,erF JsY),(91,erF Jml),(80,erF Jbt),(105,erF Jk1),(88,erF JkD),(142,erF JpE)]
noncomputable def JGU:List (FuncId×AFn):=[(139,erF Jke),(141,erF JlO),(108,erF Ji3),(144,erF Jnx),(193,erF JfX),(145,erF JkH),(231,erF JjX),(192,erF JkS),(143,erF Jhb),(146,erF Jn1),(109,erF JlE),(194,erF JpZ),(147,erF Jlf),(110,erF JfG),(90,erF Jlu),(79,erF Jli),(171,erF Jow),(218,erF JoA),(219,erF Jnh),(170,erF Jgx),(127,erF JfM),(126,erF Jf1),(128,erF JnZ),(173,erF JlF)]
noncomputable def JGv:List (FuncId×AFn):=[(172,erF Jf3),(176,erF Jox),(220,erF JiO),(174,erF Jpy),(221,erF JsB),(175,erF Jgw),(129,erF Jon),(97,erF Jn4),(125,erF JhX),(96,erF Joj),(166,erF Jq1),(120,erF JnN),(203,erF Jpn),(239,erF Jkw),(214,erF JhL),(215,erF JpG),(167,erF Jdt),(122,erF Jls),(169,erF JpD),(124,erF JhS),(217,erF Jl1),(243,erF JkA),(240,erF Jnf),(216,erF JlG)]
noncomputable def JHr:List (FuncId×AFn):=[(168,erF Job),(123,erF JmX),(213,erF Jmo),(212,erF JhE),(165,erF Jnn),(119,erF Jo9),(95,erF JjS),(83,erF JnF),(81,erF JgE),(135,erF JeB),(189,erF Jnl),(136,erF JpJ),(102,erF JeH),(226,erF JjY),(184,erF JeW),(228,erF JfD),(229,erF JaG),(186,erF Jkh),(225,erF Jif),(182,erF Jn2),(181,erF Jmm),(230,erF JkL),(187,erF Jpu),(227,erF Jq3)]
noncomputable def JGD:List (FuncId×AFn):=[(185,erF Jhn),(179,erF JgZ),(223,erF JiS),(224,erF JfO),(180,erF JkX),(183,erF JoC),(222,erF Jho),(178,erF Jff),(132,erF JrL),(133,erF JfZ),(134,erF JdL),(101,erF Jt5),(137,erF Jne),(103,erF Joo),(87,erF JrJ),(78,erF Jaj),(114,erF JnW),(200,erF JkP),(232,erF Jmg),(201,erF JgV),(158,erF JlV),(157,erF Jnt),(115,erF Jk8),(92,erF JkJ)]
noncomputable def JGm:List (FuncId×AFn):=[(202,erF Jg5),(235,erF J9S),(233,erF J9i),(234,erF Jao),(204,erF JiT),(159,erF JmU),(242,erF JmI),(238,erF JmV),(207,erF Jlj),(245,erF Jhc),(246,erF J99),(247,erF Jat),(244,erF Jhd),(241,erF JiJ),(236,erF JiL),(205,erF Jk3),(237,erF JlN),(206,erF Joz),(160,erF Jfj),(161,erF Jka),(116,erF Jmq),(93,erF Jo2),(82,erF J8h),(77,erF J9a)]
noncomputable def JHw:List (FuncId×AFn):=[(67,erF J97),(56,erF JpS),(45,erF Jae),(32,erF Jan),(21,erF JrX),(43,erF Jfx),(38,erF Jia),(35,erF Jg1),(29,erF Jkp),(22,erF Jmn),(9,erF Jl7),(3,erF J7T),(27,erF J9Z),(26,erF J3u),(12,erF Jc2),(13,erF Jaz),(14,erF JgB),(4,erF J7V),(44,erF J8m),(19,erF JDa),(18,erF JC9),(30,erF Jvx),(16,erF JyB),(15,erF JxY)]
noncomputable def fns:List (FuncId×AFn):=JGS++(JGX++(JFL++(JGV++(JGU++(JGv++(JHr++(JGD++(JGm++(JHw)))))))))
noncomputable def fks:List (FuncId×J93):=[(28,JnA J4 128)]
abbrev PS:=FuncId->Option (List AV->List Blk->Option Res)
noncomputable def JJd(p:PS):J44:=λf=>JMH (lkA f fns) (lkA f fks) (p f) none
def AE(l:List TE):Prop:= ∀p,Jtr (AF (JJd p)) l
theorem ae0:AE []:=λ_=>trivial
theorem stp{i g S l}(f:TFn)(A:AE l)(q: ∀x,onO (JjA g x) (λy=>Jr1 (TG.of l) f y.1 y.2 (Jbk g))=S x)(hf: ∀p,JJd p i=some (.fn (erF f)):=by intro p;rfl)(hs:JmB g=true:=by rfl):AE (sigE i g S::l):=λp=>⟨JKX (hf p) (A p) hs q,A p⟩
end Go.Am
end
