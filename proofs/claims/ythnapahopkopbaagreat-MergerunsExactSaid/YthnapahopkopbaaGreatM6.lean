/-
  Parts of a proof.
-/
import Derived.ChangeArms
import Derived.OpenShut
import Derived.ChangeBears
import Derived.ChangeStays
import Derived.Handed
import Derived.RowKit3
import Derived.WalkKit
import Derived.ProofKit
import Derived.Test.YthnapahopkopbaaGreatM2
import Derived.Test.YthnapahopkopbaaGreatM3
import Derived.Test.YthnapahopkopbaaGreatM4
import Derived.Test.YthnapahopkopbaaGreatM5
set_option linter.unusedSimpArgs false
set_option linter.unusedVariables false
section
namespace Go.Am
set_option linter.unusedVariables false
set_option maxRecDepth 20000
set_option maxHeartbeats 4000000
theorem JfU{B S:Int}{x1:J3z}(h:Ty.fit B S tq3 x1)(k:BC B S 0 0:=by omega):Tot (J2R x1) λy=>Ty.fit 0 0 .b y:=by
 unfold J2R;refine .bind ((J2S (B:=B) (S:=S) (x1:=(x1.1.1.2.2.2.2.2.1,x1.2)) (⟨h.1.1.g.1,h.2⟩)).eqn) λe h1=>?_;have:J0 x1.1.1.2.2.2.2.2.1=_:=Jj h.1.1.g.1;have: -1<=e/\e<J0 x1.1.1.2.2.2.2.2.1:=h1.1.2;refine .ge (λj=>?_) λj=>?_
 ·refine .bind (Jh h.1.1.g.1) λn o=>.some trivial
 ·exact .some trivial
section
variable {B S:Int}
theorem J6u{e:Int}{y:J0L}(h:Jx e=some y):y.1=5:=by unfold Jx at h;injection h with h;subst h;rfl
theorem Jwd{x:JdQ}{y:J6v}(e:J3G x=some y)(c:y.2.1=3): ¬InP x.1.2.2.2.1 x.2.2.2.1/\y.1=x.1/\y.2.2.2.1=x.2.2.2.1:=by
 have g:Par (J3G x) λy=>y.2.1=3-> ¬InP x.1.2.2.2.1 x.2.2.2.1/\y.1=x.1/\y.2.2.2.1=x.2.2.2.1:=by
  unfold J3G;refine .bind λn h2=>.not (λc=>.some λ_=>⟨λh=>(by rw[(JgB h2).2 h]at c;cases c),rfl,rfl⟩) λ_=>.eq (λ_=>.bind λ_ _=>.bind λ_ _=>.bind λ_ _=>.some nofun) λ_=>.bind λ_ _=>.bind λ_ _=>.eq (λ_=>?_) λ_=>?_
  all_goals
   refine .bind λo _=>.ne (λ_=>.bind λk j=>.some λc=>?_) λ_=>.some nofun;have:=J6u j;dsimp only at c;omega
 exact g _ e c
theorem JvC{x:J1R}{y:J6v}(e:J3P x=some y): ¬y.2.1=3:=by
 have g:Par (J3P x) λy=> ¬y.2.1=3:=by unfold J3P;refine .bind λ_ _=>.bind λ_ _=>.eq (λ_=>.bind λ_ _=>.bind λ_ _=>.some nofun) λ_=>.bind λ_ _=>.ne (λ_=>.bind λj h=>.some λc=>?_) λ_=>.bind λ_ _=>.bind λ_ _=>.some nofun;have:=J6u h;dsimp only at c;omega
 exact g _ e
theorem Jkh{x:Jdl}{y:J6v}(e:J3x x=some y):y.2.1=x.2.2\/y.2.1=5:=by
 have g:Par (J3x x) λy=>y.2.1=x.2.2\/y.2.1=5:=by unfold J3x;refine .bind λ_ _=>.bind λ_ _=>.bind λ_ _=>.eq (λ_=>.bind λ_ _=>.bind λ_ _=>.some (.inl rfl)) λ_=>.bind λj _=>.ne (λ_=>.bind λq h=>.some (.inr (J6u h))) λ_=>.while (λz=>z.2.1=x.2.2) rfl ?_;rintro⟨a,st,hl,i,k,n,o,out⟩ hz;dsimp only at hz;unfold JaI;dsimp only;exact .lt (λ_=>.bind λ_ _=>.eq (λ_=>.bind λ_ _=>.bind λ_ _=>.not (λ_=>.bind λ_ _=>.bind λ_ _=>.some hz) λ_=>.some hz) λ_=>.some hz) λ_=>.some (.inl hz)
 exact g _ e
theorem JI0{x:JdQ}{y:J6v}(e:J6q x=some y)(c:y.2.1=3):JL x.1=some true/\ ¬InP x.1.2.2.2.1 x.2.2.2.1/\y.1.2.2.2.1=x.1.2.2.2.1/\y.2.2.2.1=x.2.2.2.1:=by
 have o:Par (J6q x) λy=>y.2.1=3->JL x.1=some true/\ ¬InP x.1.2.2.2.1 x.2.2.2.1/\y.1.2.2.2.1=x.1.2.2.2.1/\y.2.2.2.1=x.2.2.2.1:=by
  unfold J6q;have g: ∀{e:Int} {k:J9} {r:J0L} {Q:Prop},Jx e=some r->(k,r).2.1=3->Q:=fun{e k r Q} h c=>by have:=J6u h;dsimp only at c;omega
  refine .bind λE h2=>.ne (λ_=>.bind λ_ h3=>.some (g h3)) λq=>.eq (λ_=>.bind λD h4=>.some λc=>absurd c (JvC h4)) λ_=>.eq (λ_=>.bind λC h5=>.some λc=>?_) λ_=>.eq (λ_=>?_) λ_=>.eq (λ_=>?_) λ_=>.bind λB _=>.bind λv _=>.ne (λ_=>.bind λ_ h=>.some (g h)) λ_=>.ite (λ_=>.bind λw n=>.eq (λd=>.some λc=>?_) λ_=>.some λc=>?_) λ_=>.bind λz _=>.gt (λ_=>.bind λA j=>.eq (λd=>.some λc=>?_) λ_=>.some λc=>?_) λ_=>.bind λ_ _=>.some nofun
  ·have:=Jkh h5;dsimp only at c this;omega
  ·exact .bind λ_ _=>.eq (λ_=>.bind λ_ _=>.ne (λ_=>.bind λ_ h=>.some (g h)) λ_=>.some nofun) λ_=>.ne (λ_=>.bind λ_ h=>.some (g h)) λ_=>.some nofun
  ·exact .bind λ_ _=>.eq (λ_=>.bind λ_ _=>.ne (λ_=>.bind λ_ h=>.some (g h)) λ_=>.some nofun) λ_=>.ne (λ_=>.bind λ_ h=>.some (g h)) λ_=>.some nofun
  ·dsimp only at c;omega
  ·subst q;obtain⟨a1,a2,a3⟩:=Jwd n c;exact⟨(Ja9 h2).1,a1,by rw[a2],a3⟩
  ·dsimp only at c;omega
  ·have:=Jkh j;dsimp only at c this;omega
 exact o _ e c
end
section
variable {B S:Int}
def JcJ(k y:J9):Prop:=JL k=some true/\JL y=some true/\y.2.2.2.2.2.1=k.2.2.2.2.2.1/\y.2.2.1.1=k.2.2.1.1/\y.2.2.1.2.1=k.2.2.1.2.1
theorem JDF{k y:J9}(h:JcJ k y)(n:Int):J0M (y.2.2.1,n)=J0M (k.2.2.1,n):=by obtain⟨h1,h2,h3,h4,h5⟩:=h;have v1:=(J4l h1).1;have v2:=(J4l h2).1;unfold J0M J2m;dsimp only;rw[v1,v2,h4,h5]
theorem JoY{k y:J9}(h:JcJ k y)(e:Int):J1a (y,e)=J1a (k,e):=by obtain⟨h1,h2,h3,h4,h5⟩:=h;unfold J1a;dsimp only;rw[h1,h2,h3]
theorem JIC{k y:J9}(h:JcJ k y)(e:Int):J3n (y,e)=J3n (k,e):=by unfold J3n;dsimp only;rw[JoY h e];simp only[JDF h]
theorem JMz{k y:J9}(h:JcJ k y)(x:Ju)(c:JI)(n:Int):J6p (y,x,c,n)=J6p (k,x,c,n):=by
 unfold J6p;dsimp only;refine Jwx (R:=λz g=>z.1=g.1/\z.2.1=y/\g.2.1=k/\z.2.2=g.2.2) ?_ ⟨rfl,rfl,rfl,rfl⟩;rintro⟨i,a,r⟩ ⟨D,w,r'⟩ ⟨e1,e2,B,C⟩;dsimp only at e1 e2 B C;subst e1;subst e2;subst B;subst C;unfold Jdf;dsimp only;by_cases hi:geI i 0=true
 ·rw[if_pos hi,if_pos hi];cases idx r.1.2.2.2.2.1 i with
  |none=>exact .inl ⟨rfl,rfl⟩
  |some j=>
   rw[JJ,JJ,JDF h];cases J0M (w.2.2.1,j)with
   |none=>exact .inl ⟨rfl,rfl⟩
   |some e=>
    rw[JJ,JJ];have A:JI1 (fun(z g:TQ37)=>z.1=g.1/\z.2.1=a/\g.2.1=w/\z.2.2=g.2.2) (some (.inl (JG .i64 i 1,a,r.1,r.2.1,r.2.2):(TQ37)⊕(Jpn))) (some (.inl (JG .i64 i 1,w,r.1,r.2.1,r.2.2))):=.inr (.inr ⟨_,_,rfl,rfl,rfl,rfl,rfl,rfl⟩);by_cases o:eqI e.2 0=true
    ·rw[if_pos o,if_pos o];by_cases q:eqI e.1.2.2.2.2.2.2.1.1 r.2.1.1=true
     ·rw[if_pos q,if_pos q];by_cases v:eqI e.1.2.2.2.2.2.2.1.2.1 r.2.1.2=true
      ·rw[if_pos v,if_pos v];exact .inr (.inl ⟨_,rfl,rfl⟩)
      ·rw[if_neg v,if_neg v];exact A
     ·rw[if_neg q,if_neg q];exact A
    ·rw[if_neg o,if_neg o];exact A
 ·rw[if_neg hi,if_neg hi];exact .inr (.inl ⟨_,rfl,rfl⟩)
theorem JEs{k y:J9}(h:JcJ k y)(e:Int)(c:JI):J2N (y,e,c)=J2N (k,e,c):=by unfold J2N;dsimp only;rw[JoY h e];simp only[JMz h]
theorem J7e{k:J9}{h:Int}{y:Ju×Int}(e:J1a (k,h)=some y)(c:y.2=0):JL k=some true:=by
 have g:Par (J1a (k,h)) λy=>y.2=0->JL k=some true:=by unfold J1a;refine .bind λa ha=>.not (λ_=>.some nofun) λc=>?_;subst c;exact λ_ _ _=>ha
 exact g _ e c
theorem Jp9{x:JH2}{y:J6v}(e:J2h x=some y)(c:y.2.1=3): ¬InP x.1.2.2.2.1 x.2.2.2.2.2.2.2.2.1.1/\y.2.2.2.1=x.2.2.2.2.2.2.2.2.1.1:=by
 have j: ∀{e:Int} {k:J9} {r:J0L} {Q:Prop},Jx e=some r->(k,r).2.1=3->Q:=fun{e k r Q} h c=>by have:=J6u h;dsimp only at c;omega
 have g:Par (J2h x) λy=>y.2.1=3-> ¬InP x.1.2.2.2.1 x.2.2.2.2.2.2.2.2.1.1/\y.2.2.2.1=x.2.2.2.2.2.2.2.2.1.1:=by unfold J2h;exact .bind λn h2=>.not (λc=>.some λ_=>⟨λh=>(by rw[(JgB h2).2 h]at c;cases c),rfl⟩) λ_=>.bind λ_ _=>.bind λ_ _=>.ne (λ_=>.bind λ_ h=>.some (j h)) λ_=>.bind λ_ _=>.ne (λ_=>.bind λ_ h=>.some (j h)) λ_=>.eq (λ_=>.bind λ_ _=>.not (λ_=>.bind λ_ _=>.some nofun) λ_=>.some nofun) λ_=>.some nofun
 exact g _ e c
def Jt8(k:J9)(e p:Int):Prop:=JL k=some true/\ ¬InP k.2.2.2.1 p/\ ∃y,J3n (k,e)=some y/\p=y.1.2.2.2.2.2.2.1.1
theorem JBw{k:J9}{g:Int}{y:J6v}(e:J1f (k,g)=some y)(c:y.2.1=3):Jt8 k g y.2.2.2.1:=by
 have j: ∀{e:Int} {k:J9} {r:J0L} {Q:Prop},Jx e=some r->(k,r).2.1=3->Q:=fun{e k r Q} h c=>by have:=J6u h;dsimp only at c;omega
 have n:Par (J1f (k,g)) λy=>y.2.1=3->Jt8 k g y.2.2.2.1:=by
  unfold J1f;refine .bind λz h2=>.ne (λ_=>.bind λ_ h=>.some (j h)) λv=>.eq (λ_=>.eq (λ_=>.bind λ_ _=>.ne (λ_=>.bind λ_ h=>.some (j h)) λ_=>.bind λ_ _=>.some nofun) λ_=>?_) λ_=>?_
  all_goals
   refine .bind λo q=>.not (λ_=>.bind λ_ h=>.some (j h)) λ_=>.bind λx w=>.some λc=>?_;obtain⟨a1,a2⟩:=Jp9 w c;exact⟨J7e h2 v,a2▸a1,o,q,a2⟩
 exact n _ e c
def Jsm(k:J9)(e:Int)(c:JI)(p:Int):Prop:=JL k=some true/\ ¬InP k.2.2.2.1 p/\ ∃y,J2N (k,e,c)=some y/\p=y.1.2.2.2.2.2.2.1.1
theorem JDh{k:J9}{g:Int}{l:JI}{y:J6v}(e:J2z (k,g,l)=some y)(c:y.2.1=3):Jsm k g l y.2.2.2.1:=by
 have n: ∀{e:Int} {k:J9} {r:J0L} {Q:Prop},Jx e=some r->(k,r).2.1=3->Q:=fun{e k r Q} h c=>by have:=J6u h;dsimp only at c;omega
 have j:Par (J2z (k,g,l)) λy=>y.2.1=3->Jsm k g l y.2.2.2.1:=by unfold J2z;refine .bind λx h2=>.ne (λ_=>.bind λ_ h=>.some (n h)) λq=>.ne (λ_=>.bind λ_ h=>.some (n h)) λ_=>.bind λo h5=>.not (λ_=>.some nofun) λ_=>.bind λw v=>.some λc=>?_;obtain⟨a1,a2⟩:=Jp9 v c;exact⟨J7e h2 q,a2▸a1,o,h5,a2⟩
 exact j _ e c
theorem JwA{e:Int}{y:J0L}(h:Jx e=some y):y.2.2.2.2=e:=by unfold Jx at h;injection h with h;subst h;rfl
theorem JGI{x:JH2}{y:J6v}(e:J2h x=some y)(c:y.2.1=5): ¬y.2.2.2.2.2=0:=by
 have j: ∀{e:Int} {k:J9} {r:J0L},¬e=0->Jx e=some r->(k,r).2.1=5-> ¬(k,r).2.2.2.2.2=0:=fun{e k r} n h _=>by have:=JwA h;dsimp only;omega
 have g:Par (J2h x) λy=>y.2.1=5-> ¬y.2.2.2.2.2=0:=by unfold J2h;exact .bind λo h2=>.not (λc=>.some nofun) λ_=>.bind λ_ _=>.bind λ_ _=>.ne (λc=>.bind λ_ h=>.some (j c h)) λ_=>.bind λ_ _=>.ne (λc=>.bind λ_ h=>.some (j c h)) λ_=>.eq (λ_=>.bind λ_ _=>.not (λ_=>.bind λ_ _=>.some nofun) λ_=>.some nofun) λ_=>.some nofun
 exact g _ e c
theorem JIn{k:J9}{n:Int}{y:J6v}(e:J1f (k,n)=some y)(c:y.2.1=5): ¬y.2.2.2.2.2=0:=by
 have g: ∀{e:Int} {k:J9} {r:J0L},¬e=0->Jx e=some r->(k,r).2.1=5-> ¬(k,r).2.2.2.2.2=0:=fun{e k r} z h _=>by have:=JwA h;dsimp only;omega
 have j:Par (J1f (k,n)) λy=>y.2.1=5-> ¬y.2.2.2.2.2=0:=by
  unfold J1f;refine .bind λA h2=>.ne (λc=>.bind λ_ h=>.some (g c h)) λq=>.eq (λ_=>.eq (λ_=>.bind λ_ _=>.ne (λc=>.bind λ_ h=>.some (g c h)) λ_=>.bind λ_ _=>.some nofun) λ_=>?_) λ_=>?_
  all_goals
   exact .bind λv x=>.not (λ_=>.bind λ_ h=>.some (g (by decide) h)) λ_=>.bind λw o=>.some λc=>JGI o c
 exact j _ e c
theorem JBT{k:J9}{j:Int}{y:J6v}(e:J1f (k,j)=some y)(c: ¬y.2.1=5):JL k=some true:=by
 have g:Par (J1f (k,j)) λy=> ¬y.2.1=5->JL k=some true:=by unfold J1f;refine .bind λo h2=>.ne (λ_=>.bind λ_ h=>.some λc=>absurd (J6u h) c) λn=>λ_ _ _=>J7e h2 n
 exact g _ e c
theorem JBN{k:J9}{j:Int}{l:JI}{y:J6v}(e:J2z (k,j,l)=some y)(c: ¬y.2.1=5):JL k=some true:=by
 have g:Par (J2z (k,j,l)) λy=> ¬y.2.1=5->JL k=some true:=by unfold J2z;refine .bind λo h2=>.ne (λ_=>.bind λ_ h=>.some λc=>absurd (J6u h) c) λn=>λ_ _ _=>J7e h2 n
 exact g _ e c
def JcQ(e:Int)(k:J9)(p:Int):Prop:= ∃y,J1f (k,e)=some y/\y.2.1=3/\y.2.2.2.1=p
def JpB(e:Int)(l:JI)(k:J9)(p:Int):Prop:= ∃y,J2z (k,e,l)=some y/\y.2.1=3/\y.2.2.2.1=p
theorem JcQ.want{g:Int}{k:J9}{p:Int}(h:JcQ g k p):Jt8 k g p:=by obtain⟨y,e,c,d⟩:=h;exact d▸JBw e c
theorem JpB.want{g:Int}{l:JI}{k:J9}{p:Int}(h:JpB g l k p):Jsm k g l p:=by obtain⟨y,e,c,d⟩:=h;exact d▸JDh e c
theorem JmX{k y:J9}{p:Int}(W:J9->Int->Prop)(g: ∀{k p},W k p->JL k=some true/\ ¬InP k.2.2.2.1 p)(same: ∀{p q},JcJ k y->W k p->W y q->q=p)(h:W k p)(r:J3g k y)(hp:Jcj y.2.2.2.1 p)(hy:Ty.fit B S JK y.2.2.2.1)(hl:J0 y.2.2.1.2.1=J0 k.2.2.1.2.1)(o:BS B S 0 0:=by omega)(v:B<=9223372036854775807:=by omega): ∀q,¬W y q:=by
 intro q hq;obtain⟨a1,a2⟩:=g hq;obtain⟨j,n,m,e⟩:=r;have hm:m=[]:=by rw[e]at hl;unfold J0 at hl;rw[J8q]at hl;exact List.length_eq_zero_iff.1 oo
 subst hm;rw[J52]at e;have ks:JcJ k y:=⟨(g h).1,a1,j,n,e⟩;rw[same ks h hq]at a2;exact a2 (hp.inP (B:=B) (S:=S) (J4l a1).2.1 hy)
theorem JM6{j:Int}{k y:J9}{p q:Int}(ks:JcJ k y)(h:Jt8 k j p)(g:Jt8 y j q):q=p:=by obtain⟨_,_,a,ha,e⟩:=h;obtain⟨_,_,b,hb,f⟩:=g;rw[JIC ks,ha]at hb;injection hb with hb;subst hb;rw[e,f]
theorem JPD{j:Int}{l:JI}{k y:J9}{p q:Int}(ks:JcJ k y)(h:Jsm k j l p)(g:Jsm y j l q):q=p:=by obtain⟨_,_,a,ha,e⟩:=h;obtain⟨_,_,b,hb,f⟩:=g;rw[JEs ks,ha]at hb;injection hb with hb;subst hb;rw[e,f]
theorem JbX{k:J9}(h:JL k=some true):J0 k.2.2.1.2.1<=4096:=(JgS (J4l h).1).2.2
open Classical in
noncomputable def left(W:J9->Int->Prop)(k:J9):Int:=2*(4097-J0 k.2.2.1.2.1)+if∃p,W k p then 1 else 0
open Classical in
theorem JFM{W:J9->Int->Prop}{k y:J9}(h:J0 y.2.2.1.2.1=J0 k.2.2.1.2.1+1)(hk: ¬∃p,W k p):left W y<left W k:=by have e1:(if∃p,W k p then(1:Int)else 0)=0:=if_neg hk;unfold left;rw[e1];split<;>omega
open Classical in
theorem Jo9{W:J9->Int->Prop}{k y:J9}{p:Int}(hk:W k p)(h:J0 k.2.2.1.2.1<=J0 y.2.2.1.2.1)(hy:J0 y.2.2.1.2.1=J0 k.2.2.1.2.1-> ∀q,¬W y q):left W y<left W k:=by
 have e1:(if∃p,W k p then(1:Int)else 0)=1:=if_pos ⟨p,hk⟩;unfold left;rw[e1];by_cases e:J0 y.2.2.1.2.1=J0 k.2.2.1.2.1
 ·have e2:(if∃p,W y p then(1:Int)else 0)=0:=if_neg fun⟨q,hq⟩=>hy e q hq;rw[e2];omega
 ·split<;>omega
open Classical in
theorem JhL{W:J9->Int->Prop}{k:J9}(h:J0 k.2.2.1.2.1<=4097):0<=left W k:=by unfold left;split<;>omega
theorem JQ4{y:J0L}(g:0<=B)(e:0<=S)(h:Ty.fit 0 0 JZ y):Ty.fit B S JZ y:=h.u
abbrev sZ:Jw:=((0,0,(0,[],0),(0,[],0),([],[]),[],[],[]),[],0,[],false,[])
theorem JrB{x1:J3z}(h:Ty.fit B S tq3 x1)(C:0<=B:=by omega)(x:0<=S:=by omega)(K:16384<=B:=by omega)(J:1073741824<=S:=by omega)(P:B<=1000000:=by omega)(O:S<=1000000000000:=by omega):Tot (J34 x1) λy=>Ty.fit B S tq3 y/\(y.2=0->J0 x1.1.1.2.2.1.2.1<=J0 y.1.1.2.2.1.2.1):=by
 obtain⟨s,k⟩:=x1;obtain⟨hs,o⟩:=h;dsimp only at hs o⊢;have z0:Ty.fit B S Jk sZ:=J0e C x Jk;unfold J34;dsimp only;refine .bind (J1c hs.1) λN h2=>.not (λ_=>.some ⟨⟨z0,fkn 15⟩,nofun⟩) λ_=>.bind (J2S (x1:=(s.1.2.2.2.2.2.1,k)) ⟨hs.1.2.2.2.2.2.1,o⟩) λL _=>.lt (λ_=>.some ⟨⟨z0,fkn 16⟩,nofun⟩) λ_=>Jb (τ:=Jw) (λq=>(k,q,sZ)) (λq=>Ty.fit B S Jk q/\J0 s.1.2.2.1.2.1<=J0 q.1.2.2.1.2.1) (λq=>left (JcQ k) q.1) ?_ s rfl ⟨hs,J0D _⟩;rintro q ⟨g1,g2⟩;unfold Jc5;dsimp only;refine .bind (JfU (x1:=(q,k)) ⟨g1,o⟩) λM _=>.ite (λ_=>?_) λ_=>.some ⟨⟨g1,fk0⟩,λ_=>g2⟩;refine .bind ((Jn5 (x1:=(q.1,k)) ⟨g1.1,o⟩).eqn) λn j=>.eq (λI=>.some ⟨⟨z0,j.1.1.g⟩,λc=>absurd c (JIn j.2 I)⟩) λA=>.eq (λc=>?_) λz=>?_
 ·have w:JcQ k q.1 n.2.2.2.1:=⟨n,j.2,c,rfl⟩;refine .bind ((J6E (x1:=(q,n.2.2.2.1)) ⟨g1,j.1.1.d.1⟩).eqn) λD r=>.ne (λF=>.some ⟨⟨z0,r.1.1.2⟩,λc=>absurd c F⟩) λv=>?_;obtain⟨E,H⟩:=J9a (B:=B) (S:=S) g1.1.2.2.2.1 r.2 v;have hl:=r.1.2 v;refine .some ⟨D.1,rfl,⟨r.1.1.1,Jde g2 hl⟩,Jo9 w hl λe=>JmX (B:=B) (S:=S) (JcQ k) (λh=>⟨h.want.1,h.want.2.1⟩) (λks h g=>JM6 ks h.want g.want) w E H r.1.1.1.1.d.1 e,JhL ?_⟩;have:=JbX w.want.1;omega
 ·have h1:n.2.1=1/\J0 n.1.2.2.1.2.1=J0 q.1.2.2.1.2.1+1:=by
   rcases j.1.2 with h|h|h
   ·exact h
   ·exact absurd h z
   ·exact absurd h A
  have G: ¬∃p,JcQ k q.1 p:=fun⟨p,y,e,c,_⟩=>by rw[j.2]at e;injection e with e;subst e;exact z c
  refine .some ⟨(n.1,q.2),rfl,⟨⟨j.1.1.1,g1.2⟩,?_⟩,JFM h1.2 G,JhL ?_⟩
  ·show J0 s.1.2.2.1.2.1<=J0 n.1.2.2.1.2.1;omega
  ·have:=JbX (JBT j.2 A);omega
end
section
variable {B S:Int}
open Classical in
theorem JHQ{x1:JI7}(h:Ty.fit B S (.pr Jk tq6) x1)(G:BH B S:=by omega)(K:B<=1000000:=by omega)(J:S<=1000000000000:=by omega):Tot (JcL x1) λy=>Ty.fit B S JHv y/\J0 x1.1.1.2.2.1.2.1<=J0 y.1.1.2.2.1.2.1:=by
 obtain⟨s,n,a⟩:=x1;obtain⟨hs,k,ha⟩:=h;unfold JcL;dsimp only at hs k ha⊢;refine Jb (τ:=Jw) (λq=>(n,q,a,((0,0,(0,[],0),(0,[],0),([],[]),[],[],[]),[],0,[],false,[]),0,0,0,(false,[]),0)) (λq=>Ty.fit B S Jk q/\J0 s.1.2.2.1.2.1<=J0 q.1.2.2.1.2.1) (λq=>if Jcj q.1.2.2.2.1 a.2.1 then 0 else 1) ?_ s rfl ⟨hs,J0D _⟩;rintro q ⟨g1,g2⟩;unfold JmW;dsimp only;refine .bind ((JIk (x1:=(q.1,n,a)) ⟨g1.1,k,ha⟩).eqn) λg h3=>?_;have hy:Ty.fit B S Jk (g.1,q.2):=⟨h3.1.1.1,g1.2⟩;have hl:J0 s.1.2.2.1.2.1<=J0 g.1.2.2.1.2.1:=Jde g2 h3.1.2;have fin: ∀{y:J0L},Ty.fit B S JZ y->Ty.fit B S JHv ((g.1,q.2),y)/\J0 s.1.2.2.1.2.1<=J0 ((g.1,q.2),y).1.1.2.2.1.2.1:=λhr=>⟨⟨hy,hr⟩,hl⟩;refine .eq (λc=>?_) λ_=>?_
 ·obtain⟨w1,w2,w3,F⟩:=JI0 h3.2 c;refine .bind ((J6E (x1:=((g.1,q.2),g.2.2.2.1)) ⟨hy,h3.1.1.d.1⟩).eqn) λE h4=>.ne (λ_=>.bind (J06 (B:=B) (S:=S) h4.1.1.2) λI h5=>.some (fin h5.1.u)) λA=>?_;obtain⟨H,v⟩:=J9a (B:=B) (S:=S) hy.1.2.2.2.1 h4.2 A;rw[F]at v;have v:Jcj E.1.1.2.2.2.1 a.2.1:=v;have C: ¬Jcj q.1.2.2.2.1 a.2.1:=λhp=>w2 (hp.inP (B:=B) (S:=S) (J4l w1).2.1 g1.1.2.2.2.1);refine .some ⟨E.1,rfl,⟨h4.1.1.1,Jde hl (h4.1.2 A)⟩,?_,?_⟩
  ·rw[if_pos v,if_neg C];decide
  ·rw[if_neg C];decide
 ·have rb:Tot ((J2R ((g.1,q.2),n)).bind λx=>if x=true then(J34 ((g.1,q.2),n)).bind λj=>if neI j.2 0=true then(Jx j.2).bind λw=>some (Sum.inr ((g.1,q.2),w))else some (Sum.inr (j.1,g.2))else some (Sum.inr ((g.1,q.2),g.2))) fun(r:(TQ28)⊕(TQ81))=> ∃y,r=.inr y/\Ty.fit B S JHv y/\J0 s.1.2.2.1.2.1<=J0 y.1.1.2.2.1.2.1:=by
   refine .bind (JfU (x1:=((g.1,q.2),n)) ⟨hy,k⟩) λx _=>.ite (λ_=>.bind (JrB (x1:=((g.1,q.2),n)) ⟨hy,k⟩) λj o=>.ne (λ_=>.bind (J06 (B:=B) (S:=S) o.1.2) λw z=>.some ⟨_,rfl,fin z.1.u⟩) λD=>.some ⟨_,rfl,⟨o.1.1,h3.1.1.2⟩,Jde hl (o.2 D)⟩) λ_=>.some ⟨_,rfl,fin h3.1.1.2⟩
  refine .eqf (λ_=>.eq (λ_=>.eqf (λ_=>.eq (λ_=>?_) λ_=>.some (fin h3.1.1.2)) λ_=>?_) λ_=>.some (fin h3.1.1.2)) λ_=>?_
  all_goals
   exact rb.mono λr ⟨y,e,h⟩=>by subst e;exact h
end
theorem JCM{B S:Int}{x1:JvR}(h:Ty.fit B S JLg x1)(r:BG B S:=by omega):Tot (J2z x1) λy=>Ty.fit B S tq4 y/\((y.2.1=1/\(J0 y.1.2.2.1.2.1=J0 x1.1.2.2.1.2.1+1\/y.2.2.1=0))\/y.2.1=3\/y.2.1=5):=by
 unfold J2z;refine .bind (J79 (B:=B) (S:=S) (⟨h.1,h.2.1⟩)) λA h1=>.ne (λq=>?_) λq=>?_
 ·refine .bind (J06 h1.2) λv h4=>.some ⟨(⟨h.1,h4.1.u⟩),om⟩
 ·have:=J2.1 h1.1.2.1;refine .ne (λk=>?_) λk=>?_
  ·refine .bind (J06 (B:=0) (S:=0) (fkn 15)) λx j=>.some ⟨(⟨h.1,j.1.u⟩),om⟩
  ·refine .bind (Jha (B:=B) (S:=S) (h)) λw n=>.not (λo=>?_) λo=>?_
   ·have:J0 x1.1.2.2.1.2.1<=B:=h.1.c.1.2.1.1;exact .some ⟨(⟨h.1,fkn 1,fk0,fk0,⟨trivial,Jd⟩,fk0⟩),om⟩
   ·refine .bind (Jdp (B:=B) (S:=S) (⟨h.1,h1.1.u,n.1.u⟩)) λg e=>?_;have:=J2.1 e.1.2.z.1;have:J0 g.1.2.2.1.2.1=_:=Jj e.1.1.c.1.2.1;have:J0 x1.1.2.2.1.2.1=_:=Jj h.1.c.1.2.1;have:(g.2.1=1/\J0 g.1.2.2.1.2.1=J0 x1.1.2.2.1.2.1+1)\/g.2.1=3\/g.2.1=5:=e.2;exact .some ⟨(⟨e.1.1,e.1.2.z.u⟩),om⟩
section
variable {B S:Int}
theorem JAY{x1:JGX}(h:Ty.fit B S (.pr Jk Jc) x1)(L:BH B S:=by omega)(P:B<=1000000:=by omega)(N:S<=1000000000000:=by omega):Tot (JaC x1) λy=>Ty.fit B S JGU y/\J0 x1.1.1.2.2.1.2.1<=J0 y.1.1.2.2.1.2.1/\(¬y.2.1=0->J0 x1.1.1.2.2.1.2.1+1<=J0 y.1.1.2.2.1.2.1/\J0 x1.1.1.2.2.1.2.1<=4096):=by
 obtain⟨s,o,l⟩:=x1;obtain⟨hs,v,hl⟩:=h;dsimp only at hs v hl⊢;unfold JaC;dsimp only;refine Jb (τ:=Int×Jw) (λq=>(o,q.1,q.2,l,sZ)) (λq=>Ty.fit B S Jk q.2/\0<=q.1/\q.1+J0 s.1.2.2.1.2.1<=J0 q.2.1.2.2.1.2.1/\(¬q.1=0->J0 s.1.2.2.1.2.1<=4096)) (λq=>left (JpB o l) q.2.1) ?_ (0,s) rfl ⟨hs,J0D _,by dsimp only;omega,λc=>absurd rfl c⟩;rintro⟨n,q⟩ ⟨g1,g2,K,A⟩;dsimp only at g1 g2 K A;unfold Jj6;dsimp only;have:=Jg n 1;have:J0 q.1.2.2.1.2.1<=B:=g1.1.2.2.1.2.1.1;have:=J3 (l:=s.1.2.2.1.2.1);have fn:Ty.fit B S (.i .i64) n:=by rw[J2];omega
 have fin: ∀{e:Int},Ty.fit B S (.i .i64) e->Ty.fit B S JGU (q,n,e)/\J0 s.1.2.2.1.2.1<=J0 ((q,n,e):JqL).1.1.2.2.1.2.1/\(¬((q,n,e):JqL).2.1=0->J0 s.1.2.2.1.2.1+1<=J0 ((q,n,e):JqL).1.1.2.2.1.2.1/\J0 s.1.2.2.1.2.1<=4096):=fun{e} he=>⟨⟨g1,fn,he⟩,by dsimp only;omega,λc=>by dsimp only at c⊢;have:=A c;omega⟩;refine .bind ((JCM (x1:=(q.1,o,l)) ⟨g1.1,v,hl⟩).eqn) λj k=>.eq (λO=>.some (fin k.1.1.g)) λF=>.eq (λc=>?_) λE=>.eq (λc=>.some (fin fk0)) λH=>?_
 ·have w:JpB o l q.1 j.2.2.2.1:=⟨j,k.2,c,rfl⟩;refine .bind ((J6E (x1:=(q,j.2.2.2.1)) ⟨g1,k.1.1.d.1⟩).eqn) λC r=>.ne (λM=>.some (fin r.1.1.2)) λD=>?_;obtain⟨G,J⟩:=J9a (B:=B) (S:=S) g1.1.2.2.2.1 r.2 D;have x:=r.1.2 D;dsimp only at x;refine .some ⟨(n,C.1),rfl,⟨r.1.1.1,g2,by show n+_<=J0 C.1.1.2.2.1.2.1;omega,A⟩,Jo9 w x λe=>JmX (B:=B) (S:=S) (JpB o l) (λh=>⟨h.want.1,h.want.2.1⟩) (λks h g=>JPD ks h.want g.want) w G J r.1.1.1.1.d.1 e,JhL ?_⟩;have:=JbX w.want.1;show J0 q.1.2.2.1.2.1<=4097;omega
 ·have h1:j.2.1=1/\J0 j.1.2.2.1.2.1=J0 q.1.2.2.1.2.1+1:=by
   rcases k.1.2 with⟨h,z|z⟩|h|h
   ·exact⟨h,z⟩
   ·exact absurd z H
   ·exact absurd h E
   ·exact absurd h F
  have I: ¬∃p,JpB o l q.1 p:=fun⟨p,y,e,c,_⟩=>by rw[k.2]at e;injection e with e;subst e;exact E c
  have hv:=JbX (JBN k.2 F);refine .some ⟨(J1 .i64 n 1,(j.1,q.2)),rfl,⟨⟨k.1.1.1,g1.2⟩,by show 0<=J1 .i64 n 1;omega,by show J1 .i64 n 1+_<=J0 j.1.2.2.1.2.1;omega,λ_=>by omega⟩,JFM h1.2 I,JhL (by show J0 q.1.2.2.1.2.1<=4097;omega)⟩
theorem JHf{x1:JI7}(h:Ty.fit B S (.pr Jk tq6) x1)(n:0<=B:=by omega)(k:0<=S:=by omega)(z:16384<=B:=by omega)(x:1073741824<=S:=by omega)(D:B<=1000000:=by omega)(C:S<=1000000000000:=by omega):Tot (Jd1 x1) λy=>Ty.fit B S JHv y:=by obtain⟨s,g,a⟩:=x1;obtain⟨hs,e,ha⟩:=h;dsimp only at hs e ha⊢;unfold Jd1;dsimp only;refine Jb (τ:=Jw) (λq=>(g,q,a,sZ,0,0,0,(false,[]),0)) (λq=>Ty.fit B S Jk q) (λq=>4097-J0 q.1.2.2.1.2.1) ?_ s rfl hs;rintro q g1;unfold Jna;dsimp only;refine .bind (JHQ (x1:=(q,g,a)) ⟨g1,e,ha⟩) λj h3=>.ne (λ_=>.some h3.1) λ_=>.bind (JsS (x1:=(j.1.1,g)) ⟨h3.1.1.1,e⟩) λo h4=>.not (λ_=>.some h3.1) λ_=>.bind (JAY (x1:=(j.1,o.1,o.2.1)) ⟨h3.1.1,h4.1,h4.2.1⟩) λr h5=>.ne (λ_=>.bind (J06 (B:=B) (S:=S) h5.1.c) λA v=>.some ⟨h5.1.1,JQ4 n k v.1⟩) λ_=>.eq (λ_=>.some ⟨h5.1.1,h3.1.2⟩) λc=>?_;obtain⟨e1,e2⟩:=h5.c c;have w:=h3.2;dsimp only at e1 e2 w;exact .some ⟨r.1,rfl,h5.1.1,oo,oo⟩
theorem JCF{x1:Jw}(h:Ty.fit B S Jk x1)(E:0<=B:=by omega)(D:0<=S:=by omega)(L:16384<=B:=by omega)(K:1073741824<=S:=by omega)(R:B<=1000000:=by omega)(P:S<=1000000000000:=by omega):Tot (Jas x1) λy=>Ty.fit B S (.pr Jk (.pr .b (.i .i64))) y:=by
 have z0:Ty.fit B S Jk sZ:=J0e E D Jk;unfold Jas;refine .bind (J1c h.1) λN _=>.not (λ_=>.some ⟨z0,trivial,fkn 15⟩) λ_=>.gt (λc=>?_) λ_=>?_
 ·exact .bind (Jh h.1.i (J0D _) c) λG h3=>.bind (J6E (x1:=(x1,G.1)) ⟨h,h3.1.1⟩) λO h4=>.some ⟨h4.1.1,trivial,h4.1.2⟩
 refine .bind (JAt h.1) λj h5=>.eq (λ_=>.some ⟨h,trivial,fk0⟩) λI=>?_;have o:=J3 (l:=j);have x:0<J0 j:=by omega
 have v:(0:Int).toNat<j.length:=by unfold J0 at x;omega
 have C:idx j 0=some j[(0:Int).toNat]:=by unfold idx;rw[if_pos (J0D _),JF v]
 have hx:=h5.2 _ (Jej v);generalize j[(0:Int).toNat]=n at C hx;refine Jb (τ:=Jw) (λq=>(j,q,sZ)) (λq=>Ty.fit B S Jk q) (λq=>left (JcQ n) q.1) ?_ x1 rfl h;rintro q g1;unfold Jhh;dsimp only;rw[C];show Tot ((J1f (q.1,n)).bind _) _;refine .bind ((Jn5 (x1:=(q.1,n)) ⟨g1.1,hx⟩).eqn) λz r=>.eq (λQ=>.some ⟨z0,trivial,r.1.1.g⟩) λI=>.ne (λ_=>.some ⟨⟨r.1.1.1,g1.2⟩,trivial,fk0⟩) λc=>?_;have w:JcQ n q.1 z.2.2.2.1:=⟨z,r.2,c,rfl⟩;refine .bind ((J6E (x1:=(q,z.2.2.2.1)) ⟨g1,r.1.1.d.1⟩).eqn) λF k=>.ne (λM=>.some ⟨z0,trivial,k.1.1.2⟩) λA=>?_;obtain⟨H,J⟩:=J9a (B:=B) (S:=S) g1.1.2.2.2.1 k.2 A;have hl:=k.1.2 A;refine .some ⟨F.1,rfl,k.1.1.1,Jo9 w hl λe=>JmX (B:=B) (S:=S) (JcQ n) (λh=>⟨h.want.1,h.want.2.1⟩) (λks h g=>JM6 ks h.want g.want) w H J k.1.1.1.1.d.1 e,JhL ?_⟩;have:=JbX w.want.1;show J0 q.1.2.2.1.2.1<=4097;omega
end
theorem JjI{B S:Int}{x1:TQ4}(h:Ty.fit B S (.pr J0R tq0) x1)(p0:J0 x1.2.2.2.2.2.2.2.2.2.2.2.2.2.2.2.2.2.2.2.2.1<=16000)(U:J0 x1.2.2.2.2.2.2.2.2.2.2.2.2.2.2.2.2.2.2.2.2.2<=16000)(O:BH B S:=by omega)(Y:B<=1000000:=by omega)(W:S<=1000000000000:=by omega):Tot (J4A x1) λy=>Ty.fit B S JHO y/\(J0 y.2.2.2.2.2.2.2.2.2.2.2.2.2.2.2.2.2.2.2.2.1<=J0 x1.2.2.2.2.2.2.2.2.2.2.2.2.2.2.2.2.2.2.2.2.1+1/\J0 y.2.2.2.2.2.2.2.2.2.2.2.2.2.2.2.2.2.2.2.2.2<=J0 x1.2.2.2.2.2.2.2.2.2.2.2.2.2.2.2.2.2.2.2.2.2+1):=by
 unfold J4A;have:J0 x1.2.2.2.2.2.2.2.2.2.2.2.2.2.2.2.2.2.2.2.2.1<=B:=h.k.k.c.1.1;have:=J3 (l:=x1.2.2.2.2.2.2.2.2.2.2.2.2.2.2.2.2.2.2.2.2.1);have:=J3 (l:=x1.2.2.2.2.2.2.2.2.2.2.2.2.2.2.2.2.2.2.2.2.2);have:J0 x1.2.2.2.2.2.2.2.2.2.2.2.2.2.2.2.2.2.2.2.2.2=_:=Jj h.k.k.d;have o:Ty.fit 16000 S (.l (.i .i64)) x1.2.2.2.2.2.2.2.2.2.2.2.2.2.2.2.2.2.2.2.2.1:=⟨(by omega:J0 x1.2.2.2.2.2.2.2.2.2.2.2.2.2.2.2.2.2.2.2.2.1<=16000),λx hx=>h.k.k.c.1.2 x hx⟩;have q:Ty.fit 16000 S (.l J0v) x1.2.2.2.2.2.2.2.2.2.2.2.2.2.2.2.2.2.2.2.2.2:=⟨(by omega:J0 x1.2.2.2.2.2.2.2.2.2.2.2.2.2.2.2.2.2.2.2.2.2<=16000),λx hx=>h.k.k.e x hx⟩;have:=J2.1 h.1.z.2.1;refine .ltf (λJ=>?_) λJ=>?_
 ·refine .gtf (λG=>?_) λG=>?_
  ·have:=J0H x1.1.2.1 1;refine .bind (J5G (l:=x1.2.2.2.2.2.2.2.2.2.2.2.2.2.2.2.2.2.2.2.2.1)) λ_ _=>.bind (JcI o) λQ L=>.eq (λC=>?_) λC=>?_
   ·refine .bind (J06 (B:=0) (S:=0) (fkn 16)) λV E=>.some ⟨(⟨E.1.u,h.2.1,h.c.1,h.d.1,h.e.1,h.g.1,h.h.1,h.i.1,h.j.1,h.k.1,h.k.2.1,h.k.c.1,h.k.d.1,h.k.e.1,h.k.g.1,h.k.h.1,h.k.i.1,trivial,h.k.k.1,trivial,o.u,q.u⟩),om⟩
   ·refine .bind (J5G (l:=x1.2.2.2.2.2.2.2.2.2.2.2.2.2.2.2.2.2.2.2.2.1)) λ_ _=>.bind (JcI o) λT v=>.bind (JHf (B:=B) (S:=S) (⟨⟨⟨h.2.1,h.c.1,⟨h.d.1,h.e.1,h.g.1⟩,⟨h.h.1,h.i.1,h.j.1⟩,⟨h.k.1,h.k.2.1⟩,h.k.c.1,h.k.d.1,h.k.e.1⟩,h.k.g.1,h.k.h.1,h.k.i.1,trivial,h.k.k.1⟩,v.1,h.1.z.2.2.2.2.2.u⟩)) λP n=>.eq (λI=>?_) λI=>?_
    ·exact .some ⟨(⟨n.2.z.u,h.2.1,h.c.1,h.d.1,h.e.1,h.g.1,h.h.1,h.i.1,h.j.1,h.k.1,h.k.2.1,h.k.c.1,h.k.d.1,h.k.e.1,h.k.g.1,h.k.h.1,h.k.i.1,trivial,h.k.k.1,trivial,o.u,q.u⟩),om⟩
    ·refine .eq (λH=>?_) λH=>?_
     ·have:=J2.1 h.1.z.2.2.2.2.2.1;refine .eq (λA=>?_) λA=>?_
      ·refine .bind (J7M n.1.1.c.1) λR D=>.bind (J0q (B:=16001) (Bl:=16000) (Bm:=1) (S:=S) (J0 x1.2.2.2.2.2.2.2.2.2.2.2.2.2.2.2.2.2.2.2.2.2) 1 q (J0f (B:=1) (S:=S) (t:=J0v) oo (⟨v.1,h.1.z.2.2.2.2.2.2.1,h.1.z.2.2.2.2.2.2.2.1,D,n.2.z.2.2.2.1.u⟩))) λK r=>?_;have:J0 K=_:=Jj r.1;exact .some ⟨(⟨n.2.z.u,n.1.1.1,n.1.1.2.1,n.1.1.c.1.1,n.1.1.c.1.2.1,n.1.1.c.1.c,n.1.1.d.1.1,n.1.1.d.1.2.1,n.1.1.d.1.c,n.1.1.e.1.1,n.1.1.e.1.2,n.1.1.g.1,n.1.1.h.1,n.1.1.i,n.1.2.1,n.1.c.1,n.1.d.1,trivial,n.1.g,trivial,o.u,r.1.u⟩),om⟩
      ·exact .some ⟨(⟨n.2.z.u,n.1.1.1,n.1.1.2.1,n.1.1.c.1.1,n.1.1.c.1.2.1,n.1.1.c.1.c,n.1.1.d.1.1,n.1.1.d.1.2.1,n.1.1.d.1.c,n.1.1.e.1.1,n.1.1.e.1.2,n.1.1.g.1,n.1.1.h.1,n.1.1.i,n.1.2.1,n.1.c.1,n.1.d.1,trivial,n.1.g,trivial,o.u,q.u⟩),om⟩
     ·exact .some ⟨(⟨n.2.z.u,n.1.1.1,n.1.1.2.1,n.1.1.c.1.1,n.1.1.c.1.2.1,n.1.1.c.1.c,n.1.1.d.1.1,n.1.1.d.1.2.1,n.1.1.d.1.c,n.1.1.e.1.1,n.1.1.e.1.2,n.1.1.g.1,n.1.1.h.1,n.1.1.i,n.1.2.1,n.1.c.1,n.1.d.1,trivial,n.1.g,trivial,o.u,q.u⟩),om⟩
  ·refine .bind (J06 (B:=0) (S:=0) (fkn 16)) λM F=>.some ⟨(⟨F.1.u,h.2.1,h.c.1,h.d.1,h.e.1,h.g.1,h.h.1,h.i.1,h.j.1,h.k.1,h.k.2.1,h.k.c.1,h.k.d.1,h.k.e.1,h.k.g.1,h.k.h.1,h.k.i.1,trivial,h.k.k.1,trivial,o.u,q.u⟩),om⟩
 ·refine .bind (J06 (B:=0) (S:=0) (fkn 16)) λN w=>.some ⟨(⟨w.1.u,h.2.1,h.c.1,h.d.1,h.e.1,h.g.1,h.h.1,h.i.1,h.j.1,h.k.1,h.k.2.1,h.k.c.1,h.k.d.1,h.k.e.1,h.k.g.1,h.k.h.1,h.k.i.1,trivial,h.k.k.1,trivial,o.u,q.u⟩),om⟩
theorem JkL{B S:Int}{x1:List UInt8}(h:Ty.fit B S .s x1)(v:BS B S 0 0:=by omega)(z:S<=4611686018427387887:=by omega):Tot (J6L x1) λy=>Ty.fit 0 (S+16) .s y:=by
 unfold J6L;have s0:Ty.fit 0 S .s x1:=h;have:J0 x1<=S:=s0;have:=J3 (l:=x1);refine .gt (λo=>?_) λo=>?_
 ·exact .some Jd
 ·refine .bind (JV (B:=0) (S:=0) (⟨Jd,J42 s0 oo,fkn 4⟩)) λg h4=>?_;have h5:Ty.fit 0 8 .s g:=h4.1.u;have:J0 g<=8:=h5;have:=J3 (l:=g);refine .bind (J6r) λn x=>?_;have e:Ty.fit 0 (S+8) .s n:=(by omega:J0 n<=(S+8));refine .bind (Jbz e) λw r=>.bind (JV (B:=0) (S:=(S+8)) (⟨e,Jex,fkn 4⟩)) λq j=>?_;have k:Ty.fit 0 (S+16) .s q:=j.1.u;exact .some k
theorem JmR{B S:Int}{x1:(List UInt8)×J2f}(h:Ty.fit B S (.pr .s JC) x1)(q:BS B S 0 0:=by omega)(r:S<=2305843009213693948:=by omega):Tot (J7J x1) λy=>Ty.fit 0 (2*S+8) .s y:=by
 unfold J7J;have s0:Ty.fit 0 S (.pr .s JC) x1:=h;refine .not (λn=>?_) λn=>?_
 ·refine .bind (JV (B:=0) (S:=S) (⟨s0.1,fkn 255,fkn 1⟩)) λv h2=>.some h2.1.u
 ·refine .bind (JV (B:=0) (S:=S) (⟨s0.1,J42 s0.2.2 oo,fkn 1⟩)) λj k=>?_;have:J0 j<=(S+8):=k.1;have:J0 x1.2.2<=S:=s0.2.2;refine .bind (J6r) λe o=>?_;have g:Ty.fit 0 (2*S+8) .s e:=(by omega:J0 e<=(2*S+8));exact .some g
theorem JuU{B S:Int}{x1:T_api_Entry}(h:Ty.fit B S J4 x1)(a6:BS B S 0 0:=by omega):Tot (J89 x1) λy=>Ty.fit 0 40992 Jc9 y:=by
 unfold J89;have s0:Ty.fit 0 S J4 x1:=h;refine .bind ((J2D (B:=0) (S:=S) (x1:=x1) s0).eqn) λy2 h1=>.not (λG=>?_) λG=>?_
 ·exact .some (⟨Jd,fkn 12⟩)
 ·have v3:=J2g (x:=x1) s0 h1.2 G;have:=J3 (l:=x1.2.2.2.2.2.2.2);have j:Ty.fit 0 8192 J4 x1:=v3.2;refine .bind (JV (B:=0) (S:=0) (⟨Jd,j.1,fkn 8⟩)) λZ r=>?_;have I:Ty.fit 0 8 .s Z:=r.1.u;refine .bind (JV (B:=0) (S:=8) (⟨I,j.2.1,fkn 1⟩)) λy4 K=>?_;have z:Ty.fit 0 16 .s y4:=K.1.u;refine .bind (JV (B:=0) (S:=16) (⟨z,j.c.1,fkn 4⟩)) λy5 H=>?_;have E:Ty.fit 0 24 .s y5:=H.1.u;refine .bind (JV (B:=0) (S:=24) (⟨E,j.d.1,fkn 8⟩)) λy6 O=>?_;have q:Ty.fit 0 32 .s y6:=O.1.u;refine .bind (JV (B:=0) (S:=32) (⟨q,j.e.1,fkn 8⟩)) λY L=>?_;have C:Ty.fit 0 40 .s Y:=L.1.u;refine .bind (JV (B:=0) (S:=40) (⟨C,j.g.1,fkn 8⟩)) λy8 T=>?_;have v:Ty.fit 0 48 .s y8:=T.1.u;refine .bind (JV (B:=0) (S:=48) (⟨v,j.h.1.1,fkn 4⟩)) λy9 Q=>?_;have P:Ty.fit 0 56 .s y9:=Q.1.u;refine .bind (JV (B:=0) (S:=56) (⟨P,j.h.1.2.1,fkn 1⟩)) λw U=>?_;have J:Ty.fit 0 64 .s w:=U.1.u;refine .bind (JmR (B:=0) (S:=8192) (⟨J.u,j.h.1.c.1⟩)) λW D=>?_;have o:Ty.fit 0 16392 .s W:=D.u;refine .bind (JmR (B:=0) (S:=16392) (⟨o,j.h.1.d.u⟩)) λM A=>?_;have R:Ty.fit 0 32792 .s M:=A.u;refine .bind (JV (B:=0) (S:=32792) (⟨R,J42 j.i oo,fkn 4⟩)) λk F=>?_;have V:Ty.fit 0 32800 .s k:=F.1.u;have:J0 k<=32800:=V;have:=J3 (l:=k);refine .bind (J6r) λn a5=>?_;have N:Ty.fit 0 40992 .s n:=(by omega:J0 n<=40992);exact .some (⟨N,fk0⟩)
theorem Jly{B S:Int}{x1:T_api_Entry}(h:Ty.fit B S J4 x1)(g:BS B S 0 0:=by omega):Tot (J6I x1) λy=>Ty.fit 0 41008 .s y:=by unfold J6I;refine .bind (JuU (B:=0) (S:=S) h.z) λj h1=>.bind (JkL h1.1) λe h2=>?_;have h3:Ty.fit 0 41008 .s e:=h2.u;exact .some h3
theorem JDP{B S x1:Int}(h:Ty.fit B S (.i .i64) x1)(n:BS B S 0 0:=by omega):Tot (Ja3 x1) λy=>Ty.fit 0 28 .s y:=by unfold Ja3;refine .bind (JV (B:=0) (S:=4) (⟨JOm 4 rfl oo,h,fkn 8⟩)) λk h1=>?_;have h2:Ty.fit 0 12 .s k:=h1.1.u;refine .bind (JkL h2) λg e=>?_;have j:Ty.fit 0 28 .s g:=e.u;exact .some j
theorem J8Z{B S:Int}{x1:J73}(h:Ty.fit B S tq8 x1)(a1:BC B S 0 0:=by omega):Tot (J4n x1) λy=>Ty.fit 0 335937564 .s y:=by
 unfold J4n;refine .bind ((J2j h.1).eqn) λy2 h1=>.not (λK=>?_) λK=>?_
 ·exact .some Jd
 ·have v3:=J1V h.1 h1.2 K;have:=J3 (l:=x1.1.2.1);have:J0 x1.1.2.1=_:=Jj h.1.2.1;have k:Ty.fit 4096 8192 JR x1.1:=v3.2;refine .bind (JDP k.1) λv A=>?_;have:J0 v<=28:=A;have:=J3 (l:=v);refine Jb (τ:=(List UInt8)×(List UInt8)×Int) (λq=>(x1.2,q.1,q.2.1,q.2.2,x1.1)) (λq=>(Ty.fit 0 0 (.i .i64) q.2.2/\0<=q.2.2/\(q.2.2<=J0 x1.1.2.1\/q.2.2<=0))/\(Ty.fit 0 167968796 .s q.1/\J0 q.1<=41008*q.2.2+J0 v)/\(Ty.fit 0 167968768 .s q.2.1/\J0 q.2.1<=41008*q.2.2+0)) (λq=>J0 x1.1.2.1-q.2.2) ?_ (v,[],0) rfl ?_
  ·rintro⟨g,e,j⟩ D;dsimp only at D;obtain⟨⟨M,Y,V⟩,⟨r,a0⟩,n,U⟩:=D;unfold JeS
   try dsimp only
   have:=J2.1 M;refine .lt (λN=>?_) λN=>?_
   ·refine .bind (Jh k.2.1) λy5 a3=>.le (λO=>?_) λO=>?_
    ·refine .bind (Jh k.2.1) λy6 Q=>.bind (Jly (B:=0) (S:=8192) Q.1.z) λF H=>?_;have:J0 g<=167968796:=r;have:=J3 (l:=g);have:J0 F<=41008:=H;have:=J3 (l:=F);refine .bind (J6r) λE W=>?_;have J:Ty.fit 0 167968796 .s E:=(by omega:J0 E<=167968796);have:=Jg j 1;exact .some ⟨(E,e,J1 .i64 j 1),rfl,⟨⟨J5,om,om⟩,⟨J,om⟩,n,om⟩,om,om⟩
    ·refine .bind (Jh k.2.1) λy9 G=>.bind (Jly (B:=0) (S:=8192) G.1.z) λw P=>?_;have:J0 e<=167968768:=n;have:=J3 (l:=e);have:J0 w<=41008:=P;have:=J3 (l:=w);refine .bind (J6r) λo Z=>?_;have L:Ty.fit 0 167968768 .s o:=(by omega:J0 o<=167968768);have:=Jg j 1;exact .some ⟨(g,o,J1 .i64 j 1),rfl,⟨⟨J5,om,om⟩,⟨r,om⟩,L,om⟩,om,om⟩
   ·refine .inr ?_;have:=Jhw x1.2 0;have:J0 e<=167968768:=n;have:=J3 (l:=e);have:=JG9 (J1P x1.2 0) (J0 e);refine .bind (Jdq n) λC R=>?_;have T:Ty.fit 0 167968768 .s C:=R.1;have:J0 g<=167968796:=r;have:=J3 (l:=g);have:=J3 (l:=C);refine .bind (J6r) λx a2=>?_;have I:Ty.fit 0 335937564 .s x:=(by omega:J0 x<=335937564);exact .some I
  ·have:J0 ([]:List UInt8)=0:=rfl
   try dsimp only
   exact⟨⟨fk0,oo,oo⟩,⟨A.u,oo⟩,Jd,oo⟩
theorem Jym{B S:Int}{x1:JGX}(h:Ty.fit B S (.pr Jk Jc) x1)(G:BG B S:=by omega):Tot (J99 x1) λy=>Ty.fit B S (.pr JT .s) y:=by
 unfold J99;refine .bind ((J4V (B:=B) (S:=S) (x1:=(x1.1.1.2.2.2.1,x1.2.2.1)) (⟨h.1.1.d.1,h.c.1⟩)).eqn) λx h1=>?_;have:J0 x1.1.1.2.2.2.1.2.1=_:=Jj h.1.1.d.1.2.1;have: -1<=x/\x<J0 x1.1.1.2.2.2.1.2.1:=h1.1.2;refine .ge (λC=>?_) λC=>?_
 ·refine .bind (Jh h.1.1.d.1.2.1) λI M=>.ite (λA=>?_) λA=>?_
  ·refine .bind (Jh h.1.1.d.1.2.1) λO j=>.bind (Jbh (B:=0) (S:=S) j.1.z.1) λK o=>.bind (Jh h.1.1.d.1.2.1) λL k=>.bind (J98 (B:=B) (S:=S) (⟨h.1.1,k.1.z.1.2.1⟩)) λH e=>.bind (JCT (B:=B) (S:=S) (⟨h.1.2,h.c.1,o.1.u,h.d⟩)) λJ q=>.eq (λr=>?_) λr=>?_
   ·refine .bind (J8Z (B:=B) (S:=S) (⟨e.1.c.1,h.2.1⟩)) λN v=>.some (⟨q.1.u,v.u⟩)
   ·refine .bind (J8Z (B:=B) (S:=S) (⟨e.1.c.1,h.2.1⟩)) λD g=>.some (⟨h.1.2,g.u⟩)
  ·refine .bind (J8Z (B:=B) (S:=S) (⟨h.1.1.c.1,h.2.1⟩)) λF w=>.some (⟨h.1.2,w.u⟩)
 ·refine .bind (J8Z (B:=B) (S:=S) (⟨h.1.1.c.1,h.2.1⟩)) λE n=>.some (⟨h.1.2,n.u⟩)
theorem JfC{B S:Int}{x1:J3S}(h:Ty.fit B S Jc9 x1)(G:BS B S 0 0:=by omega)(J:S<=9223372036854775807:=by omega):Tot (J5H x1) λy=>Ty.fit 0 S JA y/\(y.2.2=0->0<=y.2.1/\y.2.1<=J0 x1.1/\J0 y.1<=8392):=by
 unfold J5H;have s0:Ty.fit 0 S Jc9 x1:=h;have:=J2.1 s0.2;refine .ltf (λA=>?_) λA=>?_
 ·have:J0 x1.1<=S:=s0.1;have:=J3 (l:=x1.1);refine .gt (λC=>?_) λC=>?_
  ·exact .some ⟨(⟨Jd,fk0,fkn 1⟩),om⟩
  ·refine .bind ((J19 (B:=0) (S:=S) (x1:=(x1.1,x1.2,4)) (⟨s0.1,s0.2,fkn 4⟩)).eqn) λe z=>.ne (λn=>?_) λn=>?_
   ·exact .some ⟨(⟨Jd,fk0,fkn 5⟩),om⟩
   ·have v9:=J6R (x:=(x1.1,x1.2,4)) (⟨s0.1,s0.2,fkn 4⟩) z.2 n;have:=J2.1 z.1.1;have:1<=(4:Int)/\(4:Int)<=8/\0<=x1.2/\x1.2<=J0 x1.1/\(4:Int)<=J0 x1.1-x1.2/\((4:Int)<=4->0<=e.1/\e.1<=4294967295)/\((4:Int)=1->e.1<=255)/\((4:Int)=2->e.1<=65535):=v9.1;refine .gt (λg=>?_) λg=>?_
    ·exact .some ⟨(⟨Jd,fk0,fkn 2⟩),om⟩
    ·have:=J0H (J0 x1.1) x1.2;have:=Jg e.1 8;refine .lt (λr=>?_) λr=>?_
     ·exact .some ⟨(⟨Jd,fk0,fkn 5⟩),om⟩
     ·refine .bind ((J19 (B:=0) (S:=S) (x1:=(x1.1,J1 .i64 (J1 .i64 x1.2 4) e.1,4)) (⟨s0.1,J5,fkn 4⟩)).eqn) λH F=>?_;have:=Jg x1.2 4;have:=Jg (J1 .i64 x1.2 4) e.1;refine .bind (Jdy s0.1) λD k=>?_;have o:Ty.fit 0 S .s D:=k.1;refine .bind (Jbz o) λI E=>.ne (λv=>?_) λv=>?_
      ·exact .some ⟨(⟨Jd,fk0,fkn 3⟩),om⟩
      ·refine .bind (Jdy s0.1) λq j=>?_;have w:Ty.fit 0 S .s q:=j.1;have:=Jg x1.2 8;have:=Jg (J1 .i64 x1.2 8) e.1;have:=J3 (l:=q);exact .some ⟨(⟨w,J5,fk0⟩),om⟩
 ·have:J0 x1.1<=S:=s0.1;exact .some ⟨(⟨Jd,fk0,fkn 1⟩),om⟩
theorem Ja0{B S:Int}{x1:JCD}(h:Ty.fit B S JDf x1)(p0:0<=x1.2.2.1)(r:x1.2.2.1<=J0 x1.2.1)(w:0<=x1.1)(q:x1.1<=4294967295)(o:BS B S 0 0:=by omega)(v:S<=9223372036854775807:=by omega):Tot (J3k x1) λy=>Ty.fit 0 S (.pr .s JA) y/\(0<=y.2.2.1/\y.2.2.1<=J0 y.2.1):=by
 unfold J3k;have s0:Ty.fit 0 S JDf x1:=h;have:=J2.1 s0.2.2.1;have:J0 x1.2.1<=S:=s0.2.1;have:=J3 (l:=x1.2.1);refine .ne (λk=>?_) λk=>?_
 ·exact .some ⟨(⟨Jd,s0.2⟩),om⟩
 ·have:=J0H (J0 x1.2.1) x1.2.2.1;refine .gt (λj=>?_) λj=>?_
  ·exact .some ⟨(⟨Jd,s0.2.1,s0.2.2.1,fkn 5⟩),om⟩
  ·have:=Jg x1.2.2.1 x1.1;have:=J0H (J1 .i64 x1.2.2.1 x1.1) x1.1;refine .bind (Jdy s0.2.1) λn g=>?_;have e:Ty.fit 0 S .s n:=g.1;exact .some ⟨(⟨e,s0.2.1,J5,s0.2.2.2⟩),om⟩
theorem J12{B S:Int}{x1:JCD}(h:Ty.fit B S JDf x1)(p0:0<=x1.2.2.1)(q:x1.2.2.1<=J0 x1.2.1)(o:BS B S 0 0:=by omega)(r:S<=9223372036854775807:=by omega):Tot (J0y x1) λy=>Ty.fit 0 S JDf y/\(0<=y.2.2.1/\y.2.2.1<=J0 y.2.1/\(x1.1<=4->0<=y.1/\y.1<=4294967295)/\(x1.1=1->y.1<=255)):=by
 unfold J0y;have s0:Ty.fit 0 S JDf x1:=h;have:=J2.1 s0.2.2.1;have:J0 x1.2.1<=S:=s0.2.1;refine .ne (λn=>?_) λn=>?_
 ·have:=J2.1 s0.1;exact .some ⟨(⟨fk0,s0.2⟩),om⟩
 ·refine .bind ((J19 (B:=0) (S:=S) (x1:=(x1.2.1,x1.2.2.1,x1.1)) (⟨s0.2.1,s0.2.2.1,s0.1⟩)).eqn) λg e=>.ne (λk=>?_) λk=>?_
  ·have:=J2.1 s0.1;exact .some ⟨(⟨fk0,s0.2.1,s0.2.2.1,e.1.2⟩),om⟩
  ·have j:=J6R (x:=(x1.2.1,x1.2.2.1,x1.1)) (⟨s0.2.1,s0.2.2.1,s0.1⟩) e.2 k;have:=J2.1 s0.1;have:=J2.1 e.1.1;have:1<=x1.1/\x1.1<=8/\0<=x1.2.2.1/\x1.2.2.1<=J0 x1.2.1/\x1.1<=J0 x1.2.1-x1.2.2.1/\(x1.1<=4->0<=g.1/\g.1<=4294967295)/\(x1.1=1->g.1<=255)/\(x1.1=2->g.1<=65535):=j.1;have:=Jg x1.2.2.1 x1.1;exact .some ⟨(⟨e.1.1,s0.2.1,J5,s0.2.2.2⟩),om⟩
theorem JaT{B S:Int}{x1:J0C}(h:Ty.fit B S JA x1)(p0:0<=x1.2.1)(v:x1.2.1<=J0 x1.1)(r:BS B S 0 0:=by omega)(w:S<=9223372036854775807:=by omega):Tot (J3E x1) λy=>Ty.fit 0 S (.pr JC JA) y/\(0<=y.2.2.1/\y.2.2.1<=J0 y.2.1):=by
 unfold J3E;refine .bind (J12 (B:=0) (S:=S) (⟨fkn 1,h.z⟩) om om) λj h4=>?_;have:=J2.1 h4.1.c.1;have:=J2.1 h4.1.1;have:0<=j.2.2.1/\j.2.2.1<=J0 j.2.1/\0<=j.1/\j.1<=255:=⟨h4.2.1,h4.c.1,(h4.d.1 (show(1:Int)<=4 by decide)).1,h4.e rfl⟩;refine .nef (λo=>?_) λo=>?_
 ·refine .eq (λn=>?_) λn=>?_
  ·exact .some ⟨(⟨⟨trivial,Jd⟩,h4.1.2⟩),om⟩
  ·refine .gt (λq=>?_) λq=>?_
   ·exact .some ⟨(⟨⟨trivial,Jd⟩,h4.1.2.1,h4.1.c.1,fkn 4⟩),om⟩
   ·refine .bind (Ja0 (B:=0) (S:=S) (h4.1) om om om om) λk g=>?_;have:0<=k.2.2.1/\k.2.2.1<=J0 k.2.1:=g.2;exact .some ⟨(⟨⟨trivial,g.1.1⟩,g.1.2⟩),om⟩
 ·exact .some ⟨(⟨⟨trivial,Jd⟩,h4.1.2⟩),om⟩
theorem JuZ{B S:Int}{x1:List UInt8}(h:Ty.fit B S .s x1)(W:BS B S 0 0:=by omega)(Y:S<=9223372036854775807:=by omega):Tot (J88 x1) λy=>Ty.fit 0 8192 JNN y:=by
 unfold J88;have:=J3 (l:=x1);refine .bind (J12 (B:=0) (S:=S) (⟨fkn 8,h.z,fzr⟩) om om) λO h1=>?_;have:=J2.1 h1.1.c.1;refine .bind (J12 (B:=0) (S:=S) (⟨fkn 1,h1.1.2⟩) om om) λI F=>?_;have:=J2.1 F.1.c.1;refine .bind (J12 (B:=0) (S:=S) (⟨fkn 4,F.1.2⟩) om om) λN k=>?_;have:=J2.1 k.1.c.1;refine .bind (J12 (B:=0) (S:=S) (⟨fkn 8,k.1.2⟩) om om) λK q=>?_;have:=J2.1 q.1.c.1;refine .bind (J12 (B:=0) (S:=S) (⟨fkn 8,q.1.2⟩) om om) λL n=>?_;have:=J2.1 n.1.c.1;refine .bind (J12 (B:=0) (S:=S) (⟨fkn 8,n.1.2⟩) om om) λH o=>?_;have:=J2.1 o.1.c.1;refine .bind (J12 (B:=0) (S:=S) (⟨fkn 4,o.1.2⟩) om om) λJ j=>?_;have:=J2.1 j.1.c.1;refine .bind (J12 (B:=0) (S:=S) (⟨fkn 1,j.1.2⟩) om om) λM v=>?_;have:=J2.1 v.1.c.1;refine .bind (JaT v.1.2 om om) λA r=>?_;have:=J2.1 r.1.c.1;refine .bind (JaT r.1.2 om om) λE w=>?_;have:=J2.1 w.1.c.1;refine .bind (J12 (B:=0) (S:=S) (⟨fkn 4,w.1.2⟩) om om) λg e=>?_;have:=J2.1 e.1.c.1;have:=J2.1 e.1.1;have:0<=g.2.2.1/\g.2.2.1<=J0 g.2.1/\0<=g.1/\g.1<=4294967295:=⟨e.2.1,e.c.1,e.d.1 (show(4:Int)<=4 by decide)⟩;refine .bind (Ja0 (B:=0) (S:=S) (e.1) om om om om) λC D=>.ne (λP=>?_) λP=>?_
 ·exact .some (⟨⟨fk0,fk0,fk0,fk0,fk0,fk0,⟨fk0,fk0,⟨trivial,Jd⟩,trivial,Jd⟩,Jd⟩,D.1.d⟩)
 ·refine .ne (λT=>?_) λT=>?_
  ·exact .some (⟨⟨fk0,fk0,fk0,fk0,fk0,fk0,⟨fk0,fk0,⟨trivial,Jd⟩,trivial,Jd⟩,Jd⟩,fkn 4⟩)
  ·refine .bind ((J2D (B:=0) (S:=S) (x1:=(O.1,I.1,N.1,K.1,L.1,H.1,(J.1,M.1,A.1,E.1),C.1)) (⟨h1.1.1,F.1.1,k.1.1,q.1.1,n.1.1,o.1.1,⟨j.1.1,v.1.1,r.1.1,w.1.1⟩,D.1.1⟩)).eqn) λV R=>.not (λG=>?_) λG=>?_
   ·exact .some (⟨⟨fk0,fk0,fk0,fk0,fk0,fk0,⟨fk0,fk0,⟨trivial,Jd⟩,trivial,Jd⟩,Jd⟩,fkn 12⟩)
   ·have U:=J2g (x:=(O.1,I.1,N.1,K.1,L.1,H.1,(J.1,M.1,A.1,E.1),C.1)) (⟨h1.1.1,F.1.1,k.1.1,q.1.1,n.1.1,o.1.1,⟨j.1.1,v.1.1,r.1.1,w.1.1⟩,D.1.1⟩) R.2 G;have Q:Ty.fit 0 8192 J4 (O.1,I.1,N.1,K.1,L.1,H.1,(J.1,M.1,A.1,E.1),C.1):=U.2;exact .some (⟨Q,fk0⟩)
theorem JzY{B S:Int}{x1:List UInt8}(h:Ty.fit B S .s x1)(U:BS B S 0 0:=by omega)(Y:S<=9223372036854775807:=by omega):Tot (JaF x1) λy=>Ty.fit 4096 8192 tq8 y:=by
 unfold JaF;have s0:Ty.fit 0 S .s x1:=h;refine .bind (JfC (B:=0) (S:=S) (⟨s0,fk0⟩)) λo h1=>?_;have:=J2.1 h1.1.2.1;have:o.2.2=0->0<=o.2.1/\o.2.1<=J0 x1/\J0 o.1<=8392:=h1.2;refine .nef (λO=>?_) λO=>?_
 ·refine .nef (λG=>?_) λG=>?_
  ·refine .bind (Jdq h1.1.1) λW T=>.ite (λF=>?_) λF=>?_
   ·exact .some (⟨fzr,fkn 4⟩)
   ·refine .bind ((J19 (B:=0) (S:=S) (x1:=(o.1,4,8)) (⟨h1.1.1,fkn 4,fkn 8⟩)).eqn) λH j=>.ltf (λM=>?_) λM=>?_
    ·refine .gt (λL=>?_) λL=>?_
     ·exact .some (⟨fzr,fkn 4⟩)
     ·refine Jb (τ:=Int×(List T_api_Entry)×Int) (λq=>(x1,q.1,[],0,0,q.2.1,[],H.1,q.2.2)) (λq=>Ty.fit 0 0 (.i .i64) q.1/\Ty.fit 4096 8192 (.l J4) q.2.1/\Ty.fit 0 0 (.i .i64) q.2.2/\(J0 q.2.1<=4096)/\(0<=q.1)/\(q.1<=J0 x1)) (λq=>4096-J0 q.2.1) ?_ (o.2.1,[],JG .i64 H.1 1) rfl ?_
      ·rintro⟨Q,g,P⟩ z;dsimp only at z;obtain⟨K,e,n,z22,R,V⟩:=z;unfold Jh1
       try dsimp only
       have:=J3 (l:=g);have:J0 g=_:=Jj e;refine .lt (λC=>?_) λC=>?_
       ·refine .bind (JfC (B:=0) (S:=S) (⟨s0,K⟩)) λr k=>?_;have:=J2.1 k.1.2.1;have:r.2.2=0->0<=r.2.1/\r.2.1<=J0 x1/\J0 r.1<=8392:=k.2;refine .ne (λD=>?_) λD=>?_
        ·exact .some (⟨⟨j.1.1,e,n⟩,fk0⟩)
        ·refine .bind (JuZ k.1.1) λN v=>.nef (λJ=>?_) λJ=>?_
         ·have:=J2.1 v.1.1;refine .ne (λE=>?_) λE=>?_
          ·exact .some (⟨⟨j.1.1,e,n⟩,fk0⟩)
          ·refine .bind (J0q (B:=4097) (Bl:=4096) (Bm:=1) (S:=8192) (J0 g) 1 e (J0f (B:=1) (S:=8192) (t:=J4) oo v.1.u)) λw A=>?_;have:J0 w=_:=Jj A.1;have I:Ty.fit 4096 8192 (.l J4) w:=⟨(by omega:J0 w<=4096),λx hx=>A.1.2 x hx⟩;exact .some ⟨(r.2.1,w,N.1.1),rfl,⟨k.1.2.1,I,v.1.1,om,om,om⟩,om,om⟩
         ·exact .some (⟨⟨j.1.1,e,n⟩,fk0⟩)
       ·exact .some (⟨⟨j.1.1,e,n⟩,fk0⟩)
      ·try dsimp only
       exact⟨h1.1.2.1,Ja,J22,om,om,om⟩
    ·exact .some (⟨fzr,fkn 4⟩)
  ·exact .some (⟨fzr,fkn 4⟩)
 ·exact .some (⟨fzr,fkn 4⟩)
theorem JDI{B S:Int}{x1:JuB}(h:Ty.fit B S JJY x1)(j:BS B S 0 0:=by omega):Tot (Jax x1) λy=>Ty.fit 0 0 .b y:=by
 unfold Jax;refine .ne (λg=>?_) λg=>?_
 ·exact .some trivial
 ·have:=J2.1 h.1.2.1.2;refine .ne (λe=>?_) λe=>?_
  ·exact .some trivial
  ·exact .some trivial
theorem JA9{B S:Int}{x1:JIo}(h:Ty.fit B S (.pr (.l J8) J8) x1)(ac:BS B S 0 0:=by omega)(hB:B<=17179869183:=by omega):Tot (Jat x1) λy=>Ty.fit (2*B+1) S (.l J8) y/\(J0 y<=J0 x1.1+1):=by
 unfold Jat;have:J0 x1.1<=B:=h.1.1;have:=J3 (l:=x1.1);have:J0 x1.1=_:=Jj h.1;refine Jb (τ:=Int) (λq=>(x1.1,q,x1.2)) (λq=>(Ty.fit 0 0 (.i .i64) q/\0<=q/\(q<=J0 x1.1\/q<=0))) (λq=>J0 x1.1-q) ?_ 0 rfl ?_
 ·rintro n ⟨i4,w5,z6⟩;unfold Ji1
  try dsimp only
  have:=J2.1 i4;refine .lt (λc7=>?_) λc7=>?_
  ·refine .bind (Jh h.1) λy3 O=>.bind (JDI (B:=0) (S:=0) (⟨O.1,h.2⟩)) λy4 a5=>.ite (λM=>?_) λM=>?_
   ·have:=Jg n 1;exact .some ⟨J1 .i64 n 1,rfl,⟨J5,om,om⟩,om,om⟩
   ·refine .inr ?_;refine .lt (λa2=>?_) λa2=>?_
    ·refine .bind (Jh h.1) λy5 a6=>.ite (λE=>?_) λE=>?_
     ·have aa:=J1A.1 E;exact .some ⟨h.1.u,om⟩
     ·refine .bind (J5M h.1) λG e=>.clo e.1 oo (by decide) ?_;have:J0 G<=B:=e.1.1;have:J0 G=_:=Jj e.1;refine .bind (J0q (B:=(B+1)) (Bl:=B) (Bm:=1) (S:=S) (J0 G) 1 e.1 ((J0f (B:=1) (S:=0) (t:=J8) oo h.2).u)) λR F=>.bind (J3i h.1) λH k=>?_;have:J0 R=_:=Jj F.1;have:J0 H<=B:=k.1.1;have:J0 H=_:=Jj k.1;refine .bind (J0q (B:=(2*B+1)) (Bl:=(B+1)) (Bm:=B) (S:=S) (J0 R) (J0 H) F.1 k.1) λK v=>?_;have:J0 K=_:=Jj v.1;exact .some ⟨v.1,om⟩
    ·refine .bind (J5M h.1) λZ A=>.clo A.1 oo (by decide) ?_;refine .bind (J0q (B:=(B+1)) (Bl:=B) (Bm:=1) (S:=S) (J0 Z) 1 A.1 ((J0f (B:=1) (S:=0) (t:=J8) oo h.2).u)) λL a1=>.bind (J3i h.1) λW Y=>.bind (J0q (B:=(2*B+1)) (Bl:=(B+1)) (Bm:=B) (S:=S) (J0 L) (J0 W) a1.1 Y.1) λa8 V=>.some ⟨V.1,om⟩
  ·refine .inr ?_;refine .lt (λN=>?_) λN=>?_
   ·refine .bind (Jh h.1) λab a9=>.ite (λz=>?_) λz=>?_
    ·have ad:=J1A.1 z;exact .some ⟨h.1.u,om⟩
    ·refine .bind (J5M h.1) λQ C=>.clo C.1 oo (by decide) ?_;refine .bind (J0q (B:=(B+1)) (Bl:=B) (Bm:=1) (S:=S) (J0 Q) 1 C.1 ((J0f (B:=1) (S:=0) (t:=J8) oo h.2).u)) λU a0=>.bind (J3i h.1) λT I=>.bind (J0q (B:=(2*B+1)) (Bl:=(B+1)) (Bm:=B) (S:=S) (J0 U) (J0 T) a0.1 I.1) λa7 J=>.some ⟨J.1,om⟩
   ·refine .bind (J5M h.1) λo g=>.clo g.1 oo (by decide) ?_;have:J0 o<=B:=g.1.1;have:J0 o=_:=Jj g.1;refine .bind (J0q (B:=(B+1)) (Bl:=B) (Bm:=1) (S:=S) (J0 o) 1 g.1 ((J0f (B:=1) (S:=0) (t:=J8) oo h.2).u)) λr D=>.bind (J3i h.1) λj x=>?_;have:J0 r=_:=Jj D.1;have:=J3 (l:=j);have:J0 j=_:=Jj x.1;refine .bind (J0q (B:=(2*B+1)) (Bl:=(B+1)) (Bm:=B) (S:=S) (J0 r) (J0 j) D.1 x.1) λP w=>?_;have:J0 P=_:=Jj w.1;exact .some ⟨w.1,om⟩
 ·try dsimp only
  exact⟨fk0,oo,oo⟩
section
variable {B S:Int}
theorem JyE{x1:J07×List Ju}(h:Ty.fit B S (.pr JR (.l Jl)) x1)(J:BH B S:=by omega)(C:B<=20000:=by omega):Tot (J8S x1) λy=>Ty.fit 400000001 0 (.pr (.l J8) (.i .i64)) y:=by
 obtain⟨l,e⟩:=x1;obtain⟨hl,v⟩:=h;unfold J8S;dsimp only;have:J0 e<=20000:=Jde v.1 C;have E:=J3 (l:=e);refine Jb (τ:=JsZ) (λq=>(e,q.1,q.2,l)) (λq=>0<=q.2/\q.2<=J0 e/\Ty.fit 400000001 0 (.l J8) q.1/\J0 q.1<=20000*q.2) (λq=>J0 e-q.2) ?_ ([],0) rfl ⟨J0D _,E,Ja,by show(0:Int)<=20000*0;omega⟩;rintro⟨out,i⟩ ⟨r,h1,h2,h3⟩;dsimp only at r h1 h2 h3;unfold Jgs;dsimp only;have a1:=Jg i 1;refine .lt (λc=>?_) λc=>.some ⟨h2,fk0⟩;have n:i.toNat<e.length:=by unfold J0 at c;omega
 have x:idx e i=some e[i.toNat]:=by unfold idx;rw[if_pos r,JF n]
 have hx:=v.2 _ (Jej n);generalize e[i.toNat]=t at x hx;have:J0 t.2.2.2.2.1<=20000:=Jde hx.2.2.2.2.1.1 C;refine Jb (τ:=JsZ) (λq=>(e,q.1,i,q.2,l)) (λq=>0<=q.2/\q.2<=J0 t.2.2.2.2.1/\Ty.fit 400000001 0 (.l J8) q.1/\J0 q.1<=20000*i+q.2) (λq=>J0 t.2.2.2.2.1-q.2) ?_ (out,0) rfl ⟨J0D _,J3,h2,by show J0 out<=20000*i+0;omega⟩;rintro⟨out,k⟩ ⟨w,g1,g2,H⟩;dsimp only at w g1 g2 H;unfold JeK;dsimp only;rw[x];have a2:=Jg k 1;show Tot (if ltI k (J0 t.2.2.2.2.1)=true then _ else _) _;refine .lt (λz=>?_) λz=>.some ⟨(out,J1 .i64 i 1),rfl,⟨by show 0<=J1 .i64 i 1;omega,by show J1 .i64 i 1<=J0 e;omega,g2,by show J0 out<=20000*J1 .i64 i 1;omega⟩,by show J0 e-J1 .i64 i 1<J0 e-i;omega,oo⟩;show Tot ((idx t.2.2.2.2.1 k).bind _) _;refine .bind (Jh hx.2.2.2.2.1 w z) λF G=>.bind (J3T (x1:=(l,F)) ⟨hl,G.1⟩) λg o=>.ne (λ_=>.inr (.some ⟨Ja,fkn 14⟩)) λ_=>.nef (λ_=>?_) λ_=>.inr (.some ⟨Ja,fkn 13⟩);show Tot (if neI g.1.2.2.1 t.1=true then _ else _) _;refine .ne (λ_=>.inr (.some ⟨Ja,fkn 13⟩)) λ_=>?_;have D:Ty.fit 0 0 J8 (g.1.2.2.1,(g.1.2.2.2.2.2.2.1.1,g.1.2.2.2.2.2.2.1.2.1),2):=⟨o.1.2.2.1,⟨o.1.2.2.2.2.2.2.1.1,o.1.2.2.2.2.2.2.1.2.1⟩,fkn 2⟩;have:=J3 (l:=out);refine .bind (JA9 (B:=J0 out) (S:=0) (x1:=(out,g.1.2.2.1,(g.1.2.2.2.2.2.2.1.1,g.1.2.2.2.2.2.2.1.2.1),2)) ⟨⟨J0D _,g2.2⟩,D⟩) λj A=>?_;have I:J0 j<=J0 out+1:=A.2;exact .some ⟨(j,J1 .i64 k 1),rfl,⟨by show 0<=J1 .i64 k 1;omega,by show J1 .i64 k 1<=J0 t.2.2.2.2.1;omega,⟨by show J0 j<=400000001;omega,A.1.2⟩,by show J0 j<=20000*i+J1 .i64 k 1;omega⟩,by show J0 t.2.2.2.2.1-J1 .i64 k 1<J0 t.2.2.2.2.1-k;omega,oo⟩
end
theorem Jvi{B S:Int}{x1:List UInt8}(h:Ty.fit B S .s x1)(N:BS B S 0 0:=by omega)(T:S<=9223372036854775807:=by omega):Tot (J7Q x1) λy=>Ty.fit 64 0 JI6 y:=by
 unfold J7Q;have s0:Ty.fit 0 S .s x1:=h;refine .bind ((J19 (B:=0) (S:=S) (x1:=(x1,0,2)) (⟨s0,fk0,fkn 2⟩)).eqn) λk h1=>.nef (λF=>?_) λF=>?_
 ·have v4:=J6R (x:=(x1,0,2)) (⟨s0,fk0,fkn 2⟩) h1.2 F;have:=J2.1 h1.1.1;have:1<=(2:Int)/\(2:Int)<=8/\0<=(0:Int)/\(0:Int)<=J0 x1/\(2:Int)<=J0 x1-(0:Int)/\((2:Int)<=4->0<=k.1/\k.1<=4294967295)/\((2:Int)=1->k.1<=255)/\((2:Int)=2->k.1<=65535):=v4.1;have:=JKX 24 k.1;refine .lt (λJ=>?_) λJ=>?_
  ·exact .some (⟨Ja,fkn 5⟩)
  ·refine .gt (λv=>?_) λv=>?_
   ·exact .some (⟨Ja,fkn 4⟩)
   ·refine Jb (τ:=JfL) (λq=>(x1,k.1,q.1,[],q.2)) (λq=>(Ty.fit 0 0 (.i .i64) q.1/\0<=q.1/\(q.1<=k.1\/q.1<=0))/\(Ty.fit 65535 0 (.l Jc) q.2/\J0 q.2<=1*q.1+0)) (λq=>k.1-q.1) ?_ (0,[]) rfl ?_
    ·rintro⟨e,g⟩ n;dsimp only at n;obtain⟨⟨D,M,L⟩,j,K⟩:=n;unfold Jdm
     try dsimp only
     have:=J2.1 D;refine .lt (λI=>?_) λI=>?_
     ·refine .bind ((J19 (B:=0) (S:=S) (x1:=(x1,J1 .i64 2 (J3f .i64 24 e),8)) (⟨s0,J5,fkn 8⟩)).eqn) λR G=>.bind ((J19 (B:=0) (S:=S) (x1:=(x1,J1 .i64 10 (J3f .i64 24 e),8)) (⟨s0,J5,fkn 8⟩)).eqn) λP E=>.bind ((J19 (B:=0) (S:=S) (x1:=(x1,J1 .i64 18 (J3f .i64 24 e),8)) (⟨s0,J5,fkn 8⟩)).eqn) λQ z=>?_;have:J0 g<=65535:=j.1;have:=J3 (l:=g);have:J0 g=_:=Jj j;refine .bind (J0q (B:=65535) (Bl:=65535) (Bm:=1) (S:=0) (J0 g) 1 j (J0f (B:=1) (S:=0) (t:=Jc) oo (⟨G.1.1,E.1.1,z.1.1⟩))) λw r=>?_;have:=Jg e 1;have:J0 w=_:=Jj r.1;exact .some ⟨(J1 .i64 e 1,w),rfl,⟨⟨J5,om,om⟩,r.1,om⟩,om,om⟩
     ·refine .inr ?_;refine .bind ((J5k j).eqn) λO C=>.not (λo=>?_) λo=>?_
      ·exact .some (⟨Ja,fkn 28⟩)
      ·have A:=J4m j C.2 o;have H:Ty.fit 64 0 (.l Jc) g:=A.2;exact .some (⟨H,fk0⟩)
    ·have:J0 ([]:List T_api_Row)=0:=rfl
     try dsimp only
     exact⟨⟨fk0,oo,oo⟩,Ja,oo⟩
 ·exact .some (⟨Ja,fkn 5⟩)
theorem J25{B S:Int}{x1:JC3}(h:Ty.fit B S JCz x1)(p0:0<=x1.2.2.1)(n:x1.2.2.1<=J0 x1.2.1)(k:BS B S 0 0:=by omega)(o:S<=9223372036854775807:=by omega):Tot (J11 x1) λy=>Ty.fit 0 S JCz y/\(0<=y.2.2.1/\y.2.2.1<=J0 y.2.1/\(x1.1<=4->0<=y.1/\y.1<=4294967295)/\(x1.1=1->y.1<=255)/\(x1.1=2->y.1<=65535)):=by
 unfold J11;have s0:Ty.fit 0 S JCz x1:=h;have:=J2.1 s0.2.2.1;have:J0 x1.2.1<=S:=s0.2.1;refine .bind ((J19 (B:=0) (S:=S) (x1:=(x1.2.1,x1.2.2.1,x1.1)) (⟨s0.2.1,s0.2.2.1,s0.1⟩)).eqn) λe h4=>.itf (λj=>?_) λj=>?_
 ·have:=J2.1 h4.1.2;refine .ne (λg=>?_) λg=>?_
  ·have:=J2.1 s0.1;exact .some ⟨(⟨fk0,s0.2.1,s0.2.2.1,trivial⟩),om⟩
  ·have v9:=J6R (x:=(x1.2.1,x1.2.2.1,x1.1)) (⟨s0.2.1,s0.2.2.1,s0.1⟩) h4.2 g;have:=J2.1 s0.1;have:=J2.1 h4.1.1;have:1<=x1.1/\x1.1<=8/\0<=x1.2.2.1/\x1.2.2.1<=J0 x1.2.1/\x1.1<=J0 x1.2.1-x1.2.2.1/\(x1.1<=4->0<=e.1/\e.1<=4294967295)/\(x1.1=1->e.1<=255)/\(x1.1=2->e.1<=65535):=v9.1;have:=Jg x1.2.2.1 x1.1;exact .some ⟨(⟨h4.1.1,s0.2.1,J5,trivial⟩),om⟩
 ·have:=J2.1 s0.1;exact .some ⟨(⟨fk0,s0.2.1,s0.2.2.1,trivial⟩),om⟩
theorem JaP{B S:Int}{x1:JC3}(h:Ty.fit B S JCz x1)(p0:1<=x1.1)(O:x1.1<=2)(N:0<=x1.2.2.1)(M:x1.2.2.1<=J0 x1.2.1)(K:BS B S 0 0:=by omega)(P:S<=9223372036854775807:=by omega):Tot (J3D x1) λy=>Ty.fit 65535 S (.pr (.l (.i .i64)) J0r) y/\(0<=y.2.2.1/\y.2.2.1<=J0 y.2.1):=by
 unfold J3D;have s0:Ty.fit 0 S JCz x1:=h;refine .bind (J25 (B:=0) (S:=S) (s0) om om) λe h5=>?_;have:=J2.1 h5.1.c.1;have:=J2.1 h5.1.1;have:0<=e.2.2.1/\e.2.2.1<=J0 e.2.1/\(x1.1<=4->0<=e.1/\e.1<=4294967295)/\(x1.1=1->e.1<=255)/\(x1.1=2->e.1<=65535):=h5.2;refine Jb (τ:=JLo) (λq=>(q.1,q.2.1,q.2.2)) (λq=>Ty.fit 0 0 (.i .i64) q.1/\Ty.fit 0 S J0r q.2.1/\Ty.fit 65535 0 (.l (.i .i64)) q.2.2/\(J0 q.2.2+q.1<=65535)/\(0<=q.1)/\(J0 q.2.2<=65535)/\(0<=q.2.1.2.1)/\(q.2.1.2.1<=J0 q.2.1.1)) (λq=>q.1) ?_ (e.1,e.2,[]) rfl ?_
 ·rintro⟨o,E,n⟩ r;dsimp only at r;obtain⟨D,g,k,J,I,L,G,H⟩:=r;unfold J9J
  try dsimp only
  have:=J3 (l:=n);have:=J2.1 D;have:=J2.1 g.2.1;refine .gt (λz=>?_) λz=>?_
  ·refine .not (λA=>?_) λA=>?_
   ·refine .bind (J25 (B:=0) (S:=S) (⟨fkn 8,g⟩) om om) λF j=>?_;have:=J2.1 j.1.c.1;refine .bind (J0q (B:=65536) (Bl:=65535) (Bm:=1) (S:=0) (J0 n) 1 k (J0f (B:=1) (S:=0) (t:=(.i .i64)) oo j.1.1)) λv C=>?_;have w:Ty.fit 65535 0 (.l (.i .i64)) v:=⟨(by omega:J0 v<=65535),λx hx=>C.1.2 x hx⟩;have:=J0H o 1;exact .some ⟨(JG .i64 o 1,F.2,v),rfl,⟨J22,j.1.2,w,om,om,om,om,om⟩,om,om⟩
   ·exact .some ⟨(⟨k.u,g.u⟩),om⟩
  ·exact .some ⟨(⟨k.u,g.u⟩),om⟩
 ·try dsimp only
  exact⟨h5.1.1,h5.1.2,Ja,om,om,om,om,om⟩
theorem Ju6{B S:Int}{x1:List UInt8}(h:Ty.fit B S .s x1)(a3:BS B S 0 0:=by omega)(hS:S<=9223372036854775807:=by omega):Tot (J87 x1) λy=>Ty.fit 4096 0 tq2 y:=by
 unfold J87;have:=J3 (l:=x1);refine .bind (J25 (B:=0) (S:=S) (⟨fkn 2,h.z,fk0,trivial⟩) om om) λk h1=>?_;have:=J2.1 h1.1.c.1;have:=J2.1 h1.1.1;have:0<=k.2.2.1/\k.2.2.1<=J0 k.2.1/\0<=k.1/\k.1<=65535:=⟨h1.2.1,h1.c.1,(h1.d.1 (show(2:Int)<=4 by decide)).1,h1.g rfl⟩;refine Jb (τ:=Int×J2o×(List Ju)) (λq=>(x1,q.1,q.2.1,q.2.2)) (λq=>Ty.fit 0 0 (.i .i64) q.1/\Ty.fit 0 S J0r q.2.1/\Ty.fit 65535 S (.l Jl) q.2.2/\(J0 q.2.2+q.1<=65535)/\(J0 q.2.2<=65535)/\(0<=q.2.1.2.1)/\(q.2.1.2.1<=J0 q.2.1.1)/\(0<=q.1)) (λq=>q.1) ?_ (k.1,k.2,[]) rfl ?_
 ·rintro⟨r,V,e⟩ E;dsimp only at E;obtain⟨W,K,j,a1,Z,a2,a0,a5⟩:=E;unfold Jdk
  try dsimp only
  have:=J3 (l:=e);have:J0 e=_:=Jj j;have:=J2.1 W;refine .gt (λN=>?_) λN=>?_
  ·refine .not (λI=>?_) λI=>?_
   ·refine .bind (J25 (B:=0) (S:=S) (⟨fkn 4,K⟩) om om) λy4 x=>?_;have:=J2.1 x.1.c.1;refine .bind (J25 (B:=0) (S:=S) (⟨fkn 1,x.1.2⟩) om om) λy5 A=>?_;have:=J2.1 A.1.c.1;refine .bind (J25 (B:=0) (S:=S) (⟨fkn 8,A.1.2⟩) om om) λy6 C=>?_;have:=J2.1 C.1.c.1;refine .bind (J25 (B:=0) (S:=S) (⟨fkn 8,C.1.2⟩) om om) λy7 v=>?_;have:=J2.1 v.1.c.1;refine .bind (JaP (B:=0) (S:=S) (⟨fkn 2,v.1.2⟩) om om om om) λy8 w=>?_;have:=J2.1 w.1.2.z.2.1;refine .bind (JaP (B:=0) (S:=S) (⟨fkn 1,w.1.2.z⟩) om om om om) λY D=>?_;have:=J2.1 D.1.2.z.2.1;refine .bind (J0q (B:=65535) (Bl:=65535) (Bm:=65535) (S:=S) (J0 e) 1 j (J0f (B:=65535) (S:=S) (t:=Jl) oo (⟨x.1.1,A.1.1,C.1.1,v.1.1,w.1.1,D.1.1⟩))) λn o=>?_;have:J0 n<=65535:=o.1.1;have:=J3 (l:=n);have:J0 n=_:=Jj o.1;have:=J0H r 1;exact .some ⟨(JG .i64 r 1,Y.2,n),rfl,⟨J22,D.1.2.z,o.1,om,om,om,om,om⟩,om,om⟩
   ·refine .inr ?_;refine .ite (λR=>?_) λR=>?_
    ·exact .some (⟨Ja,fkn 5⟩)
    ·refine .ne (λM=>?_) λM=>?_
     ·exact .some (⟨Ja,fkn 4⟩)
     ·refine .bind ((J3v j).eqn) λa6 T=>.not (λF=>?_) λF=>?_
      ·exact .some (⟨Ja,fkn 15⟩)
      ·have O:=J2C j T.2 F;have Q:Ty.fit 4096 0 (.l Jl) e:=O.2;exact .some (⟨Q,fk0⟩)
  ·refine .inr ?_;refine .ite (λP=>?_) λP=>?_
   ·exact .some (⟨Ja,fkn 5⟩)
   ·refine .ne (λJ=>?_) λJ=>?_
    ·exact .some (⟨Ja,fkn 4⟩)
    ·refine .bind ((J3v j).eqn) λa4 U=>.not (λG=>?_) λG=>?_
     ·exact .some (⟨Ja,fkn 15⟩)
     ·have L:=J2C j U.2 G;have H:Ty.fit 4096 0 (.l Jl) e:=L.2;exact .some (⟨H,fk0⟩)
 ·try dsimp only
  exact⟨h1.1.1,h1.1.2,Ja,om,om,om,om,om⟩
theorem JvU{B S:Int}{x1:List UInt8}(h:Ty.fit B S .s x1)(ac:BH B S:=by omega)(hS:S<=9223372036854775807:=by omega):Tot (J7R x1) λy=>Ty.fit 4096 0 (.pr J15 (.i .i64)) y:=by
 unfold J7R;have s0:Ty.fit 0 S .s x1:=h;refine .bind ((J19 (B:=0) (S:=S) (x1:=(x1,0,2)) (⟨s0,fk0,fkn 2⟩)).eqn) λy2 h1=>.bind ((J19 (B:=0) (S:=S) (x1:=(x1,2,4)) (⟨s0,fkn 2,fkn 4⟩)).eqn) λJ h2=>.bind ((J19 (B:=0) (S:=S) (x1:=(x1,6,4)) (⟨s0,fkn 6,fkn 4⟩)).eqn) λg h3=>.nef (λN=>?_) λN=>?_
 ·have v6:=J6R (x:=(x1,6,4)) (⟨s0,fkn 6,fkn 4⟩) h3.2 N;have:J0 x1<=S:=s0;have:=J2.1 h3.1.1;have:1<=(4:Int)/\(4:Int)<=8/\0<=(6:Int)/\(6:Int)<=J0 x1/\(4:Int)<=J0 x1-(6:Int)/\((4:Int)<=4->0<=g.1/\g.1<=4294967295)/\((4:Int)=1->g.1<=255)/\((4:Int)=2->g.1<=65535):=v6.1;have:=Juz (J0 x1) 10;refine .gt (λK=>?_) λK=>?_
  ·exact .some (⟨fzr,fkn 5⟩)
  ·have:=JeA 10 g.1;refine .bind (Jdy s0) λM F=>?_;have L:Ty.fit 0 S .s M:=F.1;refine .bind ((J19 (B:=0) (S:=S) (x1:=(x1,J1 .i64 10 g.1,1)) (⟨s0,J5,fkn 1⟩)).eqn) λk A=>.nef (λz=>?_) λz=>?_
   ·have v20:=J6R (x:=(x1,J1 .i64 10 g.1,1)) (⟨s0,J5,fkn 1⟩) A.2 z;have:=J2.1 A.1.1;have:1<=(1:Int)/\(1:Int)<=8/\0<=(J1 .i64 10 g.1)/\(J1 .i64 10 g.1)<=J0 x1/\(1:Int)<=J0 x1-(J1 .i64 10 g.1)/\((1:Int)<=4->0<=k.1/\k.1<=4294967295)/\((1:Int)=1->k.1<=255)/\((1:Int)=2->k.1<=65535):=v20.1;have:=Juz (J0 x1) (J1 .i64 10 g.1);have:=Juz (JG .i64 (J0 x1) (J1 .i64 10 g.1)) 1;have:=JKX 17 k.1;refine .lt (λW=>?_) λW=>?_
    ·exact .some (⟨fzr,fkn 5⟩)
    ·refine Jb (τ:=Int×Int×(List T_api_Row)) (λq=>(x1,M,q.1,k.1,q.2.1,[],0,0,[],[],q.2.2,y2.1,J.1,[],[])) (λq=>Ty.fit 0 0 (.i .i64) q.1/\Ty.fit 0 0 (.i .i64) q.2.1/\Ty.fit 255 0 (.l Jc) q.2.2/\(0<=q.2.1)/\(q.2.1<=k.1)/\(q.1+17*(k.1-q.2.1)<=J0 x1)/\(0<=q.1)/\(J0 q.2.2<=q.2.1)) (λq=>k.1-q.2.1) ?_ (J1 .i64 (J1 .i64 10 g.1) 1,0,[]) rfl ?_
     ·rintro⟨j,r,e⟩ E;dsimp only at E;obtain⟨C,H,n,a8,ad,ab,aa,a7⟩:=E;unfold Jet
      try dsimp only
      have:=J2.1 H;have:=J2.1 C;have:J0 e<=255:=n.1;have:=J3 (l:=e);have:J0 e=_:=Jj n;refine .lt (λG=>?_) λG=>?_
      ·refine .bind ((J19 (B:=0) (S:=S) (x1:=(x1,j,1)) (⟨s0,C,fkn 1⟩)).eqn) λy8 Y=>.bind ((J19 (B:=0) (S:=S) (x1:=(x1,J1 .i64 j 1,8)) (⟨s0,J5,fkn 8⟩)).eqn) λy9 Q=>.bind ((J19 (B:=0) (S:=S) (x1:=(x1,J1 .i64 j 9,8)) (⟨s0,J5,fkn 8⟩)).eqn) λa5 U=>.bind (J0q (B:=256) (Bl:=255) (Bm:=1) (S:=0) (J0 e) 1 n (J0f (B:=1) (S:=0) (t:=Jc) oo (⟨Y.1.1,Q.1.1,U.1.1⟩))) λo D=>?_;have:J0 o=_:=Jj D.1;have a1:Ty.fit 255 0 (.l Jc) o:=⟨(by omega:J0 o<=255),λx hx=>D.1.2 x hx⟩;have:=JeA r 1;have:=JeA j 17;exact .some ⟨(J1 .i64 j 17,J1 .i64 r 1,o),rfl,⟨J5,J5,a1,om,om,om,om,om⟩,om,om⟩
      ·refine .inr ?_;refine .bind (Ju6 L) λV w=>.ne (λR=>?_) λR=>?_
       ·exact .some (⟨fzr,w.2⟩)
       ·refine .bind (JDi s0) λI O=>?_;have P:Ty.fit 0 S .s I:=O.1;refine .bind (Jvi P) λT v=>.ne (λZ=>?_) λZ=>?_
        ·exact .some (⟨fzr,v.2⟩)
        ·have a0:Ty.fit 16384 1073741824 J15 (y2.1,J.1,V.1,e,T.1):=⟨h1.1.1,h2.1.1,w.1.u,n.u,v.1.u⟩;refine .bind (Jmi a0) λa9 a6=>.not (λa2=>?_) λa2=>?_
         ·exact .some (⟨fzr,fkn 24⟩)
         ·exact .some (⟨⟨h1.1.1,h2.1.1,w.1,n.u,v.1.u⟩,fk0⟩)
     ·have:=JeA (J1 .i64 10 g.1) 1
      try dsimp only
      exact⟨J5,fk0,Ja,om,om,om,om,om⟩
   ·exact .some (⟨fzr,fkn 5⟩)
 ·exact .some (⟨fzr,fkn 5⟩)
theorem Jw7{B S:Int}{x1:J07}(h:Ty.fit B S JR x1)(F:BG B S:=by omega):Tot (J7O x1) λy=>Ty.fit 4096 0 (.pr J15 (.pr (.i .i64) .b)) y:=by
 unfold J7O;refine .bind ((J2j h).eqn) λJ h1=>.not (λr=>?_) λr=>?_
 ·exact .some (⟨fzr,fk0,trivial⟩)
 ·have v3:=J1V h h1.2 r;have:=J3 (l:=x1.2.1);have:J0 x1.2.1=_:=Jj h.2.1;have g:Ty.fit 4096 8192 JR x1:=v3.2;have:=J0H (J0 x1.2.1) 1;refine Jb (τ:=Int) (λq=>(q,x1,0,0,[],[],[])) (λq=>(Ty.fit 0 0 (.i .i64) q/\q<=JG .i64 (J0 x1.2.1) 1)) (λq=>q-0) ?_ (JG .i64 (J0 x1.2.1) 1) rfl ?_
  ·rintro e ⟨x,E⟩;unfold Jee
   try dsimp only
   have:=J2.1 x;refine .ge (λn=>?_) λn=>?_
   ·refine .bind (Jh g.2.1) λI D=>.ne (λk=>?_) λk=>?_
    ·have:=J0H e 1;exact .some ⟨JG .i64 e 1,rfl,⟨J22,om⟩,om,om⟩
    ·refine .bind (Jh g.2.1) λC o=>?_;have A:Ty.fit 16384 1073741824 .s C.2.2.2.2.2.2.2:=o.1.z.2.2.2.2.2.2.2.u;refine .bind (JvU A) λH j=>.eq (λv=>?_) λv=>?_
     ·refine .bind (Jh g.2.1) λG w=>.some (⟨j.1,w.1.z.1,trivial⟩)
     ·have:=J0H e 1;exact .some ⟨JG .i64 e 1,rfl,⟨J22,om⟩,om,om⟩
   ·exact .some (⟨fzr,fk0,trivial⟩)
  ·try dsimp only
   exact⟨J22,oo⟩
theorem Jxa{B S:Int}{x1:J73}(h:Ty.fit B S tq8 x1)(k:BG B S:=by omega):Tot (J8V x1) λy=>Ty.fit 4096 0 JCE y:=by
 unfold J8V;refine .bind (Jw7 h.1) λo h1=>.not (λe=>?_) λe=>?_
 ·have:=J2.1 h.1.1;refine .gt (λg=>?_) λg=>?_
  ·exact .some (⟨fzr,fkn 24⟩)
  ·refine .bind (JpY h.2) λn h5=>.some (⟨⟨h.2,fkn 1,fk0,Ja,Ja,Ja,h5.1.u⟩,fk0⟩)
 ·have:=J2.1 h1.1.1;refine .ne (λj=>?_) λj=>?_
  ·exact .some (⟨fzr,fkn 24⟩)
  ·exact .some (⟨⟨h.2,h1.1.2.1,h1.2.1,h1.1.c.1,Ja,h1.1.d⟩,fk0⟩)
section
variable {B S:Int}
theorem Jfj{un:List T_api_Row}{n:T_api_Entry}(h:Ty.fit B S (.l Jc) un)(hn:Ty.fit B S J4 n)(M:BS B S 0 0:=by omega)(Q:B<=17179869183:=by omega):Tot (Jf Jaq (un,false,0,n,[])) λy=>Ty.fit (B+1) S (.l Jc) y/\J0 y<=J0 un+1:=by
 have hl:J0 un<=B:=h.1;have G:=J3 (l:=un);refine Jb (τ:=Bool×Int×List T_api_Row) (λq=>(un,q.1,q.2.1,n,q.2.2)) (λq=>0<=q.2.1/\q.2.1<=J0 un/\Ty.fit (B+1) S (.l Jc) q.2.2/\J0 q.2.2<=q.2.1+1/\(q.1=false->J0 q.2.2<=q.2.1)) (λq=>J0 un-q.2.1) ?_ (false,0,[]) rfl ⟨J0D _,G,Ja,by show(0:Int)<=0+1;omega,λ_=>J0D _⟩;rintro⟨done,i,out⟩ ⟨E,h1,h2,h3,h4⟩;dsimp only at E h1 h2 h3 h4;unfold Jaq;dsimp only;have:=Jg i 1;have app: ∀{x:T_api_Row} {l:List T_api_Row},Ty.fit (B+1) S (.l Jc) l->Ty.fit (B+1) S Jc x->J0 l+1<=B+1->Tot (Jy 24 l [x]) λr=>Ty.fit (B+1) S (.l Jc) r/\J0 r=J0 l+1:=λhl hx I=>
  (J0q (B:=B+1) (Bl:=B+1) (Bm:=B+1) (S:=S) _ 1 hl (J0f oo hx) rfl rfl (J0D _) (J0D _) I oo (by decide)).mono λ_ h=>⟨h.1,h.2.1⟩
 have k:Ty.fit (B+1) S Jc (n.2.2.2.2.2.2.1.1,n.1,n.1):=⟨hn.2.2.2.2.2.2.1.1,hn.1,hn.1⟩;have w:Tot (JN n) λ_=>True:=(J1I hn).mono λ_ _=>trivial;have o: ∀{d:Bool} {l:List T_api_Row},i<J0 un->Ty.fit (B+1) S (.l Jc) l->J0 l<=i+2->(d=false->J0 l<=i+1)->(∃c':Bool×Int×List T_api_Row,(un,d,J1 .i64 i 1,n,l)=(un,c'.1,c'.2.1,n,c'.2.2)/\(0<=c'.2.1/\c'.2.1<=J0 un/\Ty.fit (B+1) S (.l Jc) c'.2.2/\J0 c'.2.2<=c'.2.1+1/\(c'.1=false->J0 c'.2.2<=c'.2.1))/\J0 un-c'.2.1<J0 un-i/\0<=J0 un-i):=fun{d l} a1 a2 a3 a4=>
  ⟨(d,J1 .i64 i 1,l),rfl,⟨by show 0<=J1 .i64 i 1;omega,by show J1 .i64 i 1<=_;omega,a2,by show J0 l<=J1 .i64 i 1+1;omega,λe=>by show J0 l<=J1 .i64 i 1;have:=a4 e;omega⟩,by show J0 un-J1 .i64 i 1<J0 un-i;omega,oo⟩
 refine .lt (λc=>?_) λc=>Tot.map (P:=λy:List T_api_Row=>Ty.fit (B+1) S (.l Jc) y/\J0 y<=J0 un+1) ?_ λ_ h=>h
 ·have L:Tot (idx un i) λr=>Ty.fit (B+1) S Jc r:=(Jh h E c).mono λ_ h=>h.1.u;refine .bind L λg f4=>?_
  have body: ∀{d:Bool} {l:List T_api_Row},Ty.fit (B+1) S (.l Jc) l->J0 l<=i+1->(d=false->J0 l<=i)->Tot (ρ:=(JAj)⊕(List T_api_Row)) (if eqI g.1 n.2.2.2.2.2.2.1.1 then
     (JN n).bind λA=>
     if A then
      (Jy 24 l [(g.1,g.2.1,n.1)]).bind λF=>
      some (.inl (un,true,J1 .i64 i 1,n,F))
     else
      if geI n.2.2.2.2.2.1 g.2.2 then
       some (.inl (un,true,J1 .i64 i 1,n,l))
      else
       if geI n.2.2.2.2.2.1 g.2.1 then
        (Jy 24 l [(g.1,J1 .i64 n.2.2.2.2.2.1 1,g.2.2)]).bind λv=>
        some (.inl (un,true,J1 .i64 i 1,n,v))
       else
        (Jy 24 l [g]).bind λD=>
        some (.inl (un,true,J1 .i64 i 1,n,D))
    else
     (Jy 24 l [g]).bind λJ=>
     some (.inl (un,d,J1 .i64 i 1,n,J))) λr=>match r with
      | .inl z=> ∃c':Bool×Int×List T_api_Row,z=(un,c'.1,c'.2.1,n,c'.2.2)/\(0<=c'.2.1/\c'.2.1<=J0 un/\Ty.fit (B+1) S (.l Jc) c'.2.2/\J0 c'.2.2<=c'.2.1+1/\(c'.1=false->J0 c'.2.2<=c'.2.1))/\J0 un-c'.2.1<J0 un-i/\0<=J0 un-i
      | .inr y=>Ty.fit (B+1) S (.l Jc) y/\J0 y<=J0 un+1:=fun{d l} b1 b2 K=>
   .eq (λ_=>.bind w λA _=>.ite (λ_=>.bind (app b1 ⟨f4.1,f4.2.1,hn.1⟩ oo) λF C=>.some (o c C.1 (by have:=C.2;omega) λe=>by cases e)) λ_=>.ge (λ_=>.some (o c b1 oo λe=>by cases e)) λ_=>.ge (λ_=>.bind (app b1 ⟨f4.1,J5,f4.2.2⟩ oo) λv j=>.some (o c j.1 (by have:=j.2;omega) λe=>by cases e)) λ_=>.bind (app b1 f4 oo) λv j=>.some (o c j.1 (by have:=j.2;omega) λe=>by cases e)) λ_=>.bind (app b1 f4 oo) λv j=>.some (o c j.1 (by have:=j.2;omega) λe=>by have:=j.2;have:=K e;omega)
  refine .gt (λ_=>.not (λd=>.bind w λN _=>.ite (λ_=>.bind (app h2 k (by have:=h4 d;omega)) λO H=>?_) λ_=>?_) λd=>?_) λ_=>?_
  ·exact(body (d:=true) H.1 (by have:=H.2;have:=h4 d;omega) λe=>by cases e).mono λr h=>by cases r<;>exact h
  all_goals
   exact(body (d:=done) h2 h3 h4).mono λr h=>by cases r<;>exact h
 ·exact .not (λd=>.bind w λy _=>.ite (λ_=>.bind (app h2 k (by have:=h4 d;omega)) λy f=>.some ⟨f.1,by have:=f.2;have:=h4 d;omega⟩) λ_=>.some ⟨h2,oo⟩) λ_=>.some ⟨h2,oo⟩
theorem J5q{x1:JHU}(h:Ty.fit B S JvV x1)(e:BS B S 0 0:=by omega)(g:B<=17179869183:=by omega):Tot (J2Y x1) λy=>Ty.fit (B+1) S (.l Jc) y/\J0 y<=J0 x1.1+1:=by unfold J2Y;refine .bind (J1I h.2) λj _=>.not (λ_=>.ne (λ_=>.some ⟨h.1.u,oo⟩) λ_=>Jfj h.1 h.2) λ_=>Jfj h.1 h.2
end
end Go.Am
end
section
namespace Go.Am
set_option linter.unusedVariables false
set_option maxRecDepth 20000
set_option maxHeartbeats 4000000
theorem JBi{B S:Int}{x1:J1W×T_api_Entry}(h:Ty.fit B S (.pr J2J J4) x1)(p0:J0 x1.1.2.2.2.2.2.1<=16000)(aj:BG B S:=by omega):Tot (J9X x1) λy=>Ty.fit B S JCE y/\(J0 y.1.2.2.2.2.2.1<=J0 x1.1.2.2.2.2.2.1+1):=by
 unfold J9X;have h4:Ty.fit 16000 S (.l Jc) x1.1.2.2.2.2.2.1:=⟨(by omega:J0 x1.1.2.2.2.2.2.1<=16000),λx hx=>h.1.g.1.2 x hx⟩;refine .gt (λc5=>?_) λc5=>?_
 ·refine .bind ((J2S (B:=B) (S:=S) (x1:=(x1.1.2.2.2.1,x1.2.2.2.1)) (⟨h.1.d.1,h.2.z.2.2.1⟩)).eqn) λy2 h7=>.lt (λa3=>?_) λa3=>?_
  ·refine .bind (Jkq (B:=B) (S:=S) (⟨h.1.d.1,h.2.z.2.2.1⟩)) λy3 v=>.ne (λZ=>?_) λZ=>?_
   ·exact .some ⟨(⟨h.1,v.2⟩),om⟩
   ·have a6:Ty.fit 16384 S JvO (y3.1,x1.2):=⟨v.1.u,h.2.z.u⟩;refine .bind (J54 a6) λy4 j=>.ne (λa1=>?_) λa1=>?_
    ·exact .some ⟨(⟨⟨h.1.1,h.1.2.1,h.1.c.1,v.1.u,h.1.e⟩,j.2⟩),om⟩
    ·refine .bind (J4O (B:=B) (S:=S) (⟨h.1.h,h.2.z.u⟩)) λy5 q=>.ne (λa0=>?_) λa0=>?_
     ·exact .some ⟨(⟨⟨h.1.1,J45 h.1.2.1 J5,h.1.c.1,j.1.u,h.1.e⟩,q.2⟩),om⟩
     ·refine .bind (J1I (B:=0) (S:=S) h.2.z) λy6 ae=>.ite (λO=>?_) λO=>?_
      ·have:=J2.1 h.2.z.2.2.2.2.2.2.1.1;refine .ge (λP=>?_) λP=>?_
       ·exact .some ⟨(⟨⟨h.1.1,J45 h.1.2.1 J5,h.1.c.1,j.1.u,h.1.e.1,h4.u,q.1.u⟩,fkn 1⟩),om⟩
       ·refine .bind (J5q (B:=16000) (S:=S) (⟨h4,h.2.z.u⟩)) λL F=>?_;have W:Ty.fit 16001 S (.l Jc) L:=F.1.u;have:J0 L<=J0 x1.1.2.2.2.2.2.1+1:=F.2;exact .some ⟨(⟨⟨h.1.1,J45 h.1.2.1 J5,h.1.c.1,j.1.u,h.1.e.1,W.u,q.1.u⟩,fk0⟩),om⟩
      ·refine .bind (J5q (B:=16000) (S:=S) (⟨h4,h.2.z.u⟩)) λY w=>?_;have M:Ty.fit 16001 S (.l Jc) Y:=w.1.u;have:J0 Y<=J0 x1.1.2.2.2.2.2.1+1:=w.2;exact .some ⟨(⟨⟨h.1.1,J45 h.1.2.1 J5,h.1.c.1,j.1.u,h.1.e.1,M.u,q.1.u⟩,fk0⟩),om⟩
  ·refine .bind (J54 (B:=B) (S:=S) (⟨h.1.d.1,h.2.z.u⟩)) λy9 k=>.ne (λa8=>?_) λa8=>?_
   ·exact .some ⟨(⟨h.1,k.2⟩),om⟩
   ·refine .bind (J4O (B:=B) (S:=S) (⟨h.1.h,h.2.z.u⟩)) λac r=>.ne (λa5=>?_) λa5=>?_
    ·exact .some ⟨(⟨⟨h.1.1,J45 h.1.2.1 J5,h.1.c.1,k.1.u,h.1.e⟩,r.2⟩),om⟩
    ·refine .bind (J1I (B:=0) (S:=S) h.2.z) λai ah=>.ite (λa4=>?_) λa4=>?_
     ·have:=J2.1 h.2.z.2.2.2.2.2.2.1.1;refine .ge (λK=>?_) λK=>?_
      ·exact .some ⟨(⟨⟨h.1.1,J45 h.1.2.1 J5,h.1.c.1,k.1.u,h.1.e.1,h4.u,r.1.u⟩,fkn 1⟩),om⟩
      ·refine .bind (J5q (B:=16000) (S:=S) (⟨h4,h.2.z.u⟩)) λG J=>?_;have a2:Ty.fit 16001 S (.l Jc) G:=J.1.u;have:J0 G<=J0 x1.1.2.2.2.2.2.1+1:=J.2;exact .some ⟨(⟨⟨h.1.1,J45 h.1.2.1 J5,h.1.c.1,k.1.u,h.1.e.1,a2.u,r.1.u⟩,fk0⟩),om⟩
     ·refine .bind (J5q (B:=16000) (S:=S) (⟨h4,h.2.z.u⟩)) λC H=>?_;have R:Ty.fit 16001 S (.l Jc) C:=H.1.u;have:J0 C<=J0 x1.1.2.2.2.2.2.1+1:=H.2;exact .some ⟨(⟨⟨h.1.1,J45 h.1.2.1 J5,h.1.c.1,k.1.u,h.1.e.1,R.u,r.1.u⟩,fk0⟩),om⟩
 ·refine .bind (J54 (B:=B) (S:=S) (⟨h.1.d.1,h.2.z.u⟩)) λaf n=>.ne (λU=>?_) λU=>?_
  ·exact .some ⟨(⟨h.1,n.2⟩),om⟩
  ·refine .bind (J4O (B:=B) (S:=S) (⟨h.1.h,h.2.z.u⟩)) λad o=>.ne (λT=>?_) λT=>?_
   ·exact .some ⟨(⟨⟨h.1.1,J45 h.1.2.1 J5,h.1.c.1,n.1.u,h.1.e⟩,o.2⟩),om⟩
   ·refine .bind (J1I (B:=0) (S:=S) h.2.z) λag ab=>.ite (λV=>?_) λV=>?_
    ·have:=J2.1 h.2.z.2.2.2.2.2.2.1.1;refine .ge (λQ=>?_) λQ=>?_
     ·exact .some ⟨(⟨⟨h.1.1,J45 h.1.2.1 J5,h.1.c.1,n.1.u,h.1.e.1,h4.u,o.1.u⟩,fkn 1⟩),om⟩
     ·refine .bind (J5q (B:=16000) (S:=S) (⟨h4,h.2.z.u⟩)) λD A=>?_;have N:Ty.fit 16001 S (.l Jc) D:=A.1.u;have:J0 D<=J0 x1.1.2.2.2.2.2.1+1:=A.2;exact .some ⟨(⟨⟨h.1.1,J45 h.1.2.1 J5,h.1.c.1,n.1.u,h.1.e.1,N.u,o.1.u⟩,fk0⟩),om⟩
    ·refine .bind (J5q (B:=16000) (S:=S) (⟨h4,h.2.z.u⟩)) λE I=>?_;have a7:Ty.fit 16001 S (.l Jc) E:=I.1.u;have:J0 E<=J0 x1.1.2.2.2.2.2.1+1:=I.2;exact .some ⟨(⟨⟨h.1.1,J45 h.1.2.1 J5,h.1.c.1,n.1.u,h.1.e.1,a7.u,o.1.u⟩,fk0⟩),om⟩
theorem Jsn{B S:Int}{x1:J73}(h:Ty.fit B S tq8 x1)(aa:BG B S:=by omega):Tot (J72 x1) λy=>Ty.fit 400000001 1073741824 JCE y:=by
 unfold J72;refine .bind ((J2j h.1).eqn) λy2 h1=>.not (λP=>?_) λP=>?_
 ·exact .some (⟨fzr,fkn 26⟩)
 ·have v3:=J1V h.1 h1.2 P;have:=J3 (l:=x1.1.2.1);have:J0 x1.1.2.1=_:=Jj h.1.2.1;have C:Ty.fit 4096 8192 JR x1.1:=v3.2;refine .ltf (λN=>?_) λN=>?_
  ·refine .gt (λT=>?_) λT=>?_
   ·exact .some (⟨fzr,fkn 1⟩)
   ·have O:Ty.fit 16384 1073741824 tq8 (x1.1,x1.2):=⟨C.u,h.2⟩;refine .bind (Jxa O) λD A=>.ne (λa0=>?_) λa0=>?_
    ·exact .some (⟨fzr,A.2⟩)
    ·refine Jb (τ:=Int×J1W) (λq=>(q.1,x1.1,(0,0,0,[],[],[],[]),q.2)) (λq=>Ty.fit 0 0 (.i .i64) q.1/\Ty.fit 16384 1073741824 J2J q.2/\(0<=q.1)/\(q.1<=J0 x1.1.2.1)/\(J0 q.2.2.2.2.2.2.1<=4096+q.1)) (λq=>J0 x1.1.2.1-q.1) ?_ (0,D.1) rfl ?_
     ·rintro⟨r,e⟩ H;dsimp only at H;obtain⟨V,j,z20,a6,z22⟩:=H;unfold JcE
      try dsimp only
      have:=J2.1 V;have:J0 e.2.2.2.2.2.1<=16384:=j.2.2.2.2.2.1.1;have:=J3 (l:=e.2.2.2.2.2.1);have:J0 e.2.2.2.2.2.1=_:=Jj j.2.2.2.2.2.1;refine .lt (λU=>?_) λU=>?_
      ·refine .bind (Jh C.2.1) λy5 a3=>.le (λK=>?_) λK=>?_
       ·have a4:Ty.fit 8192 1073741824 (.l Jc) e.2.2.2.2.2.1:=⟨(by omega:J0 e.2.2.2.2.2.1<=8192),λx hx=>j.2.2.2.2.2.1.2 x hx⟩;have:=Jg r 1;exact .some ⟨(J1 .i64 r 1,e),rfl,⟨J5,j,om,om,om⟩,om,om⟩
       ·refine .bind (Jh C.2.1) λy6 Y=>.bind (JBi (B:=16384) (S:=1073741824) (⟨j,Y.1.z.u⟩) om) λw E=>?_;have v:Ty.fit 16384 1073741824 JCE w:=E.1.u;have:J0 w.1.2.2.2.2.2.1<=16384:=v.1.g.1.1;have:=J3 (l:=w.1.2.2.2.2.2.1);have:J0 w.1.2.2.2.2.2.1=_:=Jj v.1.g.1;have:J0 w.1.2.2.2.2.2.1<=J0 e.2.2.2.2.2.1+1:=E.2;refine .ne (λR=>?_) λR=>?_
        ·exact .some (⟨fzr,v.2⟩)
        ·have a7:Ty.fit 8192 1073741824 (.l Jc) w.1.2.2.2.2.2.1:=⟨(by omega:J0 w.1.2.2.2.2.2.1<=8192),λx hx=>v.1.g.1.2 x hx⟩;have:=Jg r 1;exact .some ⟨(J1 .i64 r 1,w.1),rfl,⟨J5,v.1,om,om,om⟩,om,om⟩
      ·refine .inr ?_;have:J0 e.2.2.2.1<=16384:=j.2.2.2.1.1;have:=J3 (l:=e.2.2.2.1);have:J0 e.2.2.2.1=_:=Jj j.2.2.2.1;refine Jb (τ:=Int×(List Ju)) (λq=>(q.1,x1.1,(0,0,0,[],[],[],[]),e,q.2)) (λq=>(Ty.fit 0 0 (.i .i64) q.1/\0<=q.1/\(q.1<=J0 e.2.2.2.1\/q.1<=0))/\(Ty.fit 16384 1073741824 (.l Jl) q.2/\J0 q.2<=1*q.1+0)) (λq=>J0 e.2.2.2.1-q.1) ?_ (0,[]) rfl ?_
       ·rintro⟨o,k⟩ G;dsimp only at G;obtain⟨⟨Z,a1,a5⟩,n,ab⟩:=G;unfold JcF
        try dsimp only
        have:=J2.1 Z;refine .lt (λQ=>?_) λQ=>?_
        ·refine .bind (Jh j.2.2.2.1) λy9 a9=>.gt (λW=>?_) λW=>?_
         ·refine .bind (Jh j.2.2.2.1) λa2 M=>?_;have:J0 k<=16384:=n.1;have:=J3 (l:=k);have:J0 k=_:=Jj n;refine .bind (J0q (B:=16384) (Bl:=16384) (Bm:=16384) (S:=1073741824) (J0 k) 1 n (J0f (B:=16384) (S:=1073741824) (t:=Jl) oo M.1)) λJ I=>?_;have:=Jg o 1;have:J0 J=_:=Jj I.1;exact .some ⟨(J1 .i64 o 1,J),rfl,⟨⟨J5,om,om⟩,I.1,om⟩,om,om⟩
         ·have:=Jg o 1;have:J0 k=_:=Jj n;exact .some ⟨(J1 .i64 o 1,k),rfl,⟨⟨J5,om,om⟩,n,om⟩,om,om⟩
        ·refine .inr ?_;refine .bind (JyE (B:=16384) (S:=1073741824) (⟨C.u,n⟩)) λa8 F=>.ne (λL=>?_) λL=>?_
         ·exact .some (⟨fzr,F.2⟩)
         ·exact .some (⟨⟨j.1,j.2.1,j.2.2.1,n.u,F.1.u,j.2.2.2.2.2.u⟩,fk0⟩)
       ·have:J0 ([]:List Ju)=0:=rfl
        try dsimp only
        exact⟨⟨fk0,oo,oo⟩,Ja,oo⟩
     ·have:J0 D.1.2.2.2.2.2.1<=4096:=A.1.g.1.1;have:=J3 (l:=D.1.2.2.2.2.2.1);have:J0 D.1.2.2.2.2.2.1=_:=Jj A.1.g.1
      try dsimp only
      exact⟨fk0,A.1.u,om,om,om⟩
  ·exact .some (⟨fzr,fkn 1⟩)
theorem Jxn{B S:Int}{x1:J07×J1W×Int}(h:Ty.fit B S (.pr JR JCE) x1)(N:BG B S:=by omega):Tot (J94 x1) λy=>Ty.fit 16384 1073741824 tq1 y:=by
 unfold J94;refine .bind (Jqb h.c) λv h1=>.ne (λJ=>?_) λJ=>?_
 ·exact .some (⟨fzr,fkn 1⟩)
 ·refine .bind ((J1c (B:=B) (S:=S) (x1:=(x1.2.1.1,x1.2.1.2.1,x1.1,v.1,(x1.2.1.2.2.2.2.1,[]),x1.2.1.2.2.2.1,x1.2.1.2.2.2.2.2.2,x1.2.1.2.2.2.2.2.1)) (⟨h.2.1.1,h.2.1.2.1,h.1,h1.1.u,⟨h.2.1.e.1,Ja⟩,h.2.1.d.1,h.2.1.h,h.2.1.g.1⟩)).eqn) λP h4=>.not (λG=>?_) λG=>?_
  ·exact .some (⟨fzr,fkn 15⟩)
  ·have I:=J1m (x:=(x1.2.1.1,x1.2.1.2.1,x1.1,v.1,(x1.2.1.2.2.2.2.1,[]),x1.2.1.2.2.2.1,x1.2.1.2.2.2.2.2.2,x1.2.1.2.2.2.2.2.1)) (⟨h.2.1.1,h.2.1.2.1,h.1,h1.1.u,⟨h.2.1.e.1,Ja⟩,h.2.1.d.1,h.2.1.h,h.2.1.g.1⟩) h4.2 G;have j:Ty.fit 4096 8192 J7 (x1.2.1.1,x1.2.1.2.1,x1.1,v.1,(x1.2.1.2.2.2.2.1,[]),x1.2.1.2.2.2.1,x1.2.1.2.2.2.2.2.2,x1.2.1.2.2.2.2.2.1):=I.2;have:J0 x1.2.1.2.2.2.1<=4096:=j.g.1.1;have:=J3 (l:=x1.2.1.2.2.2.1);have:J0 x1.2.1.2.2.2.1=_:=Jj j.g.1;refine Jb (τ:=JbK) (λq=>(q.1,x1.1,x1.2.1,(0,0,(0,[],0),(0,[],0),([],[]),[],[],[]),v.1,q.2)) (λq=>(Ty.fit 0 0 (.i .i64) q.1/\0<=q.1/\(q.1<=J0 x1.2.1.2.2.2.1\/q.1<=0))/\Ty.fit 16384 1073741824 J7 q.2) (λq=>J0 x1.2.1.2.2.2.1-q.1) ?_ (0,(x1.2.1.1,x1.2.1.2.1,x1.1,v.1,(x1.2.1.2.2.2.2.1,[]),x1.2.1.2.2.2.1,x1.2.1.2.2.2.2.2.2,x1.2.1.2.2.2.2.2.1)) rfl ?_
   ·rintro⟨k,o⟩ z;dsimp only at z;obtain⟨⟨F,L,O⟩,n⟩:=z;unfold Jg1
    try dsimp only
    have:=J2.1 F;refine .lt (λD=>?_) λD=>?_
    ·refine .bind (Jh j.g.1) λQ M=>.eq (λH=>?_) λH=>?_
     ·have:=Jg k 1;exact .some ⟨(J1 .i64 k 1,o),rfl,⟨⟨J5,om,om⟩,n⟩,om,om⟩
     ·refine .bind (Jh j.g.1) λE w=>.bind ((J4F (B:=16384) (S:=1073741824) (x1:=(o,0,4,E.1,0,0,0,(0,0,(false,[]),false,[]),[])) (⟨n,fk0,fkn 4,w.1.1,fk0,fk0,fk0,⟨fk0,fk0,⟨trivial,Jd⟩,trivial,Jd⟩,Jd⟩)).eqn) λC r=>.ne (λA=>?_) λA=>?_
      ·exact .some (⟨fzr,r.1.1.c⟩)
      ·have K:Has C.1.2.2.2.2.2.1 E.1:=JpU (⟨n,fk0,fkn 4,w.1.1,fk0,fk0,fk0,⟨fk0,fk0,⟨trivial,Jd⟩,trivial,Jd⟩,Jd⟩) r.2 A;have:=Jg k 1;exact .some ⟨(J1 .i64 k 1,C.1),rfl,⟨⟨J5,om,om⟩,r.1.1.1⟩,om,om⟩
    ·exact .some (⟨n,fk0⟩)
   ·try dsimp only
    exact⟨⟨fk0,oo,oo⟩,j.1,j.2.1,j.c.1.u,j.d.1.u,⟨j.e.1.1.u,Ja⟩,j.g.u⟩
theorem JDb{B S:Int}{x1:JIm}(h:Ty.fit B S (.pr JT JA) x1)(o:BH B S:=by omega)(r:S<=9223372036854775807:=by omega):Tot (Ja1 x1) λy=>Ty.fit B S tq3 y:=by
 unfold Ja1;refine .bind (JzY (B:=0) (S:=S) h.2.z.1) λn h1=>.ne (λg=>?_) λg=>?_
 ·exact .some (⟨⟨fzr,Ja,fk0,Ja,trivial,Ja⟩,h1.2⟩)
 ·have h5:Ty.fit 16384 1073741824 tq8 (n.1,x1.2.2.1):=⟨h1.1.u,h.2.z.2.1⟩;refine .bind (Jsn h5) λq h4=>.ne (λk=>?_) λk=>?_
  ·exact .some (⟨⟨fzr,Ja,fk0,Ja,trivial,Ja⟩,h4.2⟩)
  ·refine .bind (Jxn (B:=400000001) (S:=1073741824) (⟨h1.1.u,h4.1,h.2.z.2.2⟩)) λv e=>.ne (λj=>?_) λj=>?_
   ·exact .some (⟨⟨fzr,Ja,fk0,Ja,trivial,Ja⟩,e.2⟩)
   ·exact .some (⟨⟨e.1.u,h.1⟩,fk0⟩)
theorem JDH{B S:Int}{x1:JIm}(h:Ty.fit B S (.pr JT JA) x1)(e:BH B S:=by omega)(g:S<=9223372036854775807:=by omega):Tot (J9U x1) λy=>Ty.fit B S tq3 y:=by unfold J9U;refine .bind (JDb (B:=B) (S:=S) (⟨h.1,h.2.z.1.u,h.2.z.2.1,h.2.z.2.2⟩)) λj h1=>.some (h1)
theorem JgJ{B S:Int}{x1:TQ4}(h:Ty.fit B S (.pr J0R tq0) x1)(p0:J0 x1.2.2.2.2.2.2.2.2.2.2.2.2.2.2.2.2.2.2.2.2.1<=16000)(U:J0 x1.2.2.2.2.2.2.2.2.2.2.2.2.2.2.2.2.2.2.2.2.2<=16000)(P:BG B S:=by omega)(V:S<=9223372036854775807:=by omega):Tot (J3V x1) λy=>Ty.fit B S JHO y/\(J0 y.2.2.2.2.2.2.2.2.2.2.2.2.2.2.2.2.2.2.2.2.1<=J0 x1.2.2.2.2.2.2.2.2.2.2.2.2.2.2.2.2.2.2.2.2.1+1/\J0 y.2.2.2.2.2.2.2.2.2.2.2.2.2.2.2.2.2.2.2.2.2<=J0 x1.2.2.2.2.2.2.2.2.2.2.2.2.2.2.2.2.2.2.2.2.2+1):=by
 unfold J3V;have:=J3 (l:=x1.2.2.2.2.2.2.2.2.2.2.2.2.2.2.2.2.2.2.2.2.1);have J:Ty.fit 16000 S (.l (.i .i64)) x1.2.2.2.2.2.2.2.2.2.2.2.2.2.2.2.2.2.2.2.2.1:=⟨(by omega:J0 x1.2.2.2.2.2.2.2.2.2.2.2.2.2.2.2.2.2.2.2.2.1<=16000),λx hx=>h.k.k.c.1.2 x hx⟩;have G:Ty.fit 16000 S (.l J0v) x1.2.2.2.2.2.2.2.2.2.2.2.2.2.2.2.2.2.2.2.2.2:=⟨(by omega:J0 x1.2.2.2.2.2.2.2.2.2.2.2.2.2.2.2.2.2.2.2.2.2<=16000),λx hx=>h.k.k.e x hx⟩;refine .bind (Jym (B:=B) (S:=S) (⟨⟨⟨h.2.1,h.c.1,⟨h.d.1,h.e.1,h.g.1⟩,⟨h.h.1,h.i.1,h.j.1⟩,⟨h.k.1,h.k.2.1⟩,h.k.c.1,h.k.d.1,h.k.e.1⟩,h.k.g.1,h.k.h.1,h.k.i.1,trivial,h.k.k.1⟩,h.1.z.2.2.2.1,h.1.z.2.2.1,h.1.z.2.2.2.2.1⟩)) λK I=>.bind (JDH (B:=B) (S:=S) (⟨I.1,I.2.z.u,h.2.1,h.h.1⟩)) λD n=>Jb (τ:=Jzz) (λq=>(D.2,q.1,x1.2.1,x1.2.2.1,x1.2.2.2.1,x1.2.2.2.2.1,x1.2.2.2.2.2.1,x1.2.2.2.2.2.2.1,x1.2.2.2.2.2.2.2.1,x1.2.2.2.2.2.2.2.2.1,x1.2.2.2.2.2.2.2.2.2.1,x1.2.2.2.2.2.2.2.2.2.2.1,x1.2.2.2.2.2.2.2.2.2.2.2.1,x1.2.2.2.2.2.2.2.2.2.2.2.2.1,x1.2.2.2.2.2.2.2.2.2.2.2.2.2.1,x1.2.2.2.2.2.2.2.2.2.2.2.2.2.2.1,x1.2.2.2.2.2.2.2.2.2.2.2.2.2.2.2.1,x1.2.2.2.2.2.2.2.2.2.2.2.2.2.2.2.2.1,x1.2.2.2.2.2.2.2.2.2.2.2.2.2.2.2.2.2.1,x1.2.2.2.2.2.2.2.2.2.2.2.2.2.2.2.2.2.2.1,x1.2.2.2.2.2.2.2.2.2.2.2.2.2.2.2.2.2.2.2.1,q.2,x1.2.2.2.2.2.2.2.2.2.2.2.2.2.2.2.2.2.2.2.2.2,x1.1,(0,0,0,(false,[]),0),K.1,D.1)) (λq=>Ty.fit 0 0 (.i .i64) q.1/\Ty.fit 16000 S (.l (.i .i64)) q.2/\(0<=q.1)/\(q.1<=J0 q.2)/\(J0 q.2=J0 x1.2.2.2.2.2.2.2.2.2.2.2.2.2.2.2.2.2.2.2.2.1)) (λq=>J0 q.2-q.1) ?_ (0,x1.2.2.2.2.2.2.2.2.2.2.2.2.2.2.2.2.2.2.2.2.1) rfl ?_
 ·rintro⟨o,r⟩ w;dsimp only at w;obtain⟨H,v,N,L,O⟩:=w;unfold J7n
  try dsimp only
  have:=J2.1 H;refine .lt (λC=>?_) λC=>?_
  ·refine .bind (J5G (l:=r)) λ_ _=>.bind (JcI v) λT M=>?_;have:=Jg o 1;have:J0 (J0w r (Int.toNat o) 0)<=16000:=(J4e (t:=(.i .i64)) (i:=Int.toNat o) (x:=0) v fk0).1;have:=J3 (l:=J0w r (Int.toNat o) 0);have:J0 (J0w r (Int.toNat o) 0)=J0 r:=J5X;exact .some ⟨(J1 .i64 o 1,J0w r (Int.toNat o) 0),rfl,⟨J5,J4e (t:=(.i .i64)) (i:=Int.toNat o) (x:=0) v fk0,om,om,om⟩,om,om⟩
  ·refine .inr ?_;refine .ne (λA=>?_) λA=>?_
   ·refine .bind (J4N n.2) λQ E=>.some ⟨(⟨E.u,h.2.1,h.c.1,h.d.1,h.e.1,h.g.1,h.h.1,h.i.1,h.j.1,h.k.1,h.k.2.1,h.k.c.1,h.k.d.1,h.k.e.1,h.k.g.1,h.k.h.1,h.k.i.1,trivial,h.k.k.1,trivial,v.u,G.u⟩),om⟩
   ·refine .bind (J4N (B:=0) (S:=0) fk0) λR F=>.some ⟨(⟨F.u,n.1.1.1,n.1.1.2.1,n.1.1.c.1.1,n.1.1.c.1.2.1,n.1.1.c.1.c,n.1.1.d.1.1,n.1.1.d.1.2.1,n.1.1.d.1.c,n.1.1.e.1.1,n.1.1.e.1.2,n.1.1.g.1,n.1.1.h.1,n.1.1.i,n.1.2.1,n.1.c.1,n.1.d.1,trivial,n.1.g,trivial,v.u,G.u⟩),om⟩
 ·try dsimp only
  exact⟨fk0,J,om,om,om⟩
theorem J3b{B S:Int}{x1:TQ2}(h:Ty.fit B S (.pr Jk (.pr (.i .i64) tq0)) x1)(q:BH B S:=by omega):Tot (J1s x1) λy=>Ty.fit B S JHO y/\(J0 y.2.2.2.2.2.2.2.2.2.2.2.2.2.2.2.2.2.2.2.2.1=J0 x1.2.2.2.2.2.2.2.2.2.2.2.2.2.2.2.2.2.2.2.2.2.1/\J0 y.2.2.2.2.2.2.2.2.2.2.2.2.2.2.2.2.2.2.2.2.2=J0 x1.2.2.2.2.2.2.2.2.2.2.2.2.2.2.2.2.2.2.2.2.2.2):=by
 unfold J1s;refine .eq (λo=>?_) λo=>?_
 ·refine .bind (J4N h.2.1) λv h3=>.some ⟨(⟨h3.u,h.1.1.1,h.1.1.2.1,h.1.1.c.1.1,h.1.1.c.1.2.1,h.1.1.c.1.c,h.1.1.d.1.1,h.1.1.d.1.2.1,h.1.1.d.1.c,h.1.1.e.1.1,h.1.1.e.1.2,h.1.1.g.1,h.1.1.h.1,h.1.1.i,h.1.2.1,h.1.c.1,h.1.d.1,trivial,h.1.g,trivial,h.k.k.d⟩),om⟩
 ·refine .bind (J4N h.2.1) λr n=>.some ⟨(⟨n.u,h.c.1,h.d.1,h.e.1,h.g.1,h.h.1,h.i.1,h.j.1,h.k.1,h.k.2.1,h.k.c.1,h.k.d.1,h.k.e.1,h.k.g.1,h.k.h.1,h.k.i.1,h.k.j.1,trivial,h.k.k.2.1,trivial,h.k.k.d⟩),om⟩
theorem JhW{B S:Int}{x1:TQ4}(h:Ty.fit B S (.pr J0R tq0) x1)(p0:J0 x1.2.2.2.2.2.2.2.2.2.2.2.2.2.2.2.2.2.2.2.2.1<=16000)(p1:J0 x1.2.2.2.2.2.2.2.2.2.2.2.2.2.2.2.2.2.2.2.2.2<=16000)(ad:BH B S:=by omega)(hB:B<=1000000:=by omega)(hS:S<=1000000000000:=by omega):Tot (J48 x1) λy=>Ty.fit B S JHO y/\(J0 y.2.2.2.2.2.2.2.2.2.2.2.2.2.2.2.2.2.2.2.2.1<=J0 x1.2.2.2.2.2.2.2.2.2.2.2.2.2.2.2.2.2.2.2.2.1+1/\J0 y.2.2.2.2.2.2.2.2.2.2.2.2.2.2.2.2.2.2.2.2.2<=J0 x1.2.2.2.2.2.2.2.2.2.2.2.2.2.2.2.2.2.2.2.2.2+1):=by
 unfold J48;have:=J3 (l:=x1.2.2.2.2.2.2.2.2.2.2.2.2.2.2.2.2.2.2.2.2.1);have:J0 x1.2.2.2.2.2.2.2.2.2.2.2.2.2.2.2.2.2.2.2.2.2=_:=Jj h.k.k.d;have E:Ty.fit 16000 S (.l (.i .i64)) x1.2.2.2.2.2.2.2.2.2.2.2.2.2.2.2.2.2.2.2.2.1:=⟨(by omega:J0 x1.2.2.2.2.2.2.2.2.2.2.2.2.2.2.2.2.2.2.2.2.1<=16000),λx hx=>h.k.k.c.1.2 x hx⟩;have D:Ty.fit 16000 S (.l J0v) x1.2.2.2.2.2.2.2.2.2.2.2.2.2.2.2.2.2.2.2.2.2:=⟨(by omega:J0 x1.2.2.2.2.2.2.2.2.2.2.2.2.2.2.2.2.2.2.2.2.2<=16000),λx hx=>h.k.k.e x hx⟩;refine .eq (λc8=>?_) λc8=>?_
 ·refine .bind (Jyb (B:=B) (S:=S) (⟨⟨h.2.1,h.c.1,⟨h.d.1,h.e.1,h.g.1⟩,⟨h.h.1,h.i.1,h.j.1⟩,⟨h.k.1,h.k.2.1⟩,h.k.c.1,h.k.d.1,h.k.e.1⟩,h.k.g.1,h.k.h.1,h.k.i.1,trivial,h.k.k.1⟩)) λy2 C=>.eq (λU=>?_) λU=>?_
  ·refine .bind (J0q (B:=16001) (Bl:=16000) (Bm:=1) (S:=S) (J0 x1.2.2.2.2.2.2.2.2.2.2.2.2.2.2.2.2.2.2.2.2.1) 1 E ((J0f (B:=1) (S:=0) (t:=(.i .i64)) oo C.2.1).u)) λy3 P=>.bind (J3b (B:=B) (S:=S) (⟨C.1,C.c,h.2.1,h.c.1,h.d.1,h.e.1,h.g.1,h.h.1,h.i.1,h.j.1,h.k.1,h.k.2.1,h.k.c.1,h.k.d.1,h.k.e.1,h.k.g.1,h.k.h.1,h.k.i.1,trivial,h.k.k.1,trivial,P.1.u,D.u⟩)) λO n=>?_;have:J0 O.2.2.2.2.2.2.2.2.2.2.2.2.2.2.2.2.2.2.2.2.2=_:=Jj n.1.k.k.d;have:J0 O.2.2.2.2.2.2.2.2.2.2.2.2.2.2.2.2.2.2.2.2.1=J0 y3/\J0 O.2.2.2.2.2.2.2.2.2.2.2.2.2.2.2.2.2.2.2.2.2=J0 x1.2.2.2.2.2.2.2.2.2.2.2.2.2.2.2.2.2.2.2.2.2:=n.2;exact .some ⟨(⟨⟨n.1.1.z.1,C.2.1,n.1.1.z.2.2.u⟩,n.1.2.1,n.1.c.1,n.1.d.1,n.1.e.1,n.1.g.1,n.1.h.1,n.1.i.1,n.1.j.1,n.1.k.1,n.1.k.2.1,n.1.k.c.1,n.1.k.d.1,n.1.k.e.1,n.1.k.g.1,n.1.k.h.1,n.1.k.i.1,trivial,n.1.k.k.1,trivial,n.1.k.k.c⟩),om⟩
  ·refine .bind (J3b (B:=B) (S:=S) (⟨C.1,C.c,h.2.1,h.c.1,h.d.1,h.e.1,h.g.1,h.h.1,h.i.1,h.j.1,h.k.1,h.k.2.1,h.k.c.1,h.k.d.1,h.k.e.1,h.k.g.1,h.k.h.1,h.k.i.1,trivial,h.k.k.1,trivial,E.u,D.u⟩)) λN o=>?_;have:J0 N.2.2.2.2.2.2.2.2.2.2.2.2.2.2.2.2.2.2.2.2.2=_:=Jj o.1.k.k.d;have:J0 N.2.2.2.2.2.2.2.2.2.2.2.2.2.2.2.2.2.2.2.2.1=J0 x1.2.2.2.2.2.2.2.2.2.2.2.2.2.2.2.2.2.2.2.2.1/\J0 N.2.2.2.2.2.2.2.2.2.2.2.2.2.2.2.2.2.2.2.2.2=J0 x1.2.2.2.2.2.2.2.2.2.2.2.2.2.2.2.2.2.2.2.2.2:=o.2;exact .some ⟨(⟨⟨o.1.1.z.1,C.2.1,o.1.1.z.2.2.u⟩,o.1.2.1,o.1.c.1,o.1.d.1,o.1.e.1,o.1.g.1,o.1.h.1,o.1.i.1,o.1.j.1,o.1.k.1,o.1.k.2.1,o.1.k.c.1,o.1.k.d.1,o.1.k.e.1,o.1.k.g.1,o.1.k.h.1,o.1.k.i.1,trivial,o.1.k.k.1,trivial,o.1.k.k.c⟩),om⟩
 ·refine .eq (λR=>?_) λR=>?_
  ·refine .bind (JjI (B:=B) (S:=S) (⟨h.1.z.u,h.2.1,h.c.1,h.d.1,h.e.1,h.g.1,h.h.1,h.i.1,h.j.1,h.k.1,h.k.2.1,h.k.c.1,h.k.d.1,h.k.e.1,h.k.g.1,h.k.h.1,h.k.i.1,trivial,h.k.k.1,trivial,E.u,D.u⟩) om om) λY w=>?_;have:J0 Y.2.2.2.2.2.2.2.2.2.2.2.2.2.2.2.2.2.2.2.2.1<=J0 x1.2.2.2.2.2.2.2.2.2.2.2.2.2.2.2.2.2.2.2.2.1+1/\J0 Y.2.2.2.2.2.2.2.2.2.2.2.2.2.2.2.2.2.2.2.2.2<=J0 x1.2.2.2.2.2.2.2.2.2.2.2.2.2.2.2.2.2.2.2.2.2+1:=w.2;exact .some ⟨(⟨w.1.1.z.u,w.1.2.1,w.1.c.1,w.1.d.1,w.1.e.1,w.1.g.1,w.1.h.1,w.1.i.1,w.1.j.1,w.1.k.1,w.1.k.2.1,w.1.k.c.1,w.1.k.d.1,w.1.k.e.1,w.1.k.g.1,w.1.k.h.1,w.1.k.i.1,trivial,w.1.k.k.1,trivial,w.1.k.k.c⟩),om⟩
  ·refine .eq (λa4=>?_) λa4=>?_
   ·refine .bind (Jxp (B:=B) (S:=S) (⟨⟨⟨h.2.1,h.c.1,⟨h.d.1,h.e.1,h.g.1⟩,⟨h.h.1,h.i.1,h.j.1⟩,⟨h.k.1,h.k.2.1⟩,h.k.c.1,h.k.d.1,h.k.e.1⟩,h.k.g.1,h.k.h.1,h.k.i.1,trivial,h.k.k.1⟩,h.1.z.2.2.1⟩)) λy7 J=>.bind (J3b (B:=B) (S:=S) (⟨J.1,J.2,h.2.1,h.c.1,h.d.1,h.e.1,h.g.1,h.h.1,h.i.1,h.j.1,h.k.1,h.k.2.1,h.k.c.1,h.k.d.1,h.k.e.1,h.k.g.1,h.k.h.1,h.k.i.1,trivial,h.k.k.1,trivial,E.u,D.u⟩)) λM q=>?_;have:J0 M.2.2.2.2.2.2.2.2.2.2.2.2.2.2.2.2.2.2.2.2.2=_:=Jj q.1.k.k.d;have:J0 M.2.2.2.2.2.2.2.2.2.2.2.2.2.2.2.2.2.2.2.2.1=J0 x1.2.2.2.2.2.2.2.2.2.2.2.2.2.2.2.2.2.2.2.2.1/\J0 M.2.2.2.2.2.2.2.2.2.2.2.2.2.2.2.2.2.2.2.2.2=J0 x1.2.2.2.2.2.2.2.2.2.2.2.2.2.2.2.2.2.2.2.2.2:=q.2;exact .some ⟨(⟨q.1.1.z.u,q.1.2.1,q.1.c.1,q.1.d.1,q.1.e.1,q.1.g.1,q.1.h.1,q.1.i.1,q.1.j.1,q.1.k.1,q.1.k.2.1,q.1.k.c.1,q.1.k.d.1,q.1.k.e.1,q.1.k.g.1,q.1.k.h.1,q.1.k.i.1,trivial,q.1.k.k.1,trivial,q.1.k.k.c⟩),om⟩
   ·refine .eq (λa0=>?_) λa0=>?_
    ·refine .bind (JoS (B:=B) (S:=S) (⟨⟨h.2.1,h.c.1,⟨h.d.1,h.e.1,h.g.1⟩,⟨h.h.1,h.i.1,h.j.1⟩,⟨h.k.1,h.k.2.1⟩,h.k.c.1,h.k.d.1,h.k.e.1⟩,h.k.g.1,h.k.h.1,h.k.i.1,trivial,h.k.k.1⟩)) λy9 L=>.bind (J3b (B:=B) (S:=S) (⟨L.1,L.c,h.2.1,h.c.1,h.d.1,h.e.1,h.g.1,h.h.1,h.i.1,h.j.1,h.k.1,h.k.2.1,h.k.c.1,h.k.d.1,h.k.e.1,h.k.g.1,h.k.h.1,h.k.i.1,trivial,h.k.k.1,trivial,E.u,D.u⟩)) λG r=>?_;have:J0 G.2.2.2.2.2.2.2.2.2.2.2.2.2.2.2.2.2.2.2.2.2=_:=Jj r.1.k.k.d;have:J0 G.2.2.2.2.2.2.2.2.2.2.2.2.2.2.2.2.2.2.2.2.1=J0 x1.2.2.2.2.2.2.2.2.2.2.2.2.2.2.2.2.2.2.2.2.1/\J0 G.2.2.2.2.2.2.2.2.2.2.2.2.2.2.2.2.2.2.2.2.2=J0 x1.2.2.2.2.2.2.2.2.2.2.2.2.2.2.2.2.2.2.2.2.2:=r.2;exact .some ⟨(⟨r.1.1.z.u,r.1.2.1,r.1.c.1,r.1.d.1,r.1.e.1,r.1.g.1,r.1.h.1,r.1.i.1,r.1.j.1,r.1.k.1,r.1.k.2.1,r.1.k.c.1,r.1.k.d.1,r.1.k.e.1,r.1.k.g.1,r.1.k.h.1,r.1.k.i.1,trivial,r.1.k.k.1,trivial,r.1.k.k.c⟩),om⟩
    ·refine .eq (λT=>?_) λT=>?_
     ·refine .bind (J7M (B:=B) (S:=S) (⟨h.d.1,h.e.1,h.g.1⟩)) λac a1=>.bind (J96 (B:=B) (S:=S) (⟨⟨h.d.1,h.e.1,h.g.1⟩,a1⟩)) λab F=>.eq (λV=>?_) λV=>?_
      ·refine .bind (J4N F.1.2) λa7 a2=>.some ⟨(⟨a2.u,h.2.1,h.c.1,F.1.1.1,F.1.1.2.1.u,F.1.1.c,h.h.1,h.i.1,h.j.1,h.k.1,h.k.2.1,h.k.c.1,h.k.d.1,h.k.e.1,h.k.g.1,h.k.h.1,h.k.i.1,trivial,h.k.k.1,trivial,E.u,D.u⟩),om⟩
      ·refine .bind (J4N F.1.2) λa9 Q=>.some ⟨(⟨Q.u,h.2.1,h.c.1,h.d.1,h.e.1,h.g.1,h.h.1,h.i.1,h.j.1,h.k.1,h.k.2.1,h.k.c.1,h.k.d.1,h.k.e.1,h.k.g.1,h.k.h.1,h.k.i.1,trivial,h.k.k.1,trivial,E.u,D.u⟩),om⟩
     ·refine .eq (λW=>?_) λW=>?_
      ·refine .bind (JgJ (B:=B) (S:=S) (⟨h.1.z.u,h.2.1,h.c.1,h.d.1,h.e.1,h.g.1,h.h.1,h.i.1,h.j.1,h.k.1,h.k.2.1,h.k.c.1,h.k.d.1,h.k.e.1,h.k.g.1,h.k.h.1,h.k.i.1,trivial,h.k.k.1,trivial,E.u,D.u⟩) om om) λK A=>?_;have:J0 K.2.2.2.2.2.2.2.2.2.2.2.2.2.2.2.2.2.2.2.2.1<=J0 x1.2.2.2.2.2.2.2.2.2.2.2.2.2.2.2.2.2.2.2.2.1+1/\J0 K.2.2.2.2.2.2.2.2.2.2.2.2.2.2.2.2.2.2.2.2.2<=J0 x1.2.2.2.2.2.2.2.2.2.2.2.2.2.2.2.2.2.2.2.2.2+1:=A.2;exact .some ⟨(⟨A.1.1.z.u,A.1.2.1,A.1.c.1,A.1.d.1,A.1.e.1,A.1.g.1,A.1.h.1,A.1.i.1,A.1.j.1,A.1.k.1,A.1.k.2.1,A.1.k.c.1,A.1.k.d.1,A.1.k.e.1,A.1.k.g.1,A.1.k.h.1,A.1.k.i.1,trivial,A.1.k.k.1,trivial,A.1.k.k.c⟩),om⟩
      ·refine .eq (λa3=>?_) λa3=>?_
       ·refine .bind (JCF (B:=B) (S:=S) (⟨⟨h.2.1,h.c.1,⟨h.d.1,h.e.1,h.g.1⟩,⟨h.h.1,h.i.1,h.j.1⟩,⟨h.k.1,h.k.2.1⟩,h.k.c.1,h.k.d.1,h.k.e.1⟩,h.k.g.1,h.k.h.1,h.k.i.1,trivial,h.k.k.1⟩)) λaa I=>.bind (J3b (B:=B) (S:=S) (⟨I.1,I.c,h.2.1,h.c.1,h.d.1,h.e.1,h.g.1,h.h.1,h.i.1,h.j.1,h.k.1,h.k.2.1,h.k.c.1,h.k.d.1,h.k.e.1,h.k.g.1,h.k.h.1,h.k.i.1,trivial,h.k.k.1,trivial,E.u,D.u⟩)) λH v=>?_;have:J0 H.2.2.2.2.2.2.2.2.2.2.2.2.2.2.2.2.2.2.2.2.2=_:=Jj v.1.k.k.d;have:J0 H.2.2.2.2.2.2.2.2.2.2.2.2.2.2.2.2.2.2.2.2.1=J0 x1.2.2.2.2.2.2.2.2.2.2.2.2.2.2.2.2.2.2.2.2.1/\J0 H.2.2.2.2.2.2.2.2.2.2.2.2.2.2.2.2.2.2.2.2.2=J0 x1.2.2.2.2.2.2.2.2.2.2.2.2.2.2.2.2.2.2.2.2.2:=v.2;exact .some ⟨(⟨v.1.1.z.u,v.1.2.1,v.1.c.1,v.1.d.1,v.1.e.1,v.1.g.1,v.1.h.1,v.1.i.1,v.1.j.1,v.1.k.1,v.1.k.2.1,v.1.k.c.1,v.1.k.d.1,v.1.k.e.1,v.1.k.g.1,v.1.k.h.1,v.1.k.i.1,trivial,v.1.k.k.1,trivial,v.1.k.k.c⟩),om⟩
       ·refine .bind (J06 (B:=0) (S:=0) (fkn 1)) λa8 Z=>.some ⟨(⟨Z.1.u,h.2.1,h.c.1,h.d.1,h.e.1,h.g.1,h.h.1,h.i.1,h.j.1,h.k.1,h.k.2.1,h.k.c.1,h.k.d.1,h.k.e.1,h.k.g.1,h.k.h.1,h.k.i.1,trivial,h.k.k.1,trivial,E.u,D.u⟩),om⟩
theorem JEo{B S:Int}{x1:Jw×(List J4C)}(h:Ty.fit B S (.pr Jk (.l J0R)) x1)(av:BH B S:=by omega)(hB:B<=1000000:=by omega)(hS:S<=1000000000000:=by omega):Tot (JbF x1) λy=>Ty.fit B S (.pr Jk (.pr (.l JZ) (.l J0v))) y:=by
 unfold JbF;refine Jb (τ:=Int×(List Int)×(List J6B)×Int×Int×Int×(List T_api_Entry)×Int×Int×(List J09)×Int×(List T_api_Grant)×(List T_api_Grant)×(List Ju)×(List T_api_Row)×(List T_api_Row)×(List (List UInt8))×Int×(List Int)×Bool×(List JO)×Bool×(List J0L)) (λq=>(x1.2,q.1,x1.1,((0,0,(0,[],0),(0,[],0),([],[]),[],[],[]),[],0,[],false,[]),q.2.1,q.2.2.1,q.2.2.2.1,q.2.2.2.2.1,q.2.2.2.2.2.1,q.2.2.2.2.2.2.1,q.2.2.2.2.2.2.2.1,q.2.2.2.2.2.2.2.2.1,q.2.2.2.2.2.2.2.2.2.1,q.2.2.2.2.2.2.2.2.2.2.1,q.2.2.2.2.2.2.2.2.2.2.2.1,q.2.2.2.2.2.2.2.2.2.2.2.2.1,q.2.2.2.2.2.2.2.2.2.2.2.2.2.1,q.2.2.2.2.2.2.2.2.2.2.2.2.2.2.1,q.2.2.2.2.2.2.2.2.2.2.2.2.2.2.2.1,q.2.2.2.2.2.2.2.2.2.2.2.2.2.2.2.2.1,q.2.2.2.2.2.2.2.2.2.2.2.2.2.2.2.2.2.1,q.2.2.2.2.2.2.2.2.2.2.2.2.2.2.2.2.2.2.1,q.2.2.2.2.2.2.2.2.2.2.2.2.2.2.2.2.2.2.2.1,q.2.2.2.2.2.2.2.2.2.2.2.2.2.2.2.2.2.2.2.2.1,q.2.2.2.2.2.2.2.2.2.2.2.2.2.2.2.2.2.2.2.2.2.1,q.2.2.2.2.2.2.2.2.2.2.2.2.2.2.2.2.2.2.2.2.2.2)) (λq=>Ty.fit 0 0 (.i .i64) q.1/\Ty.fit 1000 S (.l (.i .i64)) q.2.1/\Ty.fit 1000 S (.l J0v) q.2.2.1/\Ty.fit 0 0 (.i .i64) q.2.2.2.1/\Ty.fit 0 0 (.i .i64) q.2.2.2.2.1/\Ty.fit 0 0 (.i .i64) q.2.2.2.2.2.1/\Ty.fit B S (.l J4) q.2.2.2.2.2.2.1/\Ty.fit 0 0 (.i .i64) q.2.2.2.2.2.2.2.1/\Ty.fit 0 0 (.i .i64) q.2.2.2.2.2.2.2.2.1/\Ty.fit B S (.l J05) q.2.2.2.2.2.2.2.2.2.1/\Ty.fit 0 0 (.i .i64) q.2.2.2.2.2.2.2.2.2.2.1/\Ty.fit B S (.l J8) q.2.2.2.2.2.2.2.2.2.2.2.1/\Ty.fit B S (.l J8) q.2.2.2.2.2.2.2.2.2.2.2.2.1/\Ty.fit B S (.l Jl) q.2.2.2.2.2.2.2.2.2.2.2.2.2.1/\Ty.fit B S (.l Jc) q.2.2.2.2.2.2.2.2.2.2.2.2.2.2.1/\Ty.fit B S (.l Jc) q.2.2.2.2.2.2.2.2.2.2.2.2.2.2.2.1/\Ty.fit B S (.l .s) q.2.2.2.2.2.2.2.2.2.2.2.2.2.2.2.2.1/\Ty.fit 0 0 (.i .i64) q.2.2.2.2.2.2.2.2.2.2.2.2.2.2.2.2.2.1/\Ty.fit B S (.l (.i .i64)) q.2.2.2.2.2.2.2.2.2.2.2.2.2.2.2.2.2.2.1/\Ty.fit B S (.l JM) q.2.2.2.2.2.2.2.2.2.2.2.2.2.2.2.2.2.2.2.2.1/\Ty.fit 1000 S (.l JZ) q.2.2.2.2.2.2.2.2.2.2.2.2.2.2.2.2.2.2.2.2.2.2/\(0<=q.1)/\(q.1<=1000)/\(J0 q.2.1<=q.1)/\(J0 q.2.2.1<=q.1)/\(J0 q.2.2.2.2.2.2.2.2.2.2.2.2.2.2.2.2.2.2.2.2.2.2<=q.1)) (λq=>1001-q.1) ?_ (0,[],[],x1.1.1.1,x1.1.1.2.1,x1.1.1.2.2.1.1,x1.1.1.2.2.1.2.1,x1.1.1.2.2.1.2.2,x1.1.1.2.2.2.1.1,x1.1.1.2.2.2.1.2.1,x1.1.1.2.2.2.1.2.2,x1.1.1.2.2.2.2.1.1,x1.1.1.2.2.2.2.1.2,x1.1.1.2.2.2.2.2.1,x1.1.1.2.2.2.2.2.2.1,x1.1.1.2.2.2.2.2.2.2,x1.1.2.1,x1.1.2.2.1,x1.1.2.2.2.1,x1.1.2.2.2.2.1,x1.1.2.2.2.2.2,false,[]) rfl ?_
 ·rintro⟨O,A,w,an,ao,ap,aq,ac,ae,ak,am,af,ah,ai,a8,aa,al,aj,ag,a9,ab,ad,r⟩ Y;dsimp only at Y;obtain⟨i1,i2,N,V,Q,W,R,P,U,G,L,M,F,I,C,D,E,J,K,H,v,az,ax,ay,au,aw⟩:=Y;unfold Jl4
  try dsimp only
  have:J0 A<=1000:=i2.1;have:=J3 (l:=A);have:J0 w<=1000:=N.1;have:=J3 (l:=w);have:J0 w=_:=Jj N;have:J0 r<=1000:=v.1;have:=J3 (l:=r);have:J0 r=_:=Jj v;have:J0 x1.2=_:=Jj h.2;refine .lt (λa5=>?_) λa5=>?_
  ·refine .lt (λa3=>?_) λa3=>?_
   ·refine .not (λa4=>?_) λa4=>?_
    ·refine .bind (Jh h.2) λy3 a6=>.bind (JhW (B:=B) (S:=S) (⟨a6.1.z.u,V,Q,W,R,P,U,G,L,M,F,I,C,D,E,J,K,trivial,H,trivial,i2.u,N.u⟩) om om) λo n=>?_;have:J0 o.2.2.2.2.2.2.2.2.2.2.2.2.2.2.2.2.2.2.2.2.2=_:=Jj n.1.k.k.d;have:J0 o.2.2.2.2.2.2.2.2.2.2.2.2.2.2.2.2.2.2.2.2.1<=J0 A+1/\J0 o.2.2.2.2.2.2.2.2.2.2.2.2.2.2.2.2.2.2.2.2.2<=J0 w+1:=n.2;refine .bind (J0q (B:=1001) (Bl:=1000) (Bm:=1) (S:=S) (J0 r) 1 v (J0f (B:=1) (S:=S) (t:=JZ) oo (n.1.1.z.u))) λT Z=>?_;have a7:Ty.fit 1000 S (.l (.i .i64)) o.2.2.2.2.2.2.2.2.2.2.2.2.2.2.2.2.2.2.2.2.1:=⟨(by omega:J0 o.2.2.2.2.2.2.2.2.2.2.2.2.2.2.2.2.2.2.2.2.1<=1000),λx hx=>n.1.k.k.c.1.2 x hx⟩;have a2:Ty.fit 1000 S (.l J0v) o.2.2.2.2.2.2.2.2.2.2.2.2.2.2.2.2.2.2.2.2.2:=⟨(by omega:J0 o.2.2.2.2.2.2.2.2.2.2.2.2.2.2.2.2.2.2.2.2.2<=1000),λx hx=>n.1.k.k.e x hx⟩;have:J0 T=_:=Jj Z.1;have a1:Ty.fit 1000 S (.l JZ) T:=⟨(by omega:J0 T<=1000),λx hx=>Z.1.2 x hx⟩;have:=Jg O 1;exact .some ⟨(J1 .i64 O 1,o.2.2.2.2.2.2.2.2.2.2.2.2.2.2.2.2.2.2.2.2.1,o.2.2.2.2.2.2.2.2.2.2.2.2.2.2.2.2.2.2.2.2.2,o.2.1,o.2.2.1,o.2.2.2.1,o.2.2.2.2.1,o.2.2.2.2.2.1,o.2.2.2.2.2.2.1,o.2.2.2.2.2.2.2.1,o.2.2.2.2.2.2.2.2.1,o.2.2.2.2.2.2.2.2.2.1,o.2.2.2.2.2.2.2.2.2.2.1,o.2.2.2.2.2.2.2.2.2.2.2.1,o.2.2.2.2.2.2.2.2.2.2.2.2.1,o.2.2.2.2.2.2.2.2.2.2.2.2.2.1,o.2.2.2.2.2.2.2.2.2.2.2.2.2.2.1,o.2.2.2.2.2.2.2.2.2.2.2.2.2.2.2.1,o.2.2.2.2.2.2.2.2.2.2.2.2.2.2.2.2.1,o.2.2.2.2.2.2.2.2.2.2.2.2.2.2.2.2.2.1,o.2.2.2.2.2.2.2.2.2.2.2.2.2.2.2.2.2.2.1,o.2.2.2.2.2.2.2.2.2.2.2.2.2.2.2.2.2.2.2.1,T),rfl,⟨J5,a7,a2,n.1.2.1,n.1.c.1,n.1.d.1,n.1.e.1,n.1.g.1,n.1.h.1,n.1.i.1,n.1.j.1,n.1.k.1,n.1.k.2.1,n.1.k.c.1,n.1.k.d.1,n.1.k.e.1,n.1.k.g.1,n.1.k.h.1,n.1.k.i.1,n.1.k.k.1,a1,om,om,om,om,om⟩,om,om⟩
    ·exact .some (⟨⟨⟨V,Q,⟨W,R,P⟩,⟨U,G,L⟩,⟨M,F⟩,I,C,D⟩,E,J,K,trivial,H⟩,v.u,N.u⟩)
   ·exact .some (⟨⟨⟨V,Q,⟨W,R,P⟩,⟨U,G,L⟩,⟨M,F⟩,I,C,D⟩,E,J,K,trivial,H⟩,v.u,N.u⟩)
  ·exact .some (⟨⟨⟨V,Q,⟨W,R,P⟩,⟨U,G,L⟩,⟨M,F⟩,I,C,D⟩,E,J,K,trivial,H⟩,v.u,N.u⟩)
 ·try dsimp only
  exact⟨fk0,Ja,Ja,h.1.1.1,h.1.1.2.1,h.1.1.c.1.1,h.1.1.c.1.2.1,h.1.1.c.1.c,h.1.1.d.1.1,h.1.1.d.1.2.1,h.1.1.d.1.c,h.1.1.e.1.1,h.1.1.e.1.2,h.1.1.g.1,h.1.1.h.1,h.1.1.i,h.1.2.1,h.1.c.1,h.1.d.1,h.1.g,Ja,om,om,om,om,om⟩
theorem JjW{B S:Int}{x1:JIr}(h:Ty.fit B S JGR x1)(p0:0<=x1.2.2.2)(w:0<=x1.1)(q:x1.1<=1000)(o:BH B S:=by omega)(A:B<=1000000:=by omega)(z:S<=1000000000000:=by omega):Tot (J4z x1) λy=>Ty.fit B S (.pr Jk J6) y/\(0<=y.2.2):=by unfold J4z;refine .bind (Jo (B:=B) (S:=S) (⟨fkn 4,h.c⟩) om) λC h3=>?_;have:=J2.1 h3.1.c;refine .bind (Jo (B:=B) (S:=S) (⟨fkn 3,h3.1.2⟩) om) λr j=>?_;have:=J2.1 j.1.c;refine .bind (JE5 (B:=0) (S:=0) (⟨J5,J5⟩)) λx k=>.bind (JhX (B:=B) (S:=S) (⟨J5,h.1,trivial,j.1.2⟩) om om om) λn e=>?_;have:0<=n.2.2:=e.2;refine .bind (JEo (B:=B) (S:=S) (⟨k.1.u,e.1.1⟩)) λv g=>.some ⟨(⟨g.1,e.1.2⟩),om⟩
theorem Jmt{B S:Int}{x1:JIr}(h:Ty.fit B S JGR x1)(p0:0<=x1.2.2.2)(j:0<=x1.1)(n:x1.1<=1000)(g:BH B S:=by omega)(o:B<=1000000:=by omega)(k:S<=1000000000000:=by omega):Tot (J5d x1) λy=>Ty.fit B S (.pr J7 J6) y/\(0<=y.2.2):=by unfold J5d;refine .bind (JjW (B:=B) (S:=S) (⟨h.1,trivial,h.c⟩) om om om) λe h3=>?_;have:0<=e.2.2:=h3.2;exact .some ⟨(⟨h3.1.1.1,h3.1.2⟩),om⟩
theorem JHX{B S:Int}{x1:JaY}(h:Ty.fit B S tq9 x1)(p0:0<=x1.2.2)(n:0<=x1.1)(r:x1.1<=1000)(k:BH B S:=by omega)(v:B<=1000000:=by omega)(q:S<=1000000000000:=by omega):Tot (JcU x1) λy=>Ty.fit B S (.pr (.i .i64) (.pr JR J6)) y/\(0<=y.2.2.2):=by unfold JcU;refine .bind (Jmt (B:=B) (S:=S) (⟨h.1,trivial,h.2⟩) om om om) λj h3=>?_;have:0<=j.2.2:=h3.2;refine .bind (J7M h3.1.1.c.1) λo e=>.bind (J96 (B:=B) (S:=S) (⟨h3.1.1.c.1,e⟩)) λw g=>.some ⟨(⟨h3.1.1.1,g.1.1.u,h3.1.2⟩),om⟩
theorem J76{B S:Int}{x1:JL3}(h:Ty.fit B S JNy x1)(r:BS B S 0 0:=by omega):Tot (J0U x1) λy=>Ty.fit 0 0 (.i .i64) y:=by
 unfold J0U;have s0:Ty.fit 0 S JNy x1:=h;refine .ltf (λq=>?_) λq=>?_
 ·refine .eq (λo=>?_) λo=>?_
  ·have:=J2.1 s0.1.1;refine .lt (λn=>?_) λn=>?_
   ·exact .some (fkn (-1))
   ·refine .eq (λk=>?_) λk=>?_
    ·refine .eq (λj=>?_) λj=>?_
     ·exact .some fk0
     ·exact .some (fkn 1)
    ·exact .some (fkn 1)
  ·refine .eq (λe=>?_) λe=>?_
   ·have:=J2.1 s0.1.1;refine .eq (λg=>?_) λg=>?_
    ·exact .some fk0
    ·exact .some (fkn 1)
   ·exact .some (fkn 1)
 ·exact .some (fkn (-1))
theorem Jvf{B S:Int}{x1:(List T_api_Entry)×T_api_Entry}(h:Ty.fit B S (.pr (.l J4) J4) x1)(ai:BS B S 0 0:=by omega)(hB:B<=17179869183:=by omega):Tot (J3O x1) λy=>Ty.fit (2*B+1) S (.pr (.l J4) .b) y/\(J0 y.1<=J0 x1.1+1):=by
 unfold J3O;have:J0 x1.1<=B:=h.1.1;have:=J3 (l:=x1.1);have:J0 x1.1=_:=Jj h.1;refine Jb (τ:=Int) (λq=>(x1.1,q,x1.2)) (λq=>(Ty.fit 0 0 (.i .i64) q/\0<=q/\(q<=J0 x1.1\/q<=0))) (λq=>J0 x1.1-q) ?_ 0 rfl ?_
 ·rintro v ⟨i4,w5,z6⟩;unfold J9j
  try dsimp only
  have:=J2.1 i4;refine .lt (λc7=>?_) λc7=>?_
  ·refine .bind (Jh h.1) λy3 O=>.bind (J76 (B:=0) (S:=S) (⟨O.1.z,h.2.z⟩)) λy4 a8=>.lt (λL=>?_) λL=>?_
   ·have:=Jg v 1;exact .some ⟨J1 .i64 v 1,rfl,⟨J5,om,om⟩,om,om⟩
   ·refine .inr ?_;refine .lt (λJ=>?_) λJ=>?_
    ·refine .bind (Jh h.1) λy5 a2=>.bind (J76 (B:=0) (S:=S) (⟨a2.1.z,h.2.z⟩)) λy6 ab=>.eq (λa4=>?_) λa4=>?_
     ·refine .bind (Jh h.1) λy7 aa=>.some ⟨(⟨h.1.u,trivial⟩),om⟩
     ·refine .bind (J5M h.1) λH g=>.clo g.1 oo (by decide) ?_;have:J0 H<=B:=g.1.1;have:J0 H=_:=Jj g.1;refine .bind (J0q (B:=(B+1)) (Bl:=B) (Bm:=1) (S:=S) (J0 H) 1 g.1 (J0f (B:=1) (S:=S) (t:=J4) oo (h.2.z.u))) λx E=>.bind (J3i h.1) λr o=>?_;have:J0 x=_:=Jj E.1;have:J0 r<=B:=o.1.1;have:J0 r=_:=Jj o.1;refine .bind (J0q (B:=(2*B+1)) (Bl:=(B+1)) (Bm:=B) (S:=S) (J0 x) (J0 r) E.1 o.1) λY A=>?_;have:J0 Y=_:=Jj A.1;exact .some ⟨(⟨A.1,trivial⟩),om⟩
    ·refine .bind (J5M h.1) λK F=>.clo F.1 oo (by decide) ?_;refine .bind (J0q (B:=(B+1)) (Bl:=B) (Bm:=1) (S:=S) (J0 K) 1 F.1 (J0f (B:=1) (S:=S) (t:=J4) oo (h.2.z.u))) λQ W=>.bind (J3i h.1) λV a5=>.bind (J0q (B:=(2*B+1)) (Bl:=(B+1)) (Bm:=B) (S:=S) (J0 Q) (J0 V) W.1 a5.1) λae a0=>.some ⟨(⟨a0.1,trivial⟩),om⟩
  ·refine .inr ?_;refine .lt (λT=>?_) λT=>?_
   ·refine .bind (Jh h.1) λaf a1=>.bind (J76 (B:=0) (S:=S) (⟨a1.1.z,h.2.z⟩)) λah ad=>.eq (λP=>?_) λP=>?_
    ·refine .bind (Jh h.1) λag a9=>.some ⟨(⟨h.1.u,trivial⟩),om⟩
    ·refine .bind (J5M h.1) λM D=>.clo D.1 oo (by decide) ?_;refine .bind (J0q (B:=(B+1)) (Bl:=B) (Bm:=1) (S:=S) (J0 M) 1 D.1 (J0f (B:=1) (S:=S) (t:=J4) oo (h.2.z.u))) λR I=>.bind (J3i h.1) λN U=>.bind (J0q (B:=(2*B+1)) (Bl:=(B+1)) (Bm:=B) (S:=S) (J0 R) (J0 N) I.1 U.1) λac a3=>.some ⟨(⟨a3.1,trivial⟩),om⟩
   ·refine .bind (J5M h.1) λj e=>.clo e.1 oo (by decide) ?_;have:J0 j<=B:=e.1.1;have:J0 j=_:=Jj e.1;refine .bind (J0q (B:=(B+1)) (Bl:=B) (Bm:=1) (S:=S) (J0 j) 1 e.1 (J0f (B:=1) (S:=S) (t:=J4) oo (h.2.z.u))) λG C=>.bind (J3i h.1) λw k=>?_;have:J0 G=_:=Jj C.1;have:=J3 (l:=w);have:J0 w=_:=Jj k.1;refine .bind (J0q (B:=(2*B+1)) (Bl:=(B+1)) (Bm:=B) (S:=S) (J0 G) (J0 w) C.1 k.1) λZ n=>?_;have:J0 Z=_:=Jj n.1;exact .some ⟨(⟨n.1,trivial⟩),om⟩
 ·try dsimp only
  exact⟨fk0,oo,oo⟩
theorem JeG{B S:Int}{x1:Int×Int×T_api_Row}(h:Ty.fit B S (.pr (.i .i64) (.pr (.i .i64) Jc)) x1)(v:BS B S 0 0:=by omega):Tot (J27 x1) λy=>Ty.fit 0 0 .b y:=by
 unfold J27;refine .ge (λr=>?_) λr=>?_
 ·have:=J2.1 h.2.1;refine .le (λk=>?_) λk=>?_
  ·refine .le (λq=>?_) λq=>?_
   ·have:=J2.1 h.c.1;refine .ge (λo=>?_) λo=>?_
    ·have:=J2.1 h.d.1;refine .le (λn=>?_) λn=>?_
     ·refine .lt (λg=>?_) λg=>?_
      ·have:=J2.1 h.e;refine .ge (λj=>?_) λj=>?_
       ·exact .some trivial
       ·exact .some trivial
      ·exact .some trivial
     ·exact .some trivial
    ·exact .some trivial
   ·exact .some trivial
  ·exact .some trivial
 ·exact .some trivial
theorem Jkj{B S:Int}{x1:Jm}(h:Ty.fit B S JU x1)(a3:BS B S 0 0:=by omega)(hB:B<=9223372036854775807:=by omega):Tot (J10 x1) λy=>Ty.fit 0 0 .b y:=by
 unfold J10;refine .bind (JeG (B:=0) (S:=0) (⟨h.1,h.2.1,h.c.1,h.d.1,h.e.1⟩)) λy2 h1=>.nof (λW=>?_) λW=>?_
 ·have:J0 x1.2.2.2.2.2<=B:=h.g.1;have:=J3 (l:=x1.2.2.2.2.2);have:J0 x1.2.2.2.2.2=_:=Jj h.g;refine .gt (λY=>?_) λY=>?_
  ·exact .some trivial
  ·refine Jb (τ:=Int) (λq=>(q,x1)) (λq=>(Ty.fit 0 0 (.i .i64) q/\0<=q/\(q<=J0 x1.2.2.2.2.2\/q<=0))) (λq=>J0 x1.2.2.2.2.2-q) ?_ 0 rfl ?_
   ·rintro j ⟨V,w8,z9⟩;unfold J7g
    try dsimp only
    have:=J2.1 V;refine .lt (λL=>?_) λL=>?_
    ·refine .bind (Jh h.g) λr n=>.bind ((J2D (B:=0) (S:=S) (x1:=r) n.1.z).eqn) λy5 w=>.nof (λk=>?_) λk=>?_
     ·have E:=J2g (x:=r) n.1.z w.2 k;have o:Ty.fit 0 8192 J4 r:=E.2;refine .bind (J1I o) λy6 a5=>.nof (λA=>?_) λA=>?_
      ·have:=J2.1 h.1;refine .ltf (λO=>?_) λO=>?_
       ·have:=J2.1 h.2.1;refine .gtf (λC=>?_) λC=>?_
        ·have:=J2.1 h.c.1;refine .ltf (λM=>?_) λM=>?_
         ·have:=J2.1 h.d.1;refine .gt (λT=>?_) λT=>?_
          ·exact .some trivial
          ·refine .gt (λN=>?_) λN=>?_
           ·have:=J0H j 1;refine .bind (Jh h.g) λy7 K=>.bind (J76 (B:=0) (S:=(S+8192)) (⟨K.1.z.u,o.u⟩)) λy8 a6=>.ge (λQ=>?_) λQ=>?_
            ·exact .some trivial
            ·refine .gt (λD=>?_) λD=>?_
             ·refine .bind (Jh h.g) λy9 a0=>.eq (λv=>?_) λv=>?_
              ·refine .bind (Jh h.g) λa1 a2=>.ne (λG=>?_) λG=>?_
               ·exact .some trivial
               ·have:=Jg j 1;exact .some ⟨J1 .i64 j 1,rfl,⟨J5,om,om⟩,om,om⟩
              ·refine .ge (λU=>?_) λU=>?_
               ·exact .some trivial
               ·have:=Jg j 1;exact .some ⟨J1 .i64 j 1,rfl,⟨J5,om,om⟩,om,om⟩
             ·refine .ge (λH=>?_) λH=>?_
              ·exact .some trivial
              ·have:=Jg j 1;exact .some ⟨J1 .i64 j 1,rfl,⟨J5,om,om⟩,om,om⟩
           ·refine .gt (λP=>?_) λP=>?_
            ·have:=J0H j 1;refine .bind (Jh h.g) λa8 Z=>.eq (λF=>?_) λF=>?_
             ·refine .bind (Jh h.g) λa4 a7=>.ne (λJ=>?_) λJ=>?_
              ·exact .some trivial
              ·have:=Jg j 1;exact .some ⟨J1 .i64 j 1,rfl,⟨J5,om,om⟩,om,om⟩
             ·refine .ge (λI=>?_) λI=>?_
              ·exact .some trivial
              ·have:=Jg j 1;exact .some ⟨J1 .i64 j 1,rfl,⟨J5,om,om⟩,om,om⟩
            ·refine .ge (λR=>?_) λR=>?_
             ·exact .some trivial
             ·have:=Jg j 1;exact .some ⟨J1 .i64 j 1,rfl,⟨J5,om,om⟩,om,om⟩
         ·exact .some trivial
        ·exact .some trivial
       ·exact .some trivial
      ·exact .some trivial
     ·exact .some trivial
    ·exact .some trivial
   ·try dsimp only
    exact⟨fk0,oo,oo⟩
 ·exact .some trivial
theorem JdL{B S:Int}{x1:JOg}(h:Ty.fit B S (.pr (.l J4) (.pr (.i .i64) (.pr (.i .i64) Jc))) x1)(af:BS B S 0 0:=by omega)(hB:B<=17179869183:=by omega):Tot (J69 x1) λy=>Ty.fit B S JQa y:=by
 unfold J69;refine .bind (JeG (B:=0) (S:=0) (h.2)) λy2 h1=>.not (λc2=>?_) λc2=>?_
 ·exact .some (⟨fzr,fkn 1⟩)
 ·have:J0 x1.1<=B:=h.1.1;have:=J3 (l:=x1.1);have:J0 x1.1=_:=Jj h.1;refine Jb (τ:=Int) (λq=>(x1.1,x1.2.1,x1.2.2.1,x1.2.2.2.1,x1.2.2.2.2.1,x1.2.2.2.2.2,q,0,0,0,0,0,[])) (λq=>(Ty.fit 0 0 (.i .i64) q/\0<=q/\(q<=J0 x1.1\/q<=0))) (λq=>J0 x1.1-q) ?_ 0 rfl ?_
  ·rintro C ⟨i6,w7,z8⟩;unfold Jhg
   try dsimp only
   have:=J2.1 i6;have:=J3 (l:=x1.1);refine .lt (λc9=>?_) λc9=>?_
   ·refine .bind (Jh h.1) λU D=>.bind ((J2D (B:=0) (S:=S) (x1:=U) D.1.z).eqn) λy5 N=>.not (λG=>?_) λG=>?_
    ·exact .some (⟨fzr,fkn 12⟩)
    ·have ak:=J2g (x:=U) D.1.z N.2 G;have:=Jg C 1;exact .some ⟨J1 .i64 C 1,rfl,⟨J5,om,om⟩,om,om⟩
   ·refine .inr ?_;refine Jb (τ:=Bool×Int×Jm) (λq=>(x1.1,x1.2.1,x1.2.2.1,x1.2.2.2.1,x1.2.2.2.2.1,q.1,q.2.1,(0,0,0,0,0,[]),q.2.2)) (λq=>Ty.fit 0 0 (.i .i64) q.2.1/\Ty.fit B S JU q.2.2/\(0<=q.2.1)/\(q.2.1<=J0 x1.1)/\(J0 q.2.2.2.2.2.2.2<=q.2.1)) (λq=>J0 x1.1-q.2.1) ?_ (false,0,(x1.2.1,x1.2.2.1,x1.2.2.2.1,x1.2.2.2.2.1,x1.2.2.2.2.2,[])) rfl ?_
    ·rintro⟨o,n,j⟩ E;dsimp only at E;obtain⟨a2,k,al,a9,ab⟩:=E;unfold JiU
     try dsimp only
     have:=J2.1 a2;have:J0 j.2.2.2.2.2<=B:=k.2.2.2.2.2.1;have:=J3 (l:=j.2.2.2.2.2);have:J0 j.2.2.2.2.2=_:=Jj k.2.2.2.2.2;refine .lt (λP=>?_) λP=>?_
     ·refine .bind (Jh h.1) λI w=>.bind (J1I (B:=0) (S:=S) w.1.z) λy8 ac=>.nof (λL=>?_) λL=>?_
      ·have:=J2.1 w.1.z.2.2.2.2.2.2.1.1;refine .ltf (λW=>?_) λW=>?_
       ·have:=J2.1 h.e.1;refine .gtf (λO=>?_) λO=>?_
        ·have:=J2.1 w.1.z.1;refine .ltf (λR=>?_) λR=>?_
         ·have:=J2.1 h.c.1;refine .gt (λV=>?_) λV=>?_
          ·have am:Ty.fit B S (.l J4) j.2.2.2.2.2:=⟨(by omega:J0 j.2.2.2.2.2<=B),λx hx=>k.2.2.2.2.2.2 x hx⟩;have:=Jg n 1;exact .some ⟨(o,J1 .i64 n 1,j),rfl,⟨J5,k,om,om,om⟩,om,om⟩
          ·refine Jb (τ:=Bool×Int) (λq=>(x1.1,x1.2.1,x1.2.2.1,x1.2.2.2.1,x1.2.2.2.2.1,q.1,n,q.2,(0,0,0,0,0,[]),j,I)) (λq=>(Ty.fit 0 0 (.i .i64) q.2/\0<=q.2/\(q.2<=J0 j.2.2.2.2.2\/q.2<=0))) (λq=>J0 j.2.2.2.2.2-q.2) ?_ (o,0) rfl ?_
           ·rintro⟨H,r⟩ F;dsimp only at F;obtain⟨T,an,aj⟩:=F;unfold Jh3
            try dsimp only
            have:=J2.1 T;refine .lt (λQ=>?_) λQ=>?_
            ·refine .itf (λM=>?_) λM=>?_
             ·refine .bind (Jh k.2.2.2.2.2) λa6 ad=>.eq (λa1=>?_) λa1=>?_
              ·refine .bind (Jh k.2.2.2.2.2) λa0 ai=>?_;have:=Jg r 1;exact .some ⟨(Jq (eqT J4 a0 I),J1 .i64 r 1),rfl,⟨J5,om,om⟩,om,om⟩
              ·have:=Jg r 1;exact .some ⟨(false,J1 .i64 r 1),rfl,⟨J5,om,om⟩,om,om⟩
             ·have:=Jg r 1;exact .some ⟨(true,J1 .i64 r 1),rfl,⟨J5,om,om⟩,om,om⟩
            ·refine .inr ?_;refine .bind (Jvf (B:=B) (S:=S) (⟨k.2.2.2.2.2,w.1.z.u⟩)) λv A=>?_;have:J0 v.1=_:=Jj A.1.1;have:J0 v.1<=J0 j.2.2.2.2.2+1:=A.2;have K:Ty.fit B S (.l J4) v.1:=⟨(by omega:J0 v.1<=B),λx hx=>A.1.1.2 x hx⟩;have:=Jg n 1;exact .some ⟨(H,J1 .i64 n 1,(j.1,j.2.1,j.2.2.1,j.2.2.2.1,j.2.2.2.2.1,v.1)),rfl,⟨J5,⟨k.1,k.2.1,k.2.2.1,k.2.2.2.1,k.2.2.2.2.1,K⟩,om,om,om⟩,om,om⟩
           ·try dsimp only
            exact⟨fk0,oo,oo⟩
         ·have ag:Ty.fit B S (.l J4) j.2.2.2.2.2:=⟨(by omega:J0 j.2.2.2.2.2<=B),λx hx=>k.2.2.2.2.2.2 x hx⟩;have:=Jg n 1;exact .some ⟨(o,J1 .i64 n 1,j),rfl,⟨J5,k,om,om,om⟩,om,om⟩
        ·have aa:Ty.fit B S (.l J4) j.2.2.2.2.2:=⟨(by omega:J0 j.2.2.2.2.2<=B),λx hx=>k.2.2.2.2.2.2 x hx⟩;have:=Jg n 1;exact .some ⟨(o,J1 .i64 n 1,j),rfl,⟨J5,k,om,om,om⟩,om,om⟩
       ·have ah:Ty.fit B S (.l J4) j.2.2.2.2.2:=⟨(by omega:J0 j.2.2.2.2.2<=B),λx hx=>k.2.2.2.2.2.2 x hx⟩;have:=Jg n 1;exact .some ⟨(o,J1 .i64 n 1,j),rfl,⟨J5,k,om,om,om⟩,om,om⟩
      ·have ae:Ty.fit B S (.l J4) j.2.2.2.2.2:=⟨(by omega:J0 j.2.2.2.2.2<=B),λx hx=>k.2.2.2.2.2.2 x hx⟩;have:=Jg n 1;exact .some ⟨(o,J1 .i64 n 1,j),rfl,⟨J5,k,om,om,om⟩,om,om⟩
     ·refine .inr ?_;refine .ite (λZ=>?_) λZ=>?_
      ·exact .some (⟨fzr,fkn 41⟩)
      ·refine .gt (λY=>?_) λY=>?_
       ·exact .some (⟨fzr,fkn 21⟩)
       ·refine .bind (Jkj k) λa8 a7=>.not (λJ=>?_) λJ=>?_
        ·exact .some (⟨fzr,fkn 13⟩)
        ·exact .some (⟨k,fk0⟩)
    ·try dsimp only
     exact⟨fk0,⟨h.2.1,h.c.1,h.d.1,h.e.1,h.g,Ja⟩,om,om,om⟩
  ·try dsimp only
   exact⟨fk0,oo,oo⟩
theorem Jz1{B S:Int}{x1:Jz}(h:Ty.fit B S J6 x1)(p0:0<=x1.2)(C:BH B S:=by omega)(L:B<=1000000:=by omega)(K:S<=1000000000000:=by omega):Tot (J8X x1) λy=>Ty.fit B S (.pr JU (.pr JU (.pr JU J6))) y/\(0<=y.2.2.2.2):=by unfold J8X;refine .bind (JHX (B:=B) (S:=S) (⟨fkn 30,h⟩) om om om) λw h2=>?_;have:0<=w.2.2.2:=h2.2;refine .bind (Jo (B:=B) (S:=S) (⟨fkn 3,h2.1.c⟩) om) λE h5=>?_;have:=J2.1 h5.1.c;refine .bind (Jo (B:=B) (S:=S) (⟨fkn 4,h5.1.2⟩) om) λJ v=>?_;have:=J2.1 v.1.c;refine .bind (Jo (B:=B) (S:=S) (⟨fkn 15,v.1.2⟩) om) λG k=>?_;have:=J2.1 k.1.c;refine .bind (Jo (B:=B) (S:=S) (⟨fkn 15,k.1.2⟩) om) λH n=>?_;have:=J2.1 n.1.c;refine .bind (Jo (B:=B) (S:=S) (⟨fkn 3,n.1.2⟩) om) λD e=>?_;have:=J2.1 e.1.c;refine .bind (JdL (B:=B) (S:=S) (⟨h2.1.2.1.2.1,fkn 1,J5,h5.1.1,J5,e.1.1⟩)) λF q=>.bind (Jo (B:=B) (S:=S) (⟨fkn 3,e.1.2⟩) om) λI g=>?_;have:=J2.1 g.1.c;refine .bind (JdL (B:=B) (S:=S) (⟨h2.1.2.1.2.1,J5,J5,h5.1.1,J5,g.1.1⟩)) λx r=>.bind (Jo (B:=B) (S:=S) (⟨fkn 9,g.1.2⟩) om) λA j=>?_;have:=J2.1 j.1.c;refine .bind (JdL (B:=B) (S:=S) (⟨h2.1.2.1.2.1,J5,J5,h5.1.1,J5,j.1.1⟩)) λz o=>.some ⟨(⟨q.1,r.1,o.1,j.1.2⟩),om⟩
end Go.Am
end
section
namespace Go.Am
section
variable (P:Program)
def Ja8:Nat->TypeId->Bool
 |0,_=>false
 |n+1,t=>match P.underlying t with
  |some .bool=>true
  |some (.int _)=>true
  |some .string=>true
  |some (.slice e)=>Ja8 n e&&decide (t<P.types.size/\0<P.cellsOf e)
  |some (.struct fs)=>fs.toList.all (λf=>Ja8 n f.type)&&decide (t<P.types.size)
  |some (.array _ e)=>Ja8 n e&&decide (t<P.types.size)
  |_=>false
def J5e:Nat->TypeId->List PV->Prop
 |0,_,_=>False
 |n+1,t,pvs=>match P.underlying t with
  |some .bool=> ∃b,pvs=[.b b]
  |some (.int k)=> ∃z,pvs=[.i k z]/\(Lit.int k z).wf=true
  |some .string=> ∃l,pvs=[.s l]/\l.length<=maxLen
  |some (.slice e)=> ∃rows,pvs=[.sl (P.cellsOf e) rows]/\rows.length<=maxLen/\ ∀row∈rows,row.length=P.cellsOf e/\J5e n e row
  |some (.struct fs)=>pvs.length=P.cellsOf t/\ ∀f∈fs.toList,J5e n f.type ((pvs.drop f.offset).take (P.cellsOf f.type))
  |some (.array m e)=>pvs.length=P.cellsOf t/\ ∀i,i<m->J5e n e ((pvs.drop (i*P.cellsOf e)).take (P.cellsOf e))
  |_=>False
end
section
variable {H:Type} {enc:TypeId×Value->H} {P:Program} {w:World} {base:Nat} {sp:Nat->Bool} {held:Bool}
def JHh(w:World)(pvs:List PV)(cs:List Value):Prop:=pvs.length=cs.length/\ ∀(i:Nat) p v,pvs[i]?=some p->cs[i]?=some v->J0p w (λr _=>r<w.heap.size) p v
theorem JwZ{a:Addr}{v:Value}(h:w.cell? a=some v):a.spot=none/\J0B w a.block a.off=some v/\a.block<w.heap.size:=by
 unfold World.cell? at h;unfold J0B;split at h
 ·rename_i c t fz hb;split at h
  ·cases h
  ·rename_i hs;refine⟨by simpa using hs,by rw[hb];exact h,?_⟩;have:=JH0.1 hb;exact this.1
 ·cases h
theorem JKB{a:Addr}{n:Nat}{cs:List Value}(h:w.cells? base a n=some cs):cs.length=n/\ ∀i v,cs[i]?=some v->w.cell? (a.add i)=some v:=by
 unfold World.cells? at h;split at h
 ·have hl:=mapM_some_length h;refine⟨by simpa using hl,λi v hv=>?_⟩;have hi:i<n:=by have:=(J5f.1 hv).1;simp at hl;omega
  have:=mapM_some_get h i i (by simp[hi]);rw[this,hv]
 ·cases h
theorem Jtq{α:Type}(Q:Nat->α->Prop): ∀(m:Nat),(∀i,i<m-> ∃x,Q i x)-> ∃xs:List α,xs.length=m/\ ∀i x,xs[i]?=some x->Q i x
 |0,_=>⟨[],rfl,λi x h=>by simp at h⟩
 |m+1,h=>by
  obtain⟨xs,hl,hx⟩:=Jtq Q m (λi hi=>h i (by omega));obtain⟨y,hy⟩:=h m (by omega);refine⟨xs++[y],by simp[hl],λi x hi=>?_⟩;rcases zQ1 i xs.length with g|e
  ·rw[J6Z g]at hi;exact hx i x hi
  ·rw[J6Y e]at hi;have:i-xs.length=0:=by have:=(J5f.1 hi).1;simp at this;omega
   rw[this]at hi;simp at hi;subst hi;obtain rfl:i=m:=by omega
   exact hy
theorem JnR{α:Type}: ∀(xs:List (List α)) (j:Nat) (y:List α),xs[j]?=some y->(xs.flatten.drop ((xs.take j).map List.length).sum).take y.length=y
 |[],j,y,h=>by simp at h
 |x::xs,0,y,h=>by simp at h;subst h;simp
 |x::xs,j+1,y,h=>by
  simp at h;have:=JnR xs j y h;simp only[JHV,J0I,List.sum_cons,J8u,JLD];exact this
theorem JMC(hl:laidOutB P=true)(hm:mapsRowed P=true): ∀(n:Nat) (t:TypeId) (cs:List Value) (x:DataW H×List MemPlace) (S:Nat),Ja8 P n t=true->DataW.trod enc P w base sp held S t cs=some x->
  ∃pvs,J5e P n t pvs/\JHh w pvs cs:=by
 have K:=kids_rows hl hm;intro n
 induction n with
 |zero=>intro t cs x S hp;simp[Ja8]at hp
 |succ n ih=>
  intro t cs x S hp h;unfold Ja8 at hp;unfold J5e;split at hp
  ·rename_i C;obtain⟨b,rfl,_⟩:=DataW.trod_bool C h;refine⟨[.b b],by simp,rfl,λi p v h1 h2=>?_⟩
   match i with
   |0=>simp at h1 h2;subst h1 h2;exact .b _
   |i+1=>simp at h1
  ·rename_i k C;obtain⟨z,rfl,_,ak⟩:=DataW.trod_int C h;refine⟨[.i k z],by simpa using ak,rfl,λi p v h1 h2=>?_⟩
   match i with
   |0=>simp at h1 h2;subst h1 h2;exact .i _ _
   |i+1=>simp at h1
  ·rename_i C;obtain⟨s,rfl,_,ag⟩:=DataW.trod_string C h;refine⟨[.s s.data.toList],⟨_,rfl,by rw[Array.length_toList];exact ag⟩,rfl,λi p v h1 h2=>?_⟩
   match i with
   |0=>simp at h1 h2;subst h1 h2;exact .s _
   |i+1=>simp at h1
  ·rename_i e C;simp only[JY,decide_eq_true_eq]at hp;rcases DataW.trod_slice C h with⟨rfl,_⟩|⟨a,len,cap,a6,rest,n0,_,rfl,_,_,av,hcm,aw,O,_⟩
   ·refine⟨[.sl (P.cellsOf e) []],⟨[],rfl,zQ5 _,by simp⟩,rfl,λi p v h1 h2=>?_⟩
    match i with
    |0=>simp at h1 h2;subst h1 h2;exact .sl0 _ _ _
    |i+1=>simp at h1
   ·
    have ad: ∀i,i<len-> ∃row:List PV,(row.length=P.cellsOf e/\J5e P n e row)/\ ∀j p,row[j]?=some p-> ∃v,w.cell? (a.add (i*P.cellsOf e)|>.add j)=some v/\J0p w (λr _=>r<w.heap.size) p v:=by
     intro i hi;have h1:=O i hi;have h2: ∃y,a6[i]?=some y:=⟨_,JF (by omega)⟩;obtain⟨y,hy⟩:=h2;rw[hy,J2s]at h1;obtain⟨cs',hc,af⟩:=h1;obtain⟨row,q1,q2,q3⟩:=ih e cs' y n0 hp.1 af;obtain⟨c1,c2⟩:=JKB hc;refine⟨row,⟨by omega,q1⟩,λj p hj=>?_⟩;have M:j<cs'.length:=by have:=(J5f.1 hj).1;omega
     have hv:=JF M;exact⟨_,c2 j _ hv,q3 j p _ hj hv⟩
    obtain⟨rows,aj,B⟩:=Jtq _ len ad;refine⟨[.sl (P.cellsOf e) rows],⟨rows,rfl,by omega,λrow hr=>?_⟩,rfl,λi p v h1 h2=>?_⟩
    ·obtain⟨i,hi⟩:=J6x hr;exact(B i row hi).1
    match i with
    |i+1=>simp at h1
    |0=>
     simp at h1 h2;subst h1 h2;by_cases h0: ∃(i j:Nat) (row:List PV) (p:PV),rows[i]?=some row/\row[j]?=some p
     ·obtain⟨i0,j0,aa,p0,a8,ao⟩:=h0;have Y:a.spot=none\/P.cellsOf e=0:=by
       rcases JAO (P.cellsOf e)with hz|ab
       ·exact .inr hz
       ·have hlen:0<len:=by have:=(J5f.1 a8).1;omega
        have I:=JF (l:=rows) (i:=0) (by omega);have q:=B 0 _ I;have ah:=JF (l:=rows[0]'(by omega)) (i:=0) (by omega);obtain⟨v,hv,_⟩:=q.2 0 _ ah;rw[Jr5]at hv;exact .inl (by simpa[Addr.add]using(JwZ hv).1)
      rcases Y with Y|hz
      ·have cell: ∀(i j:Nat) (row:List PV) (p:PV),rows[i]?=some row->row[j]?=some p-> ∃v,(a.block<w.heap.size/\J0B w a.block (a.off+i*P.cellsOf e+j)=some v)/\J0p w (λr _=>r<w.heap.size) p v:=by
        intro i j row p hi hj;obtain⟨v,hv,hr⟩:=(B i row hi).2 j p hj;obtain⟨s1,s2,s3⟩:=JwZ hv;refine⟨v,?_,hr⟩;have e1:((a.add (i*P.cellsOf e)).add j).block=a.block:=by unfold Addr.add;split<;>split<;>rfl
        have e2:((a.add (i*P.cellsOf e)).add j).off=a.off+i*P.cellsOf e+j:=by unfold Addr.add;split<;>split<;>simp_all
        rw[e1]at s3;rw[e1,e2]at s2;exact⟨s3,s2⟩
       have ea:a=⟨a.block,a.off,none⟩:=by cases a;simp_all
       rw[ea,<-aj];refine .sl _ rows a.block a.off cap (λi j=>((J0B w a.block (a.off+i*P.cellsOf e+j)).getD default)) (by omega) (λrow hr=>?_) (λi j row p hi hj=>?_) (λi j row p hi hj=>?_)
       ·obtain⟨i,hi⟩:=J6x hr;exact(B i row hi).1.1
       ·obtain⟨v,⟨h3,h4⟩,_⟩:=cell i j row p hi hj;exact⟨h3,by rw[h4];rfl⟩
       ·obtain⟨v,⟨h3,h4⟩,h5⟩:=cell i j row p hi hj;rw[h4];exact h5
      ·have:=(B i0 aa a8).1.1;have:=(J5f.1 ao).1;omega
     ·
      rcases JAO len with hz|ab
      ·have:rows=[]:=by cases rows<;>simp_all
       subst this;subst hz;exact .sl0 _ _ _
      ·exfalso;have I:=JF (l:=rows) (i:=0) (by omega);have q:=(B 0 _ I).1.1;exact h0 ⟨0,0,_,_,I,JF (by omega)⟩
  ·rename_i fs C;simp only[JY,decide_eq_true_eq,Jre]at hp;obtain⟨xs,n0,_,_,Q,a7,O⟩:=DataW.trod_struct C h;obtain⟨_,R,a5⟩:=K.struct hp.2 C;have hf: ∀i,i<fs.toList.length-> ∃g:List PV,∀f,fs.toList[i]?=some f->J5e P n f.type g/\JHh w g ((cs.drop f.offset).take (P.cellsOf f.type)):=by
    intro i hi;have hfi:=JF hi;have ac:=zQ9 hfi;have ae:fs[i]?=some (fs.toList[i]):=by rw[<-JDL];exact hfi
    have h1:=O i _ ae;have h2: ∃y,xs[i]?=some y:=⟨_,JF (by simpa[a7]using hi)⟩;obtain⟨y,hy⟩:=h2;rw[hy]at h1;obtain⟨g,q1,q2⟩:=ih _ _ _ _ (hp.1 _ ac) h1;refine⟨g,λf V=>?_⟩;rw[hfi]at V;injection V with V;subst V
    exact⟨q1,q2⟩
   obtain⟨A,W,F⟩:=Jtq _ _ hf;have hlen: ∀(j:Nat) (f:Field),fs.toList[j]?=some f-> ∀g:List PV,A[j]?=some g->g.length=P.cellsOf f.type:=by
    intro j f hj g hy;have q:=(F j g hy f hj).2.1;have o:=a5 j f hj;rw[q,J6W,J9m,Q,R,o];have:((fs.toList.take j).map λf=>P.cellsOf f.type).sum+P.cellsOf f.type<=(fs.toList.map λf=>P.cellsOf f.type).sum:=by
     have e1:fs.toList=fs.toList.take j++(f::fs.toList.drop (j+1)):=by have L:=(J5f.1 hj);obtain⟨L,he⟩:=L;rw[<-he,<-List.drop_eq_getElem_cons L,Jou]
     conv=>rhs;rw[e1]
     simp only[J9p,J0I,List.sum_append,List.sum_cons];omega
    omega
   have J:A.map List.length=fs.toList.map λf=>P.cellsOf f.type:=by
    apply JmG;intro j;rw[J29,J29];cases hy:A[j]? with
    |none=>
     have:fs.toList[j]?=none:=by rw[List.getElem?_eq_none_iff]at hy⊢;omega
     rw[this];rfl
    |some g=>
     have hj:j<fs.toList.length:=by have:=(J5f.1 hy).1;omega
     have G:=JF hj;rw[G];simp only[J1o];rw[hlen j _ G g hy]
   have E: ∀(j:Nat) (f:Field),fs.toList[j]?=some f->((A.take j).map List.length).sum=f.offset:=by intro j f hj;rw[a5 j f hj,JrP,J,<-JrP]
   refine⟨A.flatten,⟨?_,λf hf=>?_⟩,?_,λi p v h1 h2=>?_⟩
   ·rw[JHT,J,R]
   ·obtain⟨j,hj⟩:=J6x hf;have L:j<A.length:=by have:=(J5f.1 hj).1;omega
    have D:=JF L;have:=JnR A j _ D;rw[E j f hj,hlen j f hj _ D]at this;rw[this];exact(F j _ D f hj).1
   ·rw[JHT,J,Q,R]
   ·
    have a4: ∀(l:List (List PV)) (i:Nat) p,l.flatten[i]?=some p-> ∃j g k,l[j]?=some g/\g[k]?=some p/\i=((l.take j).map List.length).sum+k:=by
     intro l
     induction l with
     |nil=>intro i p h;simp at h
     |cons y l N=>
      intro i p h;rw[J8u]at h;rcases zQ1 i y.length with M|Z
      ·rw[J6Z M]at h;exact⟨0,y,i,rfl,h,by simp⟩
      ·rw[J6Y Z]at h;obtain⟨j,g,k,a1,a2,a3⟩:=N _ _ h;exact⟨j+1,g,k,by simpa using a1,a2,by simp only[JHV,J0I,List.sum_cons];omega⟩
    obtain⟨j,g,k,a1,a2,a3⟩:=a4 _ _ _ h1;have hj:j<fs.toList.length:=by have:=(J5f.1 a1).1;omega
    have G:=JF hj;have q:=(F j g a1 _ G).2;refine q.2 k p v a2 ?_;have hk:k<P.cellsOf (fs.toList[j]).type:=by have:=(J5f.1 a2).1;rw[hlen j _ G g a1]at this;exact this
    rw[JuT hk,J8v,<-E j _ G,<-a3];exact h2
  ·rename_i m e C;simp only[JY,decide_eq_true_eq]at hp;obtain⟨xs,n0,_,_,Q,a7,O⟩:=DataW.trod_array C h;obtain⟨_,a0⟩:=K.array hp.2 C;have hf: ∀i,i<m-> ∃g:List PV,J5e P n e g/\JHh w g ((cs.drop (i*P.cellsOf e)).take (P.cellsOf e)):=by intro i hi;have h1:=O i hi;have h2: ∃y,xs[i]?=some y:=⟨_,JF (by omega)⟩;obtain⟨y,hy⟩:=h2;rw[hy]at h1;exact ih _ _ _ _ hp.1 h1
   obtain⟨A,W,F⟩:=Jtq _ _ hf;have hlen: ∀(j:Nat) g,A[j]?=some g->g.length=P.cellsOf e:=by
    intro j g hy;have q:=(F j g hy).2.1;have hj:j<m:=by have:=(J5f.1 hy).1;omega
    rw[q,J6W,J9m,Q,a0];have:j*P.cellsOf e+P.cellsOf e<=m*P.cellsOf e:=by rw[<-zQ8];exact zQ7 _ hj
    omega
   have T: ∀y∈A,y.length=P.cellsOf e:=λy hy=>by obtain⟨j,hj⟩:=J6x hy;exact hlen j y hj
   have U: ∀l:List (List PV),(∀y∈l,y.length=P.cellsOf e)->(l.map List.length).sum=l.length*P.cellsOf e:=by
    intro l
    induction l with
    |nil=>intro _;simp
    |cons y l N=>intro hh;simp[hh y (by simp),N (λz hz=>hh z (by simp[hz])),zQ8,Nat.add_comm]
   have E: ∀j,j<=m->((A.take j).map List.length).sum=j*P.cellsOf e:=by intro j hj;rw[U _ (λy hy=>T y (JDv hy)),J6W,W,Nat.min_eq_left hj]
   refine⟨A.flatten,⟨?_,λj hj=>?_⟩,?_,λi p v h1 h2=>?_⟩
   ·rw[JHT,U _ T,W,a0]
   ·have D:=JF (l:=A) (i:=j) (by omega);have:=JnR A j _ D;rw[E j (by omega),hlen j _ D]at this;rw[this];exact(F j _ D).1
   ·rw[JHT,U _ T,Q,W,a0]
   ·have a4: ∀(l:List (List PV)) (i:Nat) p,l.flatten[i]?=some p-> ∃j g k,l[j]?=some g/\g[k]?=some p/\i=((l.take j).map List.length).sum+k:=by
     intro l
     induction l with
     |nil=>intro i p h;simp at h
     |cons y l N=>
      intro i p h;rw[J8u]at h;rcases zQ1 i y.length with M|Z
      ·rw[J6Z M]at h;exact⟨0,y,i,rfl,h,by simp⟩
      ·rw[J6Y Z]at h;obtain⟨j,g,k,a1,a2,a3⟩:=N _ _ h;exact⟨j+1,g,k,by simpa using a1,a2,by simp only[JHV,J0I,List.sum_cons];omega⟩
    obtain⟨j,g,k,a1,a2,a3⟩:=a4 _ _ _ h1;have hj:j<m:=by have:=(J5f.1 a1).1;omega
    have q:=(F j g a1).2;refine q.2 k p v a2 ?_;have hk:k<P.cellsOf e:=by have:=(J5f.1 a2).1;rw[hlen j g a1]at this;exact this
    rw[JuT hk,J8v,<-E j (by omega),<-a3];exact h2
  ·cases hp
end
end Go.Am
end
section
namespace Go.Am
open Go.ChangeShapes Go.WideShapes Go.ChangeAt Go.RowKit
def gh0(w:World):Gh:=⟨λ_=>none,λr _=>r<w.heap.size⟩
theorem Jum(g:Gh)(w:World)(b r o:Nat): ¬Wr1 ⟨[],g,w⟩ b r o:=by unfold Wr1;simp
theorem JPW(w:World):Inv ⟨[],gh0 w,w⟩ where
 box:=λb cs h=>by simp at h
 arr:=λb wm esz rows h=>by simp at h
 apart:=λb1 b2 r o h=>absurd h (Jum _ _ _ _ _)
 const:=λr o h=>⟨h,λb=>Jum _ _ _ _ _⟩
def JeV(w w':World):Prop:=Je1 (λ_ _=>False) w w'
theorem JeV.kept{w w':World}(h:JeV w w')(g:MemPlace->Prop):w.keptBut w' g:=by
 obtain⟨h1,h2,h3,h4,h5⟩:=h;refine⟨h4,h5,λi hi=>?_⟩;have n:=Jjt hi;cases hw:w.heap[i]? with
 |none=>rw[n]at hw;cases hw
 |some x=>
  cases x with
  |cells c e fz=>
   obtain⟨c',q1,q2,q3⟩:=h2 i c e fz hw;rw[q1];exact⟨rfl,rfl,q2,λj _=>q3 j (λhf=>hf)⟩
  |map es k=>
   have:=h3 i _ hw (λc e fz he=>by cases he);rw[this];exact .inr ⟨rfl,rfl⟩
  |_=>
   have:=h3 i _ hw (λc e fz he=>by cases he);rw[this]
theorem JeV.same{w w':World}(h:JeV w w'){p:MemPlace}(hp:p.block<w.heap.size):w.sameAt w' p:=by
 obtain⟨h1,h2,h3,h4,h5⟩:=h;cases p with
 |cell b off=>
  have hb:b<w.heap.size:=hp;have g:=Jjt hb;show w'.cell? ⟨b,off,none⟩=w.cell? ⟨b,off,none⟩;rw[J4I,J4I];unfold J0B;cases hw:w.heap[b]? with
  |none=>rw[g]at hw;cases hw
  |some x=>
   cases x with
   |cells c e fz=>
    obtain⟨c',q1,q2,q3⟩:=h2 b c e fz hw;rw[q1];exact q3 off (λhf=>hf)
   |_=>
    have:=h3 b _ hw (λc e fz he=>by cases he);rw[this]
 |map b=>
  have hb:b<w.heap.size:=hp;have g:=Jjt hb;show w'.heap[b]?=w.heap[b]?;cases hw:w.heap[b]? with
  |none=>rw[g]at hw;cases hw
  |some x=>
   cases x with
   |cells c e fz=>
    obtain⟨c',q1,q2,q3⟩:=h2 b c e fz hw;rw[q1];have:c'=c:=by apply Array.ext_getElem?;intro i;exact q3 i (λhf=>hf)
    rw[this]
   |_=>exact h3 b _ hw (λc e fz he=>by cases he)
theorem JeV.frozen{w w':World}(h:JeV w w'){a:Addr}(hp:a.block<w.heap.size):w'.frozen? a=w.frozen? a:=by
 obtain⟨h1,h2,h3,h4,h5⟩:=h;have g:=Jjt hp;unfold World.frozen?;cases hw:w.heap[a.block]? with
 |none=>rw[g]at hw;cases hw
 |some x=>
  cases x with
  |cells c e fz=>
   obtain⟨c',q1,q2,q3⟩:=h2 a.block c e fz hw;rw[q1]
  |_=>
   have:=h3 a.block _ hw (λc e fz he=>by cases he);rw[this]
theorem JJy{P:Program}{F:Orc}(n:J57 P F){f:FuncId}{args:List AV}{vals:Array Value}{w:World}(hl:args.length=vals.size)
  (hr: ∀(i:Nat) x v,args[i]?=some x->vals[i]?=some v->JH ⟨[],gh0 w,w⟩ x v) (h:F f args []=some (.p (.b true),[])):
  Calls P f vals w λe w'=>e=.returned (.bool true)/\JeV w w':=by
 refine((n _ _ _ _ h).2 (gh0 w) w vals (JPW w) hl hr).mono λe w' ⟨v,g',he,_,j,g⟩=>?_;cases g with
 |p _ _ g=>
  cases g with
  |b=>
   refine⟨he,?_⟩;obtain⟨k1,k2,k,q⟩:=j.keep;refine⟨k1,λr c e fz hr=>?_,k,q⟩;obtain⟨c',q1,q2,q3⟩:=k2 r c e fz hr;exact⟨c',q1,q2,λo _=>q3 o (fun⟨b,hb⟩=>Jum _ _ _ _ _ hb)⟩
section
variable {H:Type} {enc:TypeId×Value->H} {P:Program}
theorem JlS(hl:laidOutB P=true)(hm:mapsRowed P=true)(g: ∀{t e:TypeId},t<P.types.size->P.underlying t=some (.slice e)->0<P.cellsOf e){W o:World}{sp:Nat->Bool}:
  ∀{ts:List TypeId} {vs:List Value} {j:List (DataW H)} {ps:List MemPlace},(∀t∈ts,t<P.types.size)->DataW.TrodAll enc P W 0 (λ_=>true) true ts vs j ps->
   (∀p∈ps,W.sameAt o p)->(∀p∈ps,sp p.block=true)->DataW.TrodAll enc P o 0 sp true ts vs j ps
 |[],[],[],_,_,h,_,_=>h
 |[],_::_,_,_,_,h,_,_=>h.elim
 |[],[],_::_,_,_,h,_,_=>h.elim
 |_::_,[],_,_,_,h,_,_=>h.elim
 |_::_,_::_,[],_,_,h,_,_=>h.elim
 |t::ts,v::vs,d::j,_,k,⟨p,q,⟨n,h1⟩,h2,rfl⟩,hs,hp=>by
  refine⟨p,q,⟨n,DataW.trod_stays (kids_rows hl hm) g (λh=>by cases h) (k t (by simp)) h1 (λx hx=>hs x (by simp[hx])) (λx hx=>hp x (by simp[hx]))⟩,?_,rfl⟩;exact JlS hl hm g (λx hx=>k x (by simp[hx])) h2 (λx hx=>hs x (by simp[hx])) (λx hx=>hp x (by simp[hx]))
def JbB(P:Program):Bool:=(List.range P.types.size).all λt=>match P.underlying t with
 |some (.slice e)=>decide (0<P.cellsOf e)
 |_=>true
theorem JBc(h:JbB P=true){t e:TypeId}(g:t<P.types.size)(he:P.underlying t=some (.slice e)):0<P.cellsOf e:=by unfold JbB at h;rw[Jre]at h;have:=h t (by simpa using g);rw[he]at this;simpa using this
theorem JLa{fn:Func}{s:ChangeSpec}{tb:TypeId}(hl:laidOutB P=true)(hm:mapsRowed P=true)(D:JbB P=true)(A: ∀t∈fn.params.toList,t<P.types.size)
  (r:fn.resultTypes= #[tb]) (z:P.underlying tb=some .bool) (e:s.vars=[]) {apart fresh j again:Bool} {W v:World} {args:Array Value} {n C:List (DataW H)} {o:List MemPlace}
  (E:C=[]->s.fn H (n++C)={results:=[.lit (.bool true)],args:=n})
  (B:DataW.Whole enc P fn.params.toList s.vars apart W args.toList n C o) (k:JeV W v):s.post enc P fn apart fresh j again W args (.bool true) v:=by
 have y:=B;have g:=B.lt;obtain⟨p,q,h1,h2,rfl,hz,hn⟩:=B;rw[e]at h2;obtain⟨rfl,rfl⟩:=trodVars_none h2;rw[J52]at y g hz hn;have hf:=E rfl;have h: ∀sp:Nat->Bool,(∀x∈p,sp x.block=true)->DataW.TrodAll enc P v 0 sp true fn.params.toList args.toList n p:=λsp hp=>
  JlS hl hm (λF he=>JBc D F he) A h1 (λx hx=>k.same (g x hx)) hp
 have hr: ∀(b:Nat) (sp:Nat->Bool) (hd:Bool),DataW.TrodAll enc P v b sp hd fn.resultTypes.toList ((Value.bool true).resultList fn.resultTypes.size) [.lit (.bool true)] []:=by intro b sp hd;rw[r];exact trodAll_cons_mk (shut_bool z _) trodAll_mk0
 refine⟨n,[],p,[],p,[],y,?_,?_,?_,k.kept _,λ_=>⟨?_,?_⟩⟩
 ·rw[hf];exact hr _ _ _
 ·rw[hf];exact h _ (λx hx=>by simpa using g x hx)
 ·rw[hf,e];rfl
 ·exact ok_one r rfl (okWide_bool_mk z _)
 ·refine⟨_,[],[]++p,⟨[]++p,[],trodAll_append (h _ (λ_ _=>rfl)) (hr _ _ _),by rw[e];rfl,by simp,λb off hp=>?_,λha=>by simpa using hn ha⟩,λx hx _=>by simpa using hx⟩;have w:MemPlace.cell b off∈p:=by simpa using hp
  rw[k.frozen (a:=⟨b,off,none⟩) (g _ w)];exact hz b off w
def JGx(P:Program)(t:TypeId)(pvs:List PV):AV:=match P.underlying t with
 |some (.struct _)=>.data pvs
 |some (.array _ _)=>.data pvs
 |_=>match pvs with
  |[c]=>.p c
  |_=>.unk
theorem Jv8(hl:laidOutB P=true)(hm:mapsRowed P=true){n:Nat}{t:TypeId}{w:World}{r:Reach}{base:Nat}{sp:Nat->Bool}{v:Value}{d:DataW H}{ps:List MemPlace}(hp:Ja8 P n t=true)
  (hv:Value.okWide P w r base t v) (h:DataW.Trod enc P w 0 sp true t v d ps): ∃pvs,J5e P n t pvs/\JH ⟨[],gh0 w,w⟩ (JGx P t pvs) v:=by
 obtain⟨j,h⟩:=h;obtain⟨pvs,q1,q2,q3⟩:=JMC hl hm n t _ _ j hp h;refine⟨pvs,q1,?_⟩;cases n with
 |zero=>simp[Ja8]at hp
 |succ n=>
  unfold Ja8 at hp;unfold Value.okWide at hv;unfold JGx;have one: ∀{c:PV},pvs=[c]->(∀cs,v≠.agg cs)->JH ⟨[],gh0 w,w⟩ (.p c) v:=by intro c hc o;subst hc;refine .p _ _ (q3 0 c v rfl ?_);cases v<;>first|rfl|exact absurd rfl (o _)
  unfold J5e at q1;split at hp
  ·rename_i g;rw[g]at q1 hv⊢;obtain⟨b,rfl⟩:=q1;exact one rfl (λcs he=>by subst he;simp[Cell.okWide,Cell.ok,g]at hv)
  ·rename_i k g;rw[g]at q1 hv⊢;obtain⟨z,rfl,_⟩:=q1;exact one rfl (λcs he=>by subst he;simp[Cell.okWide,Cell.ok,g]at hv)
  ·rename_i g;rw[g]at q1 hv⊢;obtain⟨z,rfl,_⟩:=q1;exact one rfl (λcs he=>by subst he;simp[Cell.okWide,Cell.ok,g]at hv)
  ·rename_i e g;rw[g]at q1 hv⊢;obtain⟨rows,rfl,_⟩:=q1;exact one rfl (λcs he=>by subst he;simp[Cell.okWide,Cell.ok,g]at hv)
  ·rename_i fs g;rw[g]at hv⊢;obtain⟨cs,rfl,_⟩:=hv;exact .data _ _ (by simpa[Value.cells]using q2) (λi x v h1 h2=>q3 i x v h1 (by simpa[Value.cells]using h2))
  ·rename_i m e g;rw[g]at hv⊢;obtain⟨cs,rfl,_⟩:=hv;exact .data _ _ (by simpa[Value.cells]using q2) (λi x v h1 h2=>q3 i x v h1 (by simpa[Value.cells]using h2))
  ·cases hp
end
end Go.Am
end
section
namespace Go.Am
section
variable (P:Program) {α β:Type}
def Rd(n:Nat)(t:TypeId)(r:α->List PV)(Q:α->Prop):Prop:= ∀pvs,J5e P n t pvs-> ∃x,pvs=r x/\Q x
def fieldsOf(t:TypeId):Option (List (TypeId×Nat)):=match P.underlying t with
 |some (.struct fs)=>some (fs.toList.map λf=>(f.type,f.offset))
 |_=>none
variable {P}
theorem JND{n:Nat}{t:TypeId}{k:IntKind}(e:P.underlying t=some (.int k)):Rd P (n+1) t (r_i k) λz=>k.min<=z/\z<=k.max:=by intro pvs h;unfold J5e at h;rw[e]at h;obtain⟨z,rfl,hz⟩:=h;refine⟨z,rfl,?_⟩;simpa[Lit.wf,IntKind.has]using hz
theorem Rd.mono{n:Nat}{t:TypeId}{r:α->List PV}{Q g:α->Prop}(h:Rd P n t r Q)(hq: ∀x,Q x->g x):Rd P n t r g:=λpvs hp=>by obtain⟨x,e,q⟩:=h pvs hp;exact⟨x,e,hq x q⟩
theorem JNe{n:Nat}{t:TypeId}(e:P.underlying t=some .bool):Rd P (n+1) t r_b λ_=>True:=by intro pvs h;unfold J5e at h;rw[e]at h;obtain⟨z,rfl⟩:=h;exact⟨z,rfl,trivial⟩
theorem JOe{n:Nat}{t:TypeId}(e:P.underlying t=some .string):Rd P (n+1) t r_s λl=>l.length<=maxLen:=by intro pvs h;unfold J5e at h;rw[e]at h;obtain⟨z,rfl,hz⟩:=h;exact⟨z,rfl,hz⟩
theorem JLQ{n:Nat}{t e:TypeId}{r:α->List PV}{Q:α->Prop}{k:Nat}(o:P.underlying t=some (.slice e))(hk:P.cellsOf e=k)(he:Rd P n e r Q):
  Rd P (n+1) t (JQ8 k r) λl=>l.length<=maxLen/\ ∀x∈l,Q x:=by
 intro pvs h;unfold J5e at h;rw[o]at h;obtain⟨rows,rfl,hl,hr⟩:=h;have g: ∀rows:List (List PV),(∀row∈rows,row.length=P.cellsOf e/\J5e P n e row)-> ∃l:List α,rows=l.map r/\ ∀x∈l,Q x:=by
  intro rows
  induction rows with
  |nil=>intro _;exact⟨[],rfl,by simp⟩
  |cons row rows ih=>
   intro j;obtain⟨l,rfl,hl⟩:=ih (λr hr=>j r (by simp[hr]));obtain⟨x,rfl,hx⟩:=he row (j row (by simp)).2;refine⟨x::l,rfl,λy hy=>?_⟩;rcases J2A.1 hy with rfl|hy
   ·exact hx
   ·exact hl y hy
 obtain⟨l,rfl,hq⟩:=g rows hr;exact⟨l,by rw[hk];rfl,by simpa using hl,hq⟩
theorem JKn{n m:Nat}{t e:TypeId}{r:α->List PV}{Q:α->Prop}{k:Nat}(o:P.underlying t=some (.array m e))(hk:P.cellsOf e=k)(hm:P.cellsOf t=m*k)(he:Rd P n e r Q):
  Rd P (n+1) t (J9S (n:=m) r) λv=> ∀(i:Nat) (h:i<m),Q v[i]:=by
 intro pvs h;unfold J5e at h;rw[o]at h;obtain⟨hl,hr⟩:=h;rw[hm]at hl;have g: ∀(m:Nat) (pvs:List PV),pvs.length=m*k->(∀i,i<m->J5e P n e ((pvs.drop (i*k)).take k))-> ∃l:List α,l.length=m/\pvs=(l.map r).flatten/\ ∀(i:Nat) (h:i<l.length),Q l[i]:=by
  intro m
  induction m with
  |zero=>
   intro pvs h _;refine⟨[],rfl,?_,by simp⟩;rw[Jr5]at h;simpa using h
  |succ m ih=>
   intro pvs h j;rw[zQ8]at h;obtain⟨l,h1,h2,h3⟩:=ih (pvs.drop k) (by rw[J9m];omega) (λi hi=>by have:=j (i+1) (by omega);rw[JjT];rw[zQ8,Nat.add_comm]at this;exact this)
   obtain⟨x,e1,hx⟩:=he _ (j 0 (by omega));rw[Jr5,Jn0]at e1;refine⟨x::l,by simp[h1],?_,λi hi=>?_⟩
   ·rw[J0I,J8u,<-e1,<-h2,Jou]
   ·cases i with
    |zero=>exact hx
    |succ i=>exact h3 i (by simpa using hi)
 obtain⟨l,h1,h2,h3⟩:=g m pvs hl (λi hi=>by have:=hr i hi;rwa[hk]at this);refine⟨⟨l.toArray,by simpa using h1⟩,?_,λi hi=>?_⟩
 ·rw[h2];rfl
 ·have:=h3 i (by omega);simpa using this
theorem JJs{m n:Nat}{t:TypeId}{j:List (TypeId×Nat)}{pvs:List PV}(hm:m=n+1)(e:fieldsOf P t=some j)(h:J5e P m t pvs):
  pvs.length=P.cellsOf t/\ ∀x∈j,J5e P n x.1 ((pvs.drop x.2).take (P.cellsOf x.1)):=by
 subst hm;unfold J5e at h;unfold fieldsOf at e;split at e
 ·rename_i fs g;rw[g]at h;injection e with e;subst e;refine⟨h.1,λx hx=>?_⟩;obtain⟨f,hf,rfl⟩:=J4i.1 hx;exact h.2 f hf
 ·cases e
end
end Go.Am
end
section
namespace Go.Am
section
variable (P:Program)
def Jdw(p:Ty->TypeId->Bool):Nat->List (TypeId×Nat)->Ty->Bool
 |_,[],.u=>true
 |_,[],_=>false
 |o,[f],a=>decide (f.2=o)&&p a f.1&&decide (P.cellsOf f.1=a.sz)
 |o,f::g::r,.pr a c=>decide (f.2=o)&&p a f.1&&decide (P.cellsOf f.1=a.sz)&&Jdw p (o+a.sz) (g::r) c
 |_,_::_::_,_=>false
def Jrl:Nat->Ty->TypeId->Bool
 |0,_,_=>false
 |n+1,ty,t=>match fieldsOf P t with
  |some fs=>Jdw P (Jrl n) 0 fs ty&&decide (P.cellsOf t=ty.sz)
  |none=>match P.underlying t,ty with
   |some .bool,.b=>true
   |some (.int k),.i g=>decide (k=g)
   |some .string,.s=>true
   |some (.slice e),.l a=>Jrl n a e&&decide (P.cellsOf e=a.sz)
   |some (.array m e),.ar h a=>decide (m=h)&&Jrl n a e&&decide (P.cellsOf e=a.sz)&&decide (P.cellsOf t=m*a.sz)
   |_,_=>false
def Ty.inR:(t:Ty)->t.D->Prop
 | .b,_=>True
 | .i k,z=>k.min<=z/\z<=k.max
 | .s,z=>List.length z<=maxLen
 | .l t,z=>List.length z<=maxLen/\ ∀x∈(z:List t.D),t.inR x
 | .pr a c,x=>a.inR x.1/\c.inR x.2
 | .ar n t,v=> ∀(i:Nat) (h:i<n),t.inR ((v:Vector t.D n)[i])
 | .u,_=>True
 | .f,_=>True
end
section
variable {P:Program}
theorem JG4{n:Nat}(ih: ∀ty t,Jrl P n ty t=true->Rd P n t (cel ty) ty.inR): ∀(o:Nat) (fs:List (TypeId×Nat)) (ty:Ty) (pvs:List PV),Jdw P (Jrl P n) o fs ty=true->
  (∀x∈fs,J5e P n x.1 ((pvs.drop x.2).take (P.cellsOf x.1)))-> ∃x:ty.D,(pvs.drop o).take ty.sz=cel ty x/\ty.inR x
 |o,[],ty,pvs,h,_=>by
  cases ty with
  |u=>exact⟨(),by simp[Ty.sz,cel],trivial⟩
  |_=>simp[Jdw]at h
 |o,[f],ty,pvs,h,hf=>by
  simp only[Jdw,JY,decide_eq_true_eq]at h;obtain⟨⟨h1,h2⟩,h3⟩:=h;have:=hf f (by simp);rw[h1,h3]at this;obtain⟨x,e,q⟩:=ih ty f.1 h2 _ this;exact⟨x,e,q⟩
 |o,f::g::r,ty,pvs,h,hf=>by
  cases ty with
  |pr a c=>
   simp only[Jdw,JY,decide_eq_true_eq]at h;obtain⟨⟨⟨h1,h2⟩,h3⟩,h4⟩:=h;have:=hf f (by simp);rw[h1,h3]at this;obtain⟨x,e,q⟩:=ih a f.1 h2 _ this;obtain⟨y,e',q'⟩:=JG4 ih (o+a.sz) (g::r) c pvs h4 (λz hz=>hf z (by simp[J2A.1 hz]));refine⟨(x,y),?_,q,q'⟩;simp only[cel,Ty.sz];rw[<-e,<-e',<-JjT,List.take_add]
  |_=>simp[Jdw]at h
theorem rdT: ∀(n:Nat) (ty:Ty) (t:TypeId),Jrl P n ty t=true->Rd P n t (cel ty) ty.inR
 |0,_,_,h=>by cases h
 |n+1,ty,t,h=>by
  unfold Jrl at h;split at h
  ·rename_i fs j;simp only[JY,decide_eq_true_eq]at h;intro pvs hp;obtain⟨hl,hf⟩:=JJs rfl j hp;obtain⟨x,e,q⟩:=JG4 (rdT n) 0 fs ty pvs h.1 hf;rw[Jn0,<-h.2,<-hl,List.take_length]at e;exact⟨x,e,q⟩
  ·split at h
   ·rename_i g;exact JNe g
   ·rename_i k o g;simp only[decide_eq_true_eq]at h;subst h;exact JND g
   ·rename_i g;exact JOe g
   ·rename_i e a g;simp only[JY,decide_eq_true_eq]at h;exact JLQ g h.2 (rdT n a e h.1)
   ·rename_i m e r a g;simp only[JY,decide_eq_true_eq]at h;obtain⟨⟨⟨h1,h2⟩,h3⟩,h4⟩:=h;subst h1;exact JKn g h3 h4 (rdT n a e h2)
   ·cases h
def JIY(P:Program)(t:TypeId):Bool:=match P.underlying t with
 |some (.struct _)=>true
 |some (.array _ _)=>true
 |_=>false
def JGT(agg:Bool)(t:Ty)(x:t.D):TA:=if agg=true then .dt t x else .c (.d t x)
theorem JAE(L:Nat->Nat){t:TypeId}{ty:Ty}{agg:Bool}(ha:JIY P t=agg)(h1:agg=false->ty.sz=1)(x:ty.D):JGx P t (cel ty x)=J1b L (JGT agg ty x):=by
 unfold JGx JIY at*;generalize P.underlying t=u at ha⊢;rcases u with _|d
 ·subst ha;dsimp only;rw[JBk (h1 rfl) x];rfl
 ·cases d<;>first
   |(subst ha;rfl)
   |(subst ha;dsimp only;rw[JBk (h1 rfl) x];rfl)
theorem JOl{F:Orc}{f:FuncId}{g:Sig}{S:(tyL g.ti).D->Option (tyL g.to).D}{xs:List TA}{x:(tyL g.ti).D}{y:(tyL g.to).D}(he:EOk F (sigE f g S))(hx:JuJ g xs []=some x)(e:S x=some y)
  (hv:JzT g y=some (.a (.c (.d .b true)),[])):F f (xs.map (J1b (lns []))) []=some (.p (.b true),[]):=by
 have h:(sigE f g S).go xs [] (λv out=>some (v,out))=some (TV.a (.c (.d .b true)),([]:List (Bool×TB))):=by simp only[sigE,hx,e,JJ,hv];cases g.same<;>rfl
 obtain⟨v,out,h1,_,h3⟩:=he.ok h;injection h3 with h3;injection h3 with h4 h5;subst h4 h5;exact h1
end
end Go.Am
end
section
namespace Go.Am
set_option linter.unusedVariables false
set_option maxRecDepth 20000
set_option maxHeartbeats 4000000
section
variable {B S:Int}
def EF(e:T_api_Entry):Prop:=1<=e.1/\e.1<=1099511627776/\1<=e.2.2.1/\e.2.2.1<=1073741824/\0<=e.2.2.2.1/\e.2.2.2.1<e.1/\0<=e.2.2.2.2.1/\e.2.2.2.2.1<e.1/\0<=e.2.2.2.2.2.1/\e.2.2.2.2.2.1<e.1/\e.2.2.2.2.2.2.2=[]/\J1F e.2.2.2.2.2.2.1=some true/\((e.2.1=1/\e.2.2.2.2.2.1=0)\/(e.2.1=2/\0<e.2.2.2.1/\1<=e.2.2.2.2.2.1/\e.2.2.2.2.2.1<=e.2.2.2.1))
theorem Jnj{x:JI}(e:J21 x=some true):0<=x.1/\x.1<x.2:=by
 have g:Par (J21 x) λy=>y=true->0<=x.1/\x.1<x.2:=by unfold J21;exact .ge (λc=>.some λd=>⟨c,J4c.1 d⟩) λ_=>.some nofun
 exact g _ e rfl
theorem EF.of{e:T_api_Entry}(h:J02 e=some true)(hk:e.2.1=1\/e.2.1=2):EF e:=by
 have k1:Par (J2H e) λy=>y.2=true->y.1=e->1<=e.2.2.1/\e.2.2.1<=1073741824/\e.2.2.2.2.2.2.2=[]/\J1F e.2.2.2.2.2.2.1=some true/\((e.2.1=1/\e.2.2.2.2.2.1=0)\/(e.2.1=2/\0<e.2.2.2.1/\1<=e.2.2.2.2.2.1/\e.2.2.2.2.2.1<=e.2.2.2.1)):=by
  unfold J2H;refine .eq (λo=>.bind λL h2=>.eq (λg=>by omega) λ_=>.ite (λj=>.ge (λk=>.some λn he=>?_) λ_=>.some nofun) λ_=>.some nofun) λo=>.eq (λg=>.bind λL h2=>.eq (λ_=>.ite (λj=>.gt (λJ=>.ge (λK=>.le (λF=>.ge (λk=>.some λn he=>?_) λ_=>.some nofun) λ_=>.some nofun) λ_=>.some nofun) λ_=>.some nofun) λ_=>.some nofun) λc=>absurd g c) λg=>by omega
  ·subst j;have e1:(0:Int)=e.2.2.2.2.2.1:=congrArg (λz:T_api_Entry=>z.2.2.2.2.2.1) he;have e2:([]:List UInt8)=e.2.2.2.2.2.2.2:=congrArg (λz:T_api_Entry=>z.2.2.2.2.2.2.2) he;exact⟨k,J24.1 n,e2.symm,h2,.inl ⟨o,e1.symm⟩⟩
  ·subst j;have e2:([]:List UInt8)=e.2.2.2.2.2.2.2:=congrArg (λz:T_api_Entry=>z.2.2.2.2.2.2.2) he;exact⟨k,J24.1 n,e2.symm,h2,.inr ⟨g,J,K,F⟩⟩
 have q:Par (J02 e) λy=>y=true->EF e:=by unfold J02;refine .bind λa ha=>.ite (λo=>.ite (λg=>.ge (λk=>.le (λn=>.bind λb1 v=>.ite (λG=>.bind λb2 r=>.ite (λj=>.bind λM w=>.some λC=>?_) λ_=>.some nofun) λ_=>.some nofun) λ_=>.some nofun) λ_=>.some nofun) λ_=>.some nofun) λ_=>.some nofun;subst G;subst j;subst C;obtain⟨a1,a2,a3,a4,H⟩:=k1 _ ha o (J1A.1 g);obtain⟨I,D⟩:=Jnj v;obtain⟨x,B⟩:=Jnj r;obtain⟨A,E⟩:=Jnj w;exact⟨k,n,a1,a2,I,D,x,B,A,E,a3,a4,H⟩
 exact q _ h rfl
theorem JwW{c:J2f}(h:J0A c=some true):Tot (J3d c) λy=>y=true:=by have e:J3d c=J0A c:=rfl;exact⟨true,e.trans h,rfl⟩
theorem JpV{c:J1e}(h:J1F c=some true):Tot (J3N c) λy=>y=true:=by
 have n:Par (J1F c) λy=>y=true->0<=c.1/\c.1<64/\0<=c.2.1/\c.2.1<16/\J0A c.2.2.1=some true/\J0A c.2.2.2=some true:=by unfold J1F;refine .ge (λe=>.lt (λg=>.ge (λj=>.lt (λk=>.bind λa ha=>.ite (λr=>.bind λb hb=>.some λo=>?_) λ_=>.some nofun) λ_=>.some nofun) λ_=>.some nofun) λ_=>.some nofun) λ_=>.some nofun;subst r;subst o;exact⟨e,g,j,k,ha,hb⟩
 obtain⟨e,g,j,k,v,x⟩:=n _ h rfl;unfold J3N;have hp:Tot (J4J c.1) λy=>y=true:=by unfold J4J;exact .ge (λ_=>.some (J4c.2 g)) λc=>absurd e c
 refine .bind hp λB d=>.ite (λ_=>.ge (λ_=>.lt (λ_=>.bind (JwW v) λz q=>.ite (λ_=>.bind (JwW x) λA w=>.some w) λc=>by rw[q]at c;cases c) λc=>absurd k c) λc=>absurd j c) λc=>by rw[d]at c;cases c
theorem JHc{e:T_api_Entry}(h:EF e):Tot (J5j e) λy=>y=true:=by
 obtain⟨a1,a2,a3,a4,A,D,z,v,a9,q,j,k,E⟩:=h;have o: ∀{n:Int},0<=n->n<e.1->Tot (J3c (n,e)) λy=>y=true:=fun{n} h1 h2=>by unfold J3c;exact .ge (λ_=>.some (J4c.2 h2)) λc=>absurd h1 c
 have G: ∀{b:Bool} {Q:Prop},b=true->Jq b=true->Q:=fun{b Q} h1 h2=>by subst h1;cases h2
 have hb:neS e.2.2.2.2.2.2.2 []=false:=by rw[j];rfl
 have hl:J0 e.2.2.2.2.2.2.2<=8192:=by rw[j];decide
 unfold J5j;refine .ltf (λ_=>.gtf (λ_=>.ltf (λ_=>.gtf (λ_=>.bind (o A D) λH w=>.nof (λ_=>.bind (o z v) λF x=>.nof (λ_=>.bind (o a9 q) λr g=>.not (λc=>by rw[g]at c;cases c) λ_=>?_) λc=>by rw[x]at c;cases c) λc=>by rw[w]at c;cases c) λc=>by omega) λc=>by omega) λc=>by omega) λc=>by omega
 refine .eq (λc=>by omega) λ_=>.eq (λc=>by omega) λ_=>.eq (λc=>by omega) λ_=>.eq (λc=>by omega) λ_=>.eq (λc=>by omega) λ_=>.eq (λc=>by omega) λ_=>.eq (λC=>?_) λC=>.eq (λB=>?_) λB=>by omega
 ·refine .ltf (λ_=>.gt (λc=>by omega) λ_=>.eq (λc=>by omega) λ_=>.ite (λc=>by rw[hb]at c;cases c) λ_=>.le (λ_=>?_) λc=>absurd hl c) λc=>by omega
  have hr:Tot (J3I e) λy=>y=true:=by unfold J3I;exact .ge (λ_=>.some (J24.2 (by omega))) λc=>by omega
  exact .bind hr λy d=>.ite (λ_=>.bind (JpV k) λr g=>.some g) λc=>by rw[d]at c;cases c
 ·refine .ltf (λ_=>.gt (λc=>by omega) λ_=>.ne (λc=>by omega) λ_=>.ite (λc=>by rw[hb]at c;cases c) λ_=>.le (λ_=>?_) λc=>absurd hl c) λc=>by omega
  have hr:Tot (J1N e) λy=>y=true:=⟨true,rfl,rfl⟩;exact .bind hr λy d=>.ite (λ_=>.bind (JpV k) λr g=>.some g) λc=>by rw[d]at c;cases c
def pgE(e:T_api_Entry):Int:=e.2.2.2.2.2.2.1.1
def Jfa(r:Jm):Prop:=1<=r.1/\r.1<=r.2.1/\r.2.1<=1099511627776/\0<=r.2.2.1/\r.2.2.1<=r.2.2.2.1/\r.2.2.2.1<64/\0<=r.2.2.2.2.1/\r.2.2.2.2.1<=8
def Jte(r:Jm)(e:T_api_Entry):Prop:=J02 e=some true/\(e.2.1=1\/e.2.1=2)/\r.1<=e.1/\e.1<=r.2.1/\r.2.2.1<=pgE e/\pgE e<=r.2.2.2.1
def J4u(f:Int)(a b:T_api_Entry):Prop:=(pgE a<pgE b/\b.2.2.2.2.1<f)\/(pgE a=pgE b/\a.1<b.1/\b.2.2.2.2.1=a.1)
def J3U(r:Jm):Prop:=Jfa r/\J0 r.2.2.2.2.2<=4096/\(∀(j:Nat) (e:T_api_Entry),r.2.2.2.2.2[j]?=some e->Jte r e)/\(∀e,r.2.2.2.2.2[0]?=some e->e.2.2.2.2.1<r.1)/\ ∀(j:Nat) (a b:T_api_Entry),r.2.2.2.2.2[j]?=some a->r.2.2.2.2.2[j+1]?=some b->J4u r.1 a b
theorem Jfa.of{r:Jm}(h:J27 (r.1,r.2.1,r.2.2.1,r.2.2.2.1,r.2.2.2.2.1)=some true):Jfa r:=by
 have e:Par (J27 (r.1,r.2.1,r.2.2.1,r.2.2.2.1,r.2.2.2.2.1)) λy=>y=true->Jfa r:=by unfold J27;exact .ge (λw=>.le (λg=>.le (λj=>.ge (λv=>.le (λo=>.lt (λq=>.ge (λk=>.some λn=>⟨w,g,j,v,o,q,k,J24.1 n⟩) λ_=>.some nofun) λ_=>.some nofun) λ_=>.some nofun) λ_=>.some nofun) λ_=>.some nofun) λ_=>.some nofun) λ_=>.some nofun
 exact e _ h rfl
theorem JHq{e:T_api_Entry}(h:JN e=some true):e.2.1=1\/e.2.1=2:=by
 have g:Par (JN e) λy=>y=true->e.2.1=1\/e.2.1=2:=by unfold JN;exact .eqf (λ_=>.some λd=>.inr (J81.1 d)) λc=>.some λ_=>.inl c
 exact g _ h rfl
theorem Jnx{e:T_api_Entry}(h:e.2.1=1\/e.2.1=2):Tot (JN e) λy=>y=true:=by unfold JN;exact .eqf (λc=>.some (J81.2 (by omega))) λ_=>.some rfl
theorem Jx6{e:T_api_Entry}(h:e.2.1=1\/e.2.1=2):Tot (J5u e) λy=>y=true:=Jnx h
theorem Jss{a b:T_api_Entry}{y:Int}(h:J0U (a,b)=some y)(c: ¬0<=y):pgE a<pgE b\/(pgE a=pgE b/\a.1<b.1):=by
 have e:Par (J0U (a,b)) λy=> ¬0<=y->pgE a<pgE b\/(pgE a=pgE b/\a.1<b.1):=by unfold J0U;exact .ltf (λ_=>.eq (λj=>.lt (λg=>.some λ_=>.inr ⟨j,g⟩) λ_=>.eq (λ_=>.eq (λ_=>.some λc=>absurd (J0D 0) c) λ_=>.some λc=>absurd (by decide) c) λ_=>.some λc=>absurd (by decide) c) λ_=>.eq (λ_=>.eq (λ_=>.some λc=>absurd (J0D 0) c) λ_=>.some λc=>absurd (by decide) c) λ_=>.some λc=>absurd (by decide) c) λc=>.some λ_=>.inl c
 exact e _ h c
theorem JEe{a b:T_api_Entry}(h:pgE a<pgE b\/(pgE a=pgE b/\a.1<b.1)):Tot (J0U (a,b)) λy=> ¬0<=y:=by unfold pgE at h;unfold J0U;exact .ltf (λc=>.eq (λe=>.lt (λj=>.some (by decide)) λg=>by dsimp only at c e g;omega) λe=>by dsimp only at c e;omega) λc=>.some (by decide)
theorem J3U.of{r:Jm}(h:J10 r=some true):J3U r:=by
 have G:Par (J10 r) λy=>y=true->J3U r:=by
  unfold J10;refine .bind λa ha=>.nof (λL=>.gt (λ_=>.some nofun) λM=>?_) λ_=>.some nofun;subst L;refine .while (λz=>z.2=r/\0<=z.1/\(∀(j:Nat) (e:T_api_Entry),(j:Int)<z.1->r.2.2.2.2.2[j]?=some e->Jte r e)/\(∀e,0<z.1->r.2.2.2.2.2[0]?=some e->e.2.2.2.2.1<r.1)/\ ∀(j:Nat) (a b:T_api_Entry),(j:Int)+1<z.1->r.2.2.2.2.2[j]?=some a->r.2.2.2.2.2[j+1]?=some b->J4u r.1 a b) ⟨rfl,J0D _,λj e h=>by dsimp only at h;omega,λe h=>by dsimp only at h;omega,λj a b h=>by dsimp only at h;omega⟩ ?_;rintro⟨i,z⟩ ⟨rfl,J,h1,h2,h3⟩;dsimp only at J h1 h2 h3 M;unfold J7g;dsimp only;have W:=Jg i 1;have V:=J0H i 1;refine .lt (λc=>?_) λc=>.some λ_=>⟨Jfa.of ha,by omega,λj e he=>h1 j e (by have:=J5P he;omega) he,λe he=>h2 e (by have:=J5P he;omega) he,λj a b F B=>h3 j a b (by have:=J5P B;omega) F B⟩;refine .bind λe he=>.bind λb hb=>.nof (λN=>.bind λd hd=>.nof (λK=>.ltf (λY=>.gtf (λc6=>.ltf (λT=>.gt (λ_=>.some nofun) λS=>?_) λ_=>.some nofun) λ_=>.some nofun) λ_=>.some nofun) λ_=>.some nofun) λ_=>.some nofun;subst N;subst K;obtain⟨_,o⟩:=J40 he;have C:Jte z e:=⟨hb,JHq hd,by omega,by omega,by unfold pgE;omega,by unfold pgE;omega⟩;have D:(i=0->e.2.2.2.2.1<z.1)->(∀a,0<i->z.2.2.2.2.2[(i-1).toNat]?=some a->J4u z.1 a e)->(z=z/\0<=J1 .i64 i 1/\(∀(j:Nat) (e:T_api_Entry),(j:Int)<J1 .i64 i 1->z.2.2.2.2.2[j]?=some e->Jte z e)/\(∀e,0<J1 .i64 i 1->z.2.2.2.2.2[0]?=some e->e.2.2.2.2.1<z.1)/\ ∀(j:Nat) (a b:T_api_Entry),(j:Int)+1<J1 .i64 i 1->z.2.2.2.2.2[j]?=some a->z.2.2.2.2.2[j+1]?=some b->J4u z.1 a b):=by
   intro O P;refine⟨rfl,by omega,λj f hj hf=>?_,λf hp hf=>?_,λj a b hj ha hb=>?_⟩
   ·by_cases hl:(j:Int)<i
    ·exact h1 j f hl hf
    ·have:j=i.toNat:=by omega
     subst this;rw[o]at hf;injection hf with hf;subst hf;exact C
   ·by_cases hi:0<i
    ·exact h2 f hi hf
    ·have I:i=0:=by omega
     subst I;rw[show(0:Int).toNat=0 from rfl]at o;rw[o]at hf;injection hf with hf;subst hf;exact O rfl
   ·by_cases hl:(j:Int)+1<i
    ·exact h3 j a b hl ha hb
    ·have e1:j+1=i.toNat:=by omega
     have e2:j=(i-1).toNat:=by omega
     rw[e1,o]at hb;injection hb with hb;subst hb
     rw[e2]at ha;exact P a (by omega) ha
  have w: ∀{a:T_api_Entry},0<i->idx z.2.2.2.2.2 (JG .i64 i 1)=some a->z.2.2.2.2.2[(i-1).toNat]?=some a:=fun{a} hi ha=>by obtain⟨_,q⟩:=J40 ha;rw[show(i-1).toNat=(JG .i64 i 1).toNat by omega];exact q
  have zero: ¬0<i-> ¬z.1<=e.2.2.2.2.1->(z=z/\0<=J1 .i64 i 1/\(∀(j:Nat) (e:T_api_Entry),(j:Int)<J1 .i64 i 1->z.2.2.2.2.2[j]?=some e->Jte z e)/\(∀e,0<J1 .i64 i 1->z.2.2.2.2.2[0]?=some e->e.2.2.2.2.1<z.1)/\ ∀(j:Nat) (a b:T_api_Entry),(j:Int)+1<J1 .i64 i 1->z.2.2.2.2.2[j]?=some a->z.2.2.2.2.2[j+1]?=some b->J4u z.1 a b):=λhi hf=>D (λ_=>by omega) λa h=>absurd h hi;refine .gt (λv=>.bind λR A=>.bind λU H=>.ge (λ_=>.some nofun) λE=>.gt (λ_=>.bind λZ g=>.eq (λx=>.bind λQ k=>.ne (λ_=>.some nofun) λn=>.some ?_) λx=>.ge (λ_=>.some nofun) λn=>.some ?_) λc=>absurd v c) λv=>.gt (λc=>absurd c v) λ_=>.ge (λ_=>.some nofun) λn=>.some (zero v n)
  ·rw[A]at g k;injection g with g;injection k with k;subst g;subst k;refine D (λh=>by omega) λa _ ha=>?_;rw[w v A]at ha;injection ha with ha;subst ha
   rcases Jss H E with q|⟨q1,q2⟩
   ·unfold pgE at q;omega
   ·exact .inr ⟨x,q2,n⟩
  ·rw[A]at g;injection g with g;subst g;refine D (λh=>by omega) λa _ ha=>?_;rw[w v A]at ha;injection ha with ha;subst ha
   rcases Jss H E with q|⟨q1,q2⟩
   ·exact .inl ⟨q,by omega⟩
   ·exact absurd q1 x
 exact G _ h rfl
end
section
variable {B S:Int}
theorem J5F{α:Type}{l:List α}{i:Int}(g:0<=i)(h1:i<J0 l): ∃a,idx l i=some a/\l[i.toNat]?=some a:=by
 have e:i.toNat<l.length:=by unfold J0 at h1;omega
 exact⟨l[i.toNat],by unfold idx;rw[if_pos g,JF e],JF e⟩
theorem JD2{r:Jm}(h:Jfa r):Tot (J27 (r.1,r.2.1,r.2.2.1,r.2.2.2.1,r.2.2.2.2.1)) λy=>y=true:=by obtain⟨h1,h2,h3,h4,h5,e,j,g⟩:=h;unfold J27;exact .ge (λ_=>.le (λ_=>.le (λ_=>.ge (λ_=>.le (λ_=>.lt (λ_=>.ge (λ_=>.some (J24.2 g)) λc=>absurd j c) λc=>absurd e c) λc=>absurd h5 c) λc=>absurd h4 c) λc=>absurd h3 c) λc=>absurd h2 c) λc=>absurd h1 c
theorem Jzt{r:Jm}(h:Jfa r):Tot (J49 r) λy=>y=true:=by obtain⟨h1,h2,h3,h4,h5,e,j,g⟩:=h;unfold J49;exact .ge (λ_=>.le (λ_=>.le (λ_=>.ge (λ_=>.le (λ_=>.lt (λ_=>.ge (λ_=>.some (J24.2 g)) λc=>absurd j c) λc=>absurd e c) λc=>absurd h5 c) λc=>absurd h4 c) λc=>absurd h3 c) λc=>absurd h2 c) λc=>absurd h1 c
theorem Jp{α:Type}{o:Option α}{v:α}(h:o=some v):Tot o λy=>y=v:=⟨v,h,rfl⟩
theorem JwG{r:Jm}(h:J3U r){i:Int}(hi:0<i)(hl:i<J0 r.2.2.2.2.2){a b:T_api_Entry}(ha:r.2.2.2.2.2[(i-1).toNat]?=some a)(hb:r.2.2.2.2.2[i.toNat]?=some b):J4u r.1 a b:=
 h.2.2.2.2 (i-1).toNat a b ha (by rw[show(i-1).toNat+1=i.toNat by omega];exact hb)
theorem Js1{r:Jm}(h:J3U r):J10 r=some true:=by
 have n:Tot (J10 r) λy=>y=true:=by
  obtain⟨g1,g2,H,K,g5⟩:=id h;unfold J10;refine .bind (JD2 g1) λy2 D=>.nof (λ_=>.gt (λc=>by omega) λ_=>?_) λc=>by rw[D]at c;cases c
  refine Jb (τ:=Int) (λq=>(q,r)) (λq=>0<=q/\q<=J0 r.2.2.2.2.2) (λq=>J0 r.2.2.2.2.2-q) ?_ 0 rfl ⟨J0D _,J3⟩;rintro i ⟨G,h1⟩;unfold J7g;dsimp only;have W:=Jg i 1;have U:=J0H i 1;refine .lt (λc=>?_) λc=>.some rfl;obtain⟨e,he,g⟩:=J5F G c;obtain⟨L,E,R,S,B,F⟩:=H _ e g;have k: ∃c':Int,((J1 .i64 i 1,r):Int×Jm)=(c',r)/\(0<=c'/\c'<=J0 r.2.2.2.2.2)/\J0 r.2.2.2.2.2-c'<J0 r.2.2.2.2.2-i/\0<=J0 r.2.2.2.2.2-i:=⟨J1 .i64 i 1,rfl,⟨by omega,by omega⟩,by omega,by omega⟩;unfold pgE at B F;refine .bind (Jp he) λw P=>?_;subst P;refine .bind (Jp L) λV M=>.nof (λ_=>.bind (Jnx E) λY J=>.nof (λ_=>.ltf (λ_=>.gtf (λ_=>.ltf (λ_=>.gt (λc=>by omega) λ_=>?_) λc=>by omega) λc=>by omega) λc=>by omega) λc=>by rw[J]at c;cases c) λc=>by rw[M]at c;cases c
  refine .gt (λj=>?_) λj=>.gt (λc=>absurd c j) λ_=>.ge (λc=>?_) λ_=>.some k
  ·have e1:JG .i64 i 1=i-1:=by omega
   rw[e1];obtain⟨a,ha,v⟩:=J5F (l:=r.2.2.2.2.2) (i:=i-1) (by omega) (by omega);have x:=JwG h j c v g;refine .bind (Jp ha) λC I=>?_;subst I;refine .bind (JEe (a:=C) (b:=w) (by rcases x with⟨q,_⟩|⟨q1,q2,_⟩;exact .inl q;exact .inr ⟨q1,q2⟩)) λT O=>.ge (λc=>absurd c O) λ_=>.gt (λ_=>.bind (Jp ha) λZ N=>?_) λc=>absurd j c;subst N;unfold J4u pgE at x;refine .eq (λo=>.bind (Jp ha) λQ z=>?_) λo=>.ge (λc=>by omega) λ_=>.some k;subst z;exact .ne (λc=>by omega) λ_=>.some k
  ·have A:i=0:=by omega
   subst A;have:=K w g;omega
 obtain⟨y,e,d⟩:=n;rw[e,d]
theorem JDq{a b:T_api_Entry}(h:pgE a=pgE b/\a.1<b.1):Tot (J3L (a,b)) λy=> ¬0<=y:=by
 obtain⟨h1,h2⟩:=h;unfold pgE at h1;have j:J1T (a.2.2.2.2.2.2.1.1,b.2.2.2.2.2.2.1.1)=some 0:=by unfold J1T J47;dsimp only;rw[h1];simp[neI,ltI,gtI]
 have e:J1T (a.1,b.1)=some (-1):=by unfold J1T J47;dsimp only;simp[neI,ltI,gtI,h2]
 unfold J3L;dsimp only;rw[j,e];show Tot ((J4Q [0, -1]).bind _) _;have g:J4Q [0, -1]=some (-1):=by unfold J4Q;rw[Jap (s':=(0,[0, -1],J0 ([0, -1]:List Int),1)) (by rfl)];exact J6t (by rfl)
 rw[g];exact .some (by decide)
theorem J5L{r:Jm}(h:J3U r):J1Z r=some true:=by
 have w:Tot (J1Z r) λy=>y=true:=by
  obtain⟨g1,g2,P,I,Y⟩:=id h;unfold J1Z;refine .bind (Jzt g1) λZ C=>.nof (λ_=>.gt (λc=>by omega) λ_=>?_) λc=>by rw[C]at c;cases c
  refine Jb (τ:=Int) (λq=>(r.2.2.2.2.2,J0 r.2.2.2.2.2,q,r)) (λq=>0<=q/\q<=J0 r.2.2.2.2.2) (λq=>J0 r.2.2.2.2.2-q) ?_ 0 rfl ⟨J0D _,J3⟩;rintro i ⟨E,h1⟩;unfold Jbc;dsimp only;have U:=Jg i 1;have S:=J0H i 1;refine .lt (λc=>?_) λc=>.some rfl;obtain⟨e,he,g⟩:=J5F E c;obtain⟨J,o,B,D,n,v⟩:=P _ e g;have k: ∃c':Int,((r.2.2.2.2.2,J0 r.2.2.2.2.2,J1 .i64 i 1,r):JGY)=(r.2.2.2.2.2,J0 r.2.2.2.2.2,c',r)/\(0<=c'/\c'<=J0 r.2.2.2.2.2)/\J0 r.2.2.2.2.2-c'<J0 r.2.2.2.2.2-i/\0<=J0 r.2.2.2.2.2-i:=⟨J1 .i64 i 1,rfl,⟨by omega,by omega⟩,by omega,by omega⟩;unfold pgE at n v;have hw:Tot (J5o (r,e)) λy=>y=true:=by unfold J5o;exact .bind (Jx6 o) λy d=>.ite (λ_=>.ge (λ_=>.le (λ_=>.ge (λ_=>.some (J24.2 D)) λc=>absurd B c) λc=>absurd v c) λc=>absurd n c) λc=>by rw[d]at c;cases c
  refine .bind (Jp he) λA O=>?_;subst O;refine .bind (JHc (EF.of J o)) λT K=>.nof (λ_=>.bind hw λV G=>.not (λc=>by rw[G]at c;cases c) λ_=>?_) λc=>by rw[K]at c;cases c
  refine .eqf (λx=>?_) λx=>.ge (λc=>?_) λ_=>.some k
  ·have hi:0<i:=by omega
   have e1:JG .i64 i 1=i-1:=by omega
   rw[e1];obtain⟨a,ha,z⟩:=J5F (l:=r.2.2.2.2.2) (i:=i-1) (by omega) (by omega);have j:=JwG h hi c z g;refine .bind (Jp ha) λR F=>?_;subst F;refine .lt (λN=>.ge (λc=>?_) λ_=>.some k) λN=>.bind (Jp ha) λH M=>?_
   ·unfold J4u pgE at j;omega
   ·subst M;have Q:=j;unfold J4u pgE at j;refine .bind (JDq (a:=H) (b:=A) (by unfold pgE;omega)) λW L=>.gef (λ_=>.ne (λc=>by omega) λ_=>.some k) λc=>absurd c L
  ·subst x;have:=I A g;omega
 obtain⟨y,e,d⟩:=w;rw[e,d]
end
section
variable {B S:Int}
def ent(r:Jm):List T_api_Entry:=r.2.2.2.2.2
def JB5(r:Jm)(p:Int)(k:Nat):Jm:=(r.1,r.2.1,r.2.2.1,p-1,r.2.2.2.2.1,(ent r).take k)
def Jt5(r:Jm)(p:Int)(k:Nat):Jm:=(r.1,r.2.1,p,r.2.2.2.1,r.2.2.2.2.1,(ent r).drop k)
theorem JNf{r:Jm}(h:J3U r): ∀(d j:Nat) (a b:T_api_Entry),(ent r)[j]?=some a->(ent r)[j+d]?=some b->pgE a<=pgE b:=by
 intro d
 induction d with
 |zero=>intro j a b ha hb;rw[J7w,ha]at hb;injection hb with hb;subst hb;exact J0D _
 |succ d ih=>
  intro j a b ha hb;have e:j+d<(ent r).length:=by obtain⟨q,_⟩:=J5f.1 hb;omega
  have hc:=JF e;have h1:=ih j a _ ha hc;have h2:=h.2.2.2.2 (j+d) _ b hc hb;unfold J4u at h2;omega
structure Cut(r:Jm)(p:Int)(k:Nat):Prop where
 le:k<=(ent r).length
 lo: ∀(j:Nat) (e:T_api_Entry),j<k->(ent r)[j]?=some e->pgE e<p
 hi: ∀(j:Nat) (e:T_api_Entry),k<=j->(ent r)[j]?=some e->p<=pgE e
theorem JjO{α:Type}{l:List α}{k j:Nat}{e:α}(h:(l.take k)[j]?=some e):j<k/\l[j]?=some e:=by
 rw[Jdi]at h;split at h
 ·exact⟨by assumption,h⟩
 ·cases h
theorem JMV{r:Jm}{p:Int}{k:Nat}(h:J3U r)(c:Cut r p k)(hp:r.2.2.1<p)(z:p<=r.2.2.2.1):J3U (JB5 r p k):=by
 obtain⟨⟨a1,a2,a3,a4,B,C,o,g⟩,g2,y,v,x⟩:=h;refine⟨⟨a1,a2,a3,a4,by show r.2.2.1<=p-1;omega,by show p-1<64;omega,o,g⟩,?_,λj e he=>?_,λe he=>?_,λj a b ha hb=>?_⟩
 ·show J0 ((ent r).take k)<=4096;have:J0 (ent r)<=4096:=g2;unfold J0 at*;rw[J6W];omega
 ·obtain⟨h1,h2⟩:=JjO he;obtain⟨b1,b2,q,w,n,A⟩:=y j e h2;have:=c.lo j e h1 h2;exact⟨b1,b2,q,w,n,by show pgE e<=p-1;omega⟩
 ·exact v e (JjO he).2
 ·exact x j a b (JjO ha).2 (JjO hb).2
theorem JK8{r:Jm}{p:Int}{k:Nat}(h:J3U r)(c:Cut r p k)(hp:r.2.2.1<p)(o:p<=r.2.2.2.1):J3U (Jt5 r p k):=by
 obtain⟨⟨a1,a2,a3,a4,E,B,w,v⟩,g2,C,z,q⟩:=h;have g: ∀{j:Nat} {e:T_api_Entry},((ent r).drop k)[j]?=some e->(ent r)[k+j]?=some e:=fun{j e} h=>by rw[J8v]at h;exact h
 refine⟨⟨a1,a2,a3,by show 0<=p;omega,o,B,w,v⟩,?_,λj e he=>?_,λe he=>?_,λj a b ha hb=>?_⟩
 ·show J0 ((ent r).drop k)<=4096;have:J0 (ent r)<=4096:=g2;unfold J0 at*;rw[J9m];omega
 ·have h2:=g he;obtain⟨b1,b2,y,A,D,x⟩:=C _ e h2;exact⟨b1,b2,y,A,c.hi _ e (Nat.le_add_right _ _) h2,x⟩
 ·have h2:=g he;rw[J7w]at h2;by_cases hk:k=0
  ·subst hk;exact z e h2
  ·have n:k-1<(ent r).length:=by have:=c.le;omega
   have ha:=JF n;have q1:=c.lo (k-1) _ (by omega) ha;have q2:=c.hi k e (zQ0 _) h2;have q3:=q (k-1) _ e ha (by rw[show k-1+1=k by omega];exact h2);unfold J4u at q3;show e.2.2.2.2.1<r.1;omega
 ·have h1:=g ha;have h2:=g hb;exact q (k+j) a b h1 h2
theorem Ja6{α:Type}{bytes:Nat}{l m:List α}(h:J0 l+J0 m<=34359738368)(hb:bytes<=2048):Jy bytes l m=some (l++m):=by unfold Jy;rw[if_pos (Jk5 (by unfold J0 at h;omega) hb)]
theorem JIR(l:List T_api_Entry)(hl:J0 l<=4096):J3F (l,l)=some true:=by
 have g:Tot (J3F (l,l)) λy=>y=true:=by unfold J3F;refine .ne (λc=>absurd rfl c) λ_=>Jb (τ:=Int) (λq=>(l,l,q)) (λq=>0<=q/\q<=J0 l) (λq=>J0 l-q) ?_ 0 rfl ⟨J0D _,J3⟩;rintro i ⟨n,h1⟩;unfold J9u;dsimp only;have r:=Jg i 1;refine .lt (λc=>?_) λ_=>.some rfl;obtain⟨e,he,_⟩:=J5F n c;refine .bind (Jp he) λo k=>.bind (Jp he) λh j=>.not (λc=>?_) λ_=>.some ⟨J1 .i64 i 1,rfl,⟨by omega,by omega⟩,by omega,by omega⟩;subst k;subst j;have q:eqT J4 h h=true:=J1A.2 rfl;cases q.symm.trans c
 obtain⟨y,e,d⟩:=g;rw[e,d]
theorem JJj{r:Jm}{p:Int}(h:J3U r)(hp:Ty.fit 0 0 (.i .i64) p):Tot (J1d (ent r,p)) λy=>y.2=p/\((y.1= -1/\Cut r p (ent r).length)\/(0<=y.1/\Cut r p y.1.toNat)):=by
 have g2:J0 (ent r)<=4096:=h.2.1;unfold J1d;dsimp only;refine Jb (τ:=Int) (λq=>(ent r,J0 (ent r),q,p)) (λq=>0<=q/\q<=J0 (ent r)/\ ∀(j:Nat) (e:T_api_Entry),(j:Int)<q->(ent r)[j]?=some e->pgE e<p) (λq=>J0 (ent r)-q) ?_ 0 rfl ⟨J0D _,J3,λj e hj=>by omega⟩;rintro i ⟨o,h1,h2⟩;unfold J32;dsimp only;have x:=Jg i 1;refine .lt (λc=>?_) λc=>.some ⟨rfl,.inl ⟨rfl,zQ0 _,λj e hj he=>h2 j e (by unfold J0 at c;omega) he,λj e hj he=>by have:=(J5f.1 he).1;omega⟩⟩;obtain⟨e,he,k⟩:=J5F o c;refine .bind (Jp he) λn v=>?_;subst v;unfold J6k;refine .bind (.some (Q:=λy:Bool×Int=>y=(geI (pgE n) p,p)) rfl) λz w=>?_;subst w;refine .ite (λg=>.some ⟨rfl,.inr ⟨o,?_,λj f hj hf=>h2 j f (by omega) hf,λj f hj hf=>?_⟩⟩) λg=>.some ⟨J1 .i64 i 1,rfl,⟨by omega,by omega,λj f hj hf=>?_⟩,by omega,by omega⟩
 ·show i.toNat<=(ent r).length;unfold J0 at c;omega
 ·have q:=J8a.1 g;have q2:=JNf h (j-i.toNat) i.toNat n f k (by rw[show i.toNat+(j-i.toNat)=j by omega];exact hf);omega
 ·by_cases hl:(j:Int)<i
  ·exact h2 j f hl hf
  ·have:j=i.toNat:=by omega
   subst this;rw[k]at hf;injection hf with hf;subst hf
   have q: ¬p<=pgE n:=λh=>by rw[J8a.2 h]at g;cases g
   omega
theorem JDa{l:List T_api_Entry}(h:J0 l<=4096):J0g l=some l:=by unfold J0g J1g;rw[if_pos (Jk5 (by unfold J0 at h;omega) (by decide))]
theorem JKV{r:Jm}{p:Int}(h:J3U r)(hp:Ty.fit 0 0 (.i .i64) p)(h1:r.2.2.1<p)(h2:p<=r.2.2.2.1):Tot (J1u (r,p)) λy=> ∃k,Cut r p k/\y=(JB5 r p k,Jt5 r p k,0):=by
 have g2:J0 (ent r)<=4096:=h.2.1;have q:=J2.1 hp;have H:=J0H p 1;have G:=h.1.2.2.2.1;unfold J1u;dsimp only;refine .bind (Jp (J5L h)) λI B=>.not (λc=>by rw[B]at c;cases c) λ_=>.lef (λ_=>.gt (λc=>absurd h2 (by omega)) λ_=>?_) λc=>by omega
 refine .bind (JJj h hp) λg ⟨z,hc⟩=>?_;have ep:JG .i64 g.2 1=p-1:=by rw[z];omega
 have C: ∀k:Nat,J0 ((ent r).take k)<=4096:=λk=>by unfold J0 at*;rw[J6W];omega
 have D: ∀k:Nat,J0 ((ent r).drop k)<=4096:=λk=>by unfold J0 at*;rw[J9m];omega
 have part: ∀(k:Int),0<=k->k<=J0 (ent r)->Cut r p k.toNat->Tot ((J0z r.2.2.2.2.2 none (some k)).bind λv=>
   (J0g v).bind λx=>
   (J0z r.2.2.2.2.2 (some k) none).bind λj=>
   (J0g j).bind λn=>
   some ((r.1,r.2.1,r.2.2.1,JG .i64 g.2 1,r.2.2.2.2.1,x),(r.1,r.2.1,g.2,r.2.2.2.1,r.2.2.2.2.1,n),(0:Int))) λy=> ∃k,Cut r p k/\y=(JB5 r p k,Jt5 r p k,0):=λk o k1 e=>by
  refine .bind (Jv7 (l:=r.2.2.2.2.2) o k1) λv ⟨E,_⟩=>?_;subst E;refine .bind (Jp (JDa (C k.toNat))) λx F=>.bind (JdB (l:=r.2.2.2.2.2) o k1) λj ⟨A,_⟩=>?_;subst F;subst A;refine .bind (Jp (JDa (D k.toNat))) λn w=>.some ⟨k.toNat,e,?_⟩;subst w;rw[ep,z];rfl
 refine .lt (λc=>?_) λc=>?_
 ·rcases hc with⟨_,e⟩|⟨h,_⟩
  ·exact part (J0 r.2.2.2.2.2) J3 (J0D _) e
  ·omega
 ·rcases hc with⟨h,_⟩|⟨h,e⟩
  ·omega
  ·exact part g.1 h (by have:=e.le;unfold J0;omega) e
end
section
variable {B S:Int}
theorem JrD{a b lv:Int}(h1:1<=a)(h2:a<=b)(h3:b<=100)(h4:0<=lv)(h5:lv<=8):J3U (a,b,0,0,lv,[]):=
 ⟨⟨h1,h2,by show b<=1099511627776;omega,by show(0:Int)<=0;decide,by show(0:Int)<=0;decide,by show(0:Int)<64;decide,h4,h5⟩,by show J0 ([]:List T_api_Entry)<=4096;decide,λj e h=>by simp at h,λe h=>by simp at h,λj a b h=>by simp at h⟩
theorem JGV:J6M ()=some true:=by
 have v1:=J5L (JrD (a:=1) (b:=2) (lv:=0) (by decide) (by decide) (by decide) (by decide) (by decide));have v2:=J5L (JrD (a:=3) (b:=3) (lv:=0) (by decide) (by decide) (by decide) (by decide) (by decide));have v3:=J5L (JrD (a:=1) (b:=3) (lv:=1) (by decide) (by decide) (by decide) (by decide) (by decide));have m:J2y (([]:List T_api_Entry),[])=some []:=by unfold J2y;refine J6t ?_;unfold J6l;dsimp only;rw[if_pos (by rfl),Ja6 (α:=T_api_Entry) (l:=[]) (m:=[]) (by decide) (by decide)];rfl
 have g:Tot (J0J ((1,2,0,0,0,[]),3,3,0,0,0,[])) λy=>y=((1,3,0,0,1,[]),0):=by
  unfold J0J;dsimp only;refine .bind (Jp v1) λv h=>.nof (λ_=>.bind (Jp v2) λw k=>.not (λc=>by rw[k]at c;cases c) λ_=>?_) λc=>by rw[h]at c;cases c
  have o:J37 ((1,2,0,0,0,([]:List T_api_Entry)),3,3,0,0,0,([]:List T_api_Entry))=some true:=by rfl
  refine .bind (Jp o) λA r=>.not (λc=>by rw[r]at c;cases c) λ_=>.gef (λ_=>.gt (λc=>absurd c (by decide)) λ_=>?_) λc=>absurd c (by decide);refine .bind (Jp m) λx q=>?_;subst q;have e1:J1 .i64 (J1P 0 0) 1=1:=by rfl
  rw[e1];exact .bind (Jp v3) λz n=>.not (λc=>by rw[n]at c;cases c) λ_=>.some rfl
 have j:Tot (J6M ()) λy=>y=true:=by unfold J6M;refine .bind g λv h=>?_;subst h;exact .eq (λ_=>.eq (λ_=>.eq (λ_=>.some (by rfl)) λc=>absurd rfl c) λc=>absurd rfl c) λc=>absurd rfl c
 obtain⟨y,e,d⟩:=j;rw[e,d]
abbrev rZ:Jm:=(0,0,0,0,0,[])
theorem JMc{l:List Int}{y:Jz}(e:J6o (l,400)=some y):y.2=0/\J0 y.1<=400:=by
 have g:Par (J6o (l,400)) λy=>y.2=0/\J0 y.1<=400:=by
  unfold J6o;dsimp only;refine .gt (λc=>.bind λa ha=>.some ⟨rfl,?_⟩) λc=>.some ⟨rfl,by show J0 l<=400;omega⟩;obtain⟨r,hr,_,h2⟩:=Jv7 (l:=l) (k:=400) (by decide) (by omega);rw[hr]at ha;injection ha with ha;subst ha
  show J0 r<=400;omega
 exact g _ e
end
section
variable {B S:Int}
theorem Jp4(x:Int×T_api_Entry):Tot (J3c x) λy=>y=true->0<=x.1/\x.1<x.2.1:=by unfold J3c;exact .ge (λc=>.some λd=>⟨c,J4c.1 d⟩) λ_=>.some nofun
theorem JFH(c:J2f):Tot (J3d c) λy=>J0A c=some y:=by
 have g:Tot (J0A c) λ_=>True:=by unfold J0A;exact .ite (λ_=>.itf (λ_=>.some trivial) λ_=>.some trivial) λ_=>.some trivial
 obtain⟨y,e,_⟩:=g;exact⟨y,e,e⟩
theorem JKb(n:Int):Tot (J4J n) λy=>y=true->0<=n/\n<64:=by unfold J4J;exact .ge (λc=>.some λd=>⟨c,J4c.1 d⟩) λ_=>.some nofun
theorem JwH(c:J1e):Tot (J3N c) λy=>y=true->J1F c=some true:=by unfold J3N;refine .bind (JKb c.1) λo h2=>.ite (λe=>.ge (λj=>.lt (λk=>.bind (JFH c.2.2.1) λn h3=>.ite (λh=>.bind (JFH c.2.2.2) λq h4=>.some λg=>?_) λ_=>.some nofun) λ_=>.some nofun) λ_=>.some nofun) λ_=>.some nofun;obtain⟨a1,a2⟩:=h2 e;subst h;subst g;unfold J1F;rw[if_pos (J8a.2 a1),if_pos (J4c.2 a2),if_pos (J8a.2 j),if_pos (J4c.2 k),h3,h4];rfl
theorem JME(c:J1e):Tot (J4S c) λ_=>True:=⟨_,rfl,trivial⟩
theorem JLZ(e:T_api_Entry):Tot (J1N e) λ_=>True:=⟨_,rfl,trivial⟩
theorem JPy(e:T_api_Entry):Tot (J3I e) λy=>y=true->1<=e.2.2.2.2.2.1/\e.2.2.2.2.2.1<=e.2.2.2.1:=by unfold J3I;exact .ge (λc=>.some λd=>⟨c,J24.1 d⟩) λ_=>.some nofun
theorem JPe(c:J1e):Tot (J6s c) λ_=>True:=by unfold J6s;exact .ite (λ_=>.ite (λ_=>.some trivial) λ_=>.some trivial) λ_=>.some trivial
theorem JFK{l:List UInt8}(h:neS l []=false):l=[]:=by unfold neS at h;simpa using h
theorem JNd(e:T_api_Entry):Tot (J5j e) λy=>y=true->(e.2.1=1\/e.2.1=2)->EF e:=by
 have g: ∀{o:Option Bool},(3<=e.2.1\/e.2.1<=0)->Tot o (λ_=>True)->Tot o λy=>y=true->(e.2.1=1\/e.2.1=2)->EF e:=λh B=>B.mono λ_ _ _ hk=>by omega
 unfold J5j;refine .ltf (λa1=>.gtf (λa2=>.ltf (λa3=>.gtf (λa4=>.bind (Jp4 _) λH h2=>.nof (λx=>.bind (Jp4 _) λF h3=>.nof (λA=>.bind (Jp4 _) λG h4=>.not (λ_=>.some nofun) λE=>?_) λ_=>.some nofun) λ_=>.some nofun) λ_=>.some nofun) λ_=>.some nofun) λ_=>.some nofun) λ_=>.some nofun;have b2:=h2 x;have j:=h3 A;have k:=h4 E;refine .eq (λc=>g (by omega) ?_) λ_=>.eq (λc=>g (by omega) ?_) λ_=>.eq (λc=>g (by omega) ?_) λ_=>.eq (λc=>g (by omega) ?_) λ_=>.eq (λc=>g (by omega) ?_) λ_=>.eq (λc=>g (by omega) ?_) λ_=>.eq (λw=>?_) λw=>.eq (λv=>?_) λv=>by omega
 case refine_7=>refine .ltf (λC=>.gt (λ_=>.some nofun) λD=>.eq (λ_=>.some nofun) λr=>.ite (λ_=>.some nofun) λn=>.le (λ_=>.bind (JPy e) λy h=>.ite (λd=>.bind (JwH _) λz hz=>.some λq _=>?_) λ_=>.some nofun) λ_=>.some nofun) λ_=>.some nofun;obtain⟨q1,q2⟩:=h d;exact⟨by omega,by omega,by omega,by omega,b2.1,b2.2,j.1,j.2,k.1,k.2,JFK n,hz q,.inr ⟨w,by have:=b2.1;dsimp only at this;omega,q1,q2⟩⟩
 case refine_8=>refine .ltf (λC=>.gt (λ_=>.some nofun) λD=>.ne (λ_=>.some nofun) λr=>.ite (λ_=>.some nofun) λn=>.le (λ_=>.bind (JLZ e) λy h=>.ite (λd=>.bind (JwH _) λz hz=>.some λq _=>?_) λ_=>.some nofun) λ_=>.some nofun) λ_=>.some nofun;exact⟨by omega,by omega,by omega,by omega,b2.1,b2.2,j.1,j.2,k.1,k.2,JFK n,hz q,.inl ⟨v,r⟩⟩
 all_goals repeat' first
  |exact .some trivial
  |refine .ite (λ_=>?_) λ_=>?_
  |refine .itf (λ_=>?_) λ_=>?_
  |refine .bind (JLZ _) λ_ _=>?_
  |refine .bind (JME _) λ_ _=>?_
  |refine .bind (JPe _) λ_ _=>?_
end
section
variable {B S:Int}
def Jnl(x y:Int):Int:=if x<y then -1 else if y<x then 1 else 0
def J70(a b:T_api_Entry):Int:=if Jnl (pgE a) (pgE b)=0 then Jnl a.1 b.1 else Jnl (pgE a) (pgE b)
theorem JB4(x:Int):neI x x=false:=by simp[neI]
theorem JM0(x y:Int):J1T (x,y)=some (Jnl x y):=by
 unfold J1T J47 Jnl;dsimp only;rw[JB4,JB4];by_cases h:x<y
 ·simp[ltI,h]
 ·by_cases h2:y<x
  ·simp[ltI,gtI,h,h2]
  ·simp[ltI,gtI,h,h2]
theorem JPv(p q:Int):J4Q [p,q]=some (if p=0 then q else p):=by
 unfold J4Q;have l0: ∀p q:Int,J80 (0,[p,q],J0 [p,q],0)=if neI p 0=true then some (.inr p)else some (.inl (0,[p,q],J0 [p,q],1)):=λp q=>rfl
 have e: ∀p q:Int,J80 (0,[p,q],J0 [p,q],1)=if neI q 0=true then some (.inr q)else some (.inl (0,[p,q],J0 [p,q],2)):=λp q=>rfl
 have g: ∀p q:Int,J80 (0,[p,q],J0 [p,q],2)=some (.inr 0):=λp q=>rfl;by_cases hp:p=0
 ·subst hp;rw[if_pos rfl,Jap ((l0 0 q).trans (if_neg (by decide)))];by_cases hq:q=0
  ·subst hq;rw[Jap ((e 0 0).trans (if_neg (by decide)))];exact J6t (g 0 0)
  ·exact J6t ((e 0 q).trans (if_pos (Jd9.2 hq)))
 ·rw[if_neg hp];exact J6t ((l0 p q).trans (if_pos (Jd9.2 hp)))
theorem JG5(a b:T_api_Entry):J3L (a,b)=some (J70 a b):=by unfold J3L J70 pgE;dsimp only;rw[JM0,JM0];simp only[JJ];rw[JPv];rfl
theorem JFZ(a b:T_api_Entry):J0U (a,b)=some (J70 a b):=by
 have h:Tot (J0U (a,b)) λy=>y=J70 a b:=by
  unfold J0U J70 Jnl pgE;dsimp only;refine .ltf (λc=>.eq (λg=>.lt (λj=>.some ?_) λj=>.eq (λ_=>.eq (λk=>.some ?_) λk=>.some ?_) λc=>absurd g c) λg=>.eq (λc=>absurd c g) λ_=>.some ?_) λc=>.some ?_
  all_goals repeat' split
  all_goals omega
 obtain⟨y,e,d⟩:=h;rw[e,d]
def ltE(a b:T_api_Entry):Prop:=pgE a<pgE b\/(pgE a=pgE b/\a.1<b.1)
theorem Jb2{a b:T_api_Entry}:J70 a b<0↔ltE a b:=by
 unfold J70 Jnl ltE
 repeat' split
 all_goals first|omega|(constructor<;>intro h<;>omega)
theorem JJb{a b:T_api_Entry}:J70 a b=0↔pgE a=pgE b/\a.1=b.1:=by
 unfold J70 Jnl
 repeat' split
 all_goals first|omega|(constructor<;>intro h<;>omega)
theorem JOW(r:Jm):Tot (J49 r) λy=>y=true->Jfa r:=by unfold J49;exact .ge (λq=>.le (λe=>.le (λg=>.ge (λo=>.le (λk=>.lt (λn=>.ge (λh=>.some λj=>⟨q,e,g,o,k,n,h,J24.1 j⟩) λ_=>.some nofun) λ_=>.some nofun) λ_=>.some nofun) λ_=>.some nofun) λ_=>.some nofun) λ_=>.some nofun) λ_=>.some nofun
theorem JOf(e:T_api_Entry):Tot (J5u e) λy=>y=true->e.2.1=1\/e.2.1=2:=by unfold J5u;exact .eqf (λ_=>.some λd=>.inr (J81.1 d)) λc=>.some λ_=>.inl c
theorem JOI(r:Jm)(e:T_api_Entry):Tot (J5o (r,e)) λy=>y=true->(e.2.1=1\/e.2.1=2)/\r.1<=e.1/\e.1<=r.2.1/\r.2.2.1<=pgE e/\pgE e<=r.2.2.2.1:=by unfold J5o;exact .bind (JOf e) λy h=>.ite (λd=>.ge (λn=>.le (λg=>.ge (λj=>.some λk=>⟨h d,j,J24.1 k,n,g⟩) λ_=>.some nofun) λ_=>.some nofun) λ_=>.some nofun) λ_=>.some nofun
theorem JLz{t:Ty}(x:t.D):eqT t x x=true:=J1A.2 rfl
theorem JJK{e:T_api_Entry}(h:EF e)(hk:e.2.1=1\/e.2.1=2):J02 e=some true:=by
 obtain⟨a1,a2,a3,a4,F,H,C,x,a9,r,g,j,w⟩:=h;have o: ∀{n:Int},0<=n->n<e.1->J21 (n,e.1)=some true:=fun{n} h1 h2=>by unfold J21;rw[if_pos (J8a.2 h1)];exact congrArg some (J4c.2 h2)
 have sh:Tot (J2H e) λy=>y=(e,true):=by
  unfold J2H;rcases w with⟨k,q⟩|⟨k,q1,q2,q3⟩
  ·refine .eq (λ_=>.bind (Jp j) λy d=>.eq (λc=>by omega) λ_=>.ite (λ_=>.ge (λ_=>.some ?_) λc=>absurd a3 c) λc=>by rw[d]at c;cases c) λc=>absurd k c;obtain⟨e1,e2,J,K,A,E,D,G⟩:=e;dsimp only at k q g a4;subst q;subst g;exact congrArg (Prod.mk _) (J24.2 a4)
  ·refine .eq (λc=>by omega) λ_=>.eq (λ_=>.bind (Jp j) λy d=>.eq (λ_=>.ite (λ_=>.gt (λ_=>.ge (λ_=>.le (λ_=>.ge (λ_=>.some ?_) λc=>absurd a3 c) λc=>absurd q3 c) λc=>absurd q2 c) λc=>absurd q1 c) λc=>by rw[d]at c;cases c) λc=>absurd k c) λc=>absurd k c;obtain⟨e1,e2,J,K,A,E,D,G⟩:=e;dsimp only at g a4;subst g;exact congrArg (Prod.mk _) (J24.2 a4)
 have v:Tot (J02 e) λy=>y=true:=by unfold J02;refine .bind sh λy d=>?_;subst d;exact .ite (λ_=>.ite (λ_=>.ge (λ_=>.le (λ_=>.bind (Jp (o F H)) λN z=>.ite (λ_=>.bind (Jp (o C x)) λL B=>.ite (λ_=>.bind (Jp (o a9 r)) λM I=>.some I) λc=>by rw[B]at c;cases c) λc=>by rw[z]at c;cases c) λc=>absurd a2 c) λc=>absurd a1 c) λc=>by have q:=JLz (t:=J4) e;cases q.symm.trans c) λc=>by cases c
 obtain⟨y,e1,d⟩:=v;rw[e1,d]
theorem JP3(r:Jm):Tot (J1Z r) λy=>y=true->J3U r:=by
 unfold J1Z;refine .bind (JOW r) λS g1=>.nof (λI=>.gt (λ_=>.some nofun) λY=>?_) λ_=>.some nofun;have g1:=g1 I;have H:=J3 (l:=r.2.2.2.2.2);refine Jb (τ:=Int) (λq=>(r.2.2.2.2.2,J0 r.2.2.2.2.2,q,r)) (λi=>0<=i/\i<=J0 r.2.2.2.2.2/\(∀(j:Nat) (e:T_api_Entry),(j:Int)<i->r.2.2.2.2.2[j]?=some e->EF e/\(e.2.1=1\/e.2.1=2)/\r.1<=e.1/\e.1<=r.2.1/\r.2.2.1<=pgE e/\pgE e<=r.2.2.2.1)/\(∀e,0<i->r.2.2.2.2.2[0]?=some e->e.2.2.2.2.1<r.1)/\ ∀(j:Nat) (a b:T_api_Entry),(j:Int)+1<i->r.2.2.2.2.2[j]?=some a->r.2.2.2.2.2[j+1]?=some b->J4u r.1 a b) (λq=>J0 r.2.2.2.2.2-q) ?_ 0 rfl ⟨J0D _,H,λj e h=>by omega,λe h=>by omega,λj a b h=>by omega⟩;rintro i ⟨F,hn,h1,h2,h3⟩;unfold Jbc;dsimp only;have W:=Jg i 1;have U:=J0H i 1;refine .lt (λc=>?_) λc=>.some λ_=>⟨g1,by omega,λj e he=>?_,λe he=>h2 e (by have:=J5P he;omega) he,λj a b B n=>h3 j a b (by have:=J5P n;omega) B n⟩
 ·obtain⟨e,he,k⟩:=J5F F c;refine .bind (Jp he) λg N=>?_;subst N;refine .bind (JNd g) λV h5=>.nof (λK=>.bind (JOI r g) λZ M=>.not (λ_=>.some nofun) λJ=>?_) λ_=>.some nofun;have hk:=M J;have o:EF g/\(g.2.1=1\/g.2.1=2)/\r.1<=g.1/\g.1<=r.2.1/\r.2.2.1<=pgE g/\pgE g<=r.2.2.2.1:=⟨h5 K hk.1,hk⟩;have x:(i=0->g.2.2.2.2.1<r.1)->(∀a,0<i->r.2.2.2.2.2[(i-1).toNat]?=some a->J4u r.1 a g)-> ∃c':Int,((r.2.2.2.2.2,J0 r.2.2.2.2.2,J1 .i64 i 1,r):JGY)=(r.2.2.2.2.2,J0 r.2.2.2.2.2,c',r)/\(0<=c'/\c'<=J0 r.2.2.2.2.2/\(∀(j:Nat) (e:T_api_Entry),(j:Int)<c'->r.2.2.2.2.2[j]?=some e->EF e/\(e.2.1=1\/e.2.1=2)/\r.1<=e.1/\e.1<=r.2.1/\r.2.2.1<=pgE e/\pgE e<=r.2.2.2.1)/\(∀e,0<c'->r.2.2.2.2.2[0]?=some e->e.2.2.2.2.1<r.1)/\ ∀(j:Nat) (a b:T_api_Entry),(j:Int)+1<c'->r.2.2.2.2.2[j]?=some a->r.2.2.2.2.2[j+1]?=some b->J4u r.1 a b)/\J0 r.2.2.2.2.2-c'<J0 r.2.2.2.2.2-i/\0<=J0 r.2.2.2.2.2-i:=by
   intro O P;refine⟨J1 .i64 i 1,rfl,⟨by omega,by omega,λj f hj hf=>?_,λf hp hf=>?_,λj a b hj ha hb=>?_⟩,by omega,by omega⟩
   ·by_cases hl:(j:Int)<i
    ·exact h1 j f hl hf
    ·have:j=i.toNat:=by omega
     subst this;rw[k]at hf;injection hf with hf;subst hf;exact o
   ·by_cases hi:0<i
    ·exact h2 f hi hf
    ·have E:i=0:=by omega
     subst E;rw[show(0:Int).toNat=0 from rfl]at k;rw[k]at hf;injection hf with hf;subst hf;exact O rfl
   ·by_cases hl:(j:Int)+1<i
    ·exact h3 j a b hl ha hb
    ·have e1:j+1=i.toNat:=by omega
     have e2:j=(i-1).toNat:=by omega
     rw[e1,k]at hb;injection hb with hb;subst hb
     rw[e2]at ha;exact P a (by omega) ha
  refine .eqf (λv=>?_) λv=>.ge (λ_=>.some nofun) λc5=>.some (x (λ_=>by omega) λa h=>by omega);have e1:JG .i64 i 1=i-1:=by omega
  rw[e1];obtain⟨a,ha,D⟩:=J5F (l:=r.2.2.2.2.2) (i:=i-1) (by omega) (by omega);have z:J4u r.1 a g->(∀b,0<i->r.2.2.2.2.2[(i-1).toNat]?=some b->J4u r.1 b g):=λh b _ hb=>by rw[D]at hb;injection hb with hb;subst hb;exact h
  refine .bind (Jp ha) λR G=>?_;subst G;refine .lt (λw=>.ge (λ_=>.some nofun) λc6=>.some (x (λh=>absurd h v) (z (.inl ⟨w,by omega⟩)))) λw=>.bind (Jp ha) λA L=>?_;subst L;refine .bind (Jp (JG5 A g)) λy9 Q=>.gef (λT=>.ne (λ_=>.some nofun) λC=>.some (x (λh=>absurd h v) (z ?_))) λ_=>.some nofun;subst Q;rcases(Jb2 (a:=A) (b:=g)).1 (by omega)with q|⟨q1,q2⟩
  ·exact absurd q w
  ·exact .inr ⟨q1,q2,C⟩
 ·obtain⟨q1,q2⟩:=h1 j e (by have:=J5P he;omega) he;exact⟨JJK q1 q2.1,q2⟩
end
section
variable {B S:Int}
theorem ltE.trans{a b c:T_api_Entry}(h1:ltE a b)(h2:ltE b c):ltE a c:=by unfold ltE at*;omega
def mrg:List T_api_Entry->List T_api_Entry->List T_api_Entry
 |[],b=>b
 |x::a,[]=>x::a
 |x::a,y::b=>if J70 x y<=0 then x::mrg a (y::b)else y::mrg (x::a) b
termination_by a b=>a.length+b.length
theorem Jdc(a:List T_api_Entry):mrg a []=a:=by cases a<;>simp[mrg]
def J2Q:List T_api_Entry->T_api_Entry->List T_api_Entry
 |[],e=>[e]
 |x::l,e=>if J70 x e<0 then x::J2Q l e else if J70 x e=0 then x::l else e::x::l
theorem JDx{l:List T_api_Entry}{e x:T_api_Entry}(h:x∈J2Q l e):x∈l\/x=e:=by
 induction l with
 |nil=>simp[J2Q]at h;exact .inr h
 |cons y l ih=>
  unfold J2Q at h;split at h
  ·rcases J2A.1 h with rfl|h
   ·exact .inl List.mem_cons_self
   ·exact(ih h).imp (JjM _) id
  ·split at h
   ·exact .inl h
   ·rcases J2A.1 h with rfl|h
    ·exact .inr rfl
    ·exact .inl h
theorem JGo{y:T_api_Entry}{b:List T_api_Entry}(hb: ∀z∈b,ltE y z): ∀{a:List T_api_Entry},(∀x∈a,J70 x y≠0)->mrg a (y::b)=mrg (J2Q a y) b
 |[],_=>by
  cases b with
  |nil=>simp[mrg,J2Q]
  |cons z b=>
   have:=(Jb2 (a:=y) (b:=z)).2 (hb z List.mem_cons_self);simp only[J2Q,mrg];rw[if_pos (by omega)]
 |x::a,ha=>by
  have hx:=ha x List.mem_cons_self;by_cases h:J70 x y<0
  ·have e1:mrg (x::a) (y::b)=x::mrg a (y::b):=by
    rw[mrg,if_pos (by omega)]
   have e2:J2Q (x::a) y=x::J2Q a y:=by rw[J2Q,if_pos h]
   rw[e1,e2,JGo hb λz hz=>ha z (JjM _ hz)];cases b with
   |nil=>rw[Jdc,Jdc]
   |cons z b=>
    have h2:=(Jb2 (a:=x) (b:=z)).2 (((Jb2 (a:=x) (b:=y)).1 h).trans (hb z List.mem_cons_self));rw[mrg.eq_3,if_pos (by omega)]
  ·have e1:mrg (x::a) (y::b)=y::mrg (x::a) b:=by
    rw[mrg,if_neg (by omega)]
   have e2:J2Q (x::a) y=y::x::a:=by rw[J2Q,if_neg h,if_neg hx]
   rw[e1,e2];cases b with
   |nil=>rw[Jdc,Jdc]
   |cons z b=>
    have h2:=(Jb2 (a:=y) (b:=z)).2 (hb z List.mem_cons_self);rw[mrg.eq_3 y (x::a) z b,if_pos (by omega)]
theorem JDn: ∀{b a:List T_api_Entry},b.Pairwise ltE->(∀x∈a,∀y∈b,J70 x y≠0)->mrg a b=b.foldl J2Q a
 |[],a,_,_=>Jdc a
 |y::b,a,hs,hd=>by
  obtain⟨h1,h2⟩:=List.pairwise_cons.1 hs;rw[JGo h1 λx hx=>hd x hx y List.mem_cons_self,List.foldl_cons];refine JDn h2 λx hx z hz=>?_;rcases JDx hx with hx|rfl
  ·exact hd x hx z (JjM _ hz)
  ·have:=(Jb2 (a:=x) (b:=z)).2 (h1 z hz);omega
theorem JmH: ∀{l:List T_api_Entry},(∀(j:Nat) (a b:T_api_Entry),l[j]?=some a->l[j+1]?=some b->ltE a b)->l.Pairwise ltE
 |[],_=>.nil
 |[x],_=>List.pairwise_singleton _ _
 |x::y::l,h=>by
  have ih:=JmH (l:=y::l) λj a b ha hb=>h (j+1) a b ha hb;refine List.pairwise_cons.2 ⟨λz hz=>?_,ih⟩;have e:=h 0 x y rfl rfl;rcases J2A.1 hz with rfl|hz
  ·exact e
  ·exact e.trans ((List.pairwise_cons.1 ih).1 z hz)
theorem JHE{r:Jm}(h:J3U r):r.2.2.2.2.2.Pairwise ltE:=
 JmH λj a b ha hb=>by
  rcases h.2.2.2.2 j a b ha hb with⟨q,_⟩|⟨q1,q2,_⟩
  ·exact .inl q
  ·exact .inr ⟨q1,q2⟩
theorem JIz(a0 h:List T_api_Entry)(hl:J0 a0+J0 h<=8192):J2y (a0,h)=some (mrg a0 h):=by
 have C:Tot (J2y (a0,h)) λy=>y=mrg a0 h:=by
  unfold J2y;refine Jb (τ:=List T_api_Entry×List T_api_Entry×List T_api_Entry) (λq=>q) (λq=>J0 q.1+J0 q.2.1+J0 q.2.2<=8192/\q.2.2++mrg q.1 q.2.1=mrg a0 h) (λq=>J0 q.1+J0 q.2.1) ?_ (a0,h,[]) rfl ⟨by show J0 a0+J0 h+J0 []<=8192;rw[Jey];omega,rfl⟩;rintro⟨a,b,out⟩ ⟨h1,h2⟩;dsimp only at h1 h2;have K:=J3 (l:=a);have G:=J3 (l:=b);have P:=J3 (l:=out);unfold J6l;dsimp only;cases a with
  |nil=>
   refine .eq (λ_=>.bind (Jp (Ja6 (by omega) (by decide))) λy d=>.some ?_) λc=>absurd rfl c;show y=_;rw[d,<-h2,mrg]
  |cons x a=>
   rw[J2c]at h1 K;have Q:=J3 (l:=a);refine .eq (λc=>by rw[J2c]at c;omega) λ_=>?_;cases b with
   |nil=>
    refine .eq (λ_=>.bind (Jp (Ja6 (by rw[J2c];omega) (by decide))) λy d=>.some ?_) λc=>absurd rfl c;show y=_;rw[d,<-h2,Jdc]
   |cons y b=>
    rw[J2c]at h1 G;have O:=J3 (l:=b);refine .eq (λc=>by rw[J2c]at c;omega) λ_=>?_;have D:idx (x::a) 0=some x:=rfl;have B:idx (y::b) 0=some y:=rfl;have s1:J0z (x::a) (some 1) none=some a:=by obtain⟨r,e,d,_⟩:=JdB (l:=x::a) (k:=1) (by decide) (by rw[J2c];omega);rw[e,d];rfl
    have H:J0z (y::b) (some 1) none=some b:=by obtain⟨r,e,d,_⟩:=JdB (l:=y::b) (k:=1) (by decide) (by rw[J2c];omega);rw[e,d];rfl
    have E: ∀z:T_api_Entry,Jy 128 out [z]=some (out++[z]):=λz=>Ja6 (by rw[J5U];omega) (by decide);have F: ∀z:T_api_Entry,J0 (out++[z])=J0 out+1:=λz=>by rw[Jb6,J5U]
    refine .bind (Jp D) λj L=>.bind (Jp B) λn J=>?_;subst L;subst J;refine .bind (Jp (JG5 j n)) λN I=>?_;subst I;refine .le (λc=>?_) λc=>?_
    ·refine .bind (Jp D) λg w=>?_;subst w;refine .bind (Jp (E g)) λM v=>.bind (Jp s1) λA o=>.some ⟨(a,n::b,out++[g]),by rw[v,o],⟨?_,?_⟩,?_,?_⟩
     ·show J0 a+J0 (n::b)+J0 (out++[g])<=8192;rw[F,J2c];omega
     ·show out++[g]++mrg a (n::b)=_;rw[<-h2,mrg,if_pos c,J7D];rfl
     ·show J0 a+J0 (n::b)<J0 (g::a)+J0 (n::b);rw[J2c,J2c];omega
     ·show 0<=J0 (g::a)+J0 (n::b);rw[J2c,J2c];omega
    ·refine .bind (Jp B) λg w=>?_;subst w;refine .bind (Jp (E g)) λM v=>.bind (Jp H) λA o=>.some ⟨(j::a,b,out++[g]),by rw[v,o],⟨?_,?_⟩,?_,?_⟩
     ·show J0 (j::a)+J0 b+J0 (out++[g])<=8192;rw[F,J2c];omega
     ·show out++[g]++mrg (j::a) b=_;rw[<-h2,mrg,if_neg c,J7D];rfl
     ·show J0 (j::a)+J0 b<J0 (j::a)+J0 (g::b);rw[J2c,J2c];omega
     ·show 0<=J0 (j::a)+J0 (g::b);rw[J2c,J2c];omega
 obtain⟨y,e,d⟩:=C;rw[e,d]
end
section
variable {B S:Int}
def J63(r:Jm):Prop:=Ty.fit 16384 9223372036854775807 JU r
theorem vv{r:Jm}(h:J63 r): ∃v,J1Z r=some v/\J10 r=some v/\(v=true->J3U r):=by
 obtain⟨y,e1,h1⟩:=JP3 r;obtain⟨z,e2,_⟩:=Jkj (B:=16384) (S:=9223372036854775807) h;refine⟨y,e1,?_,h1⟩;cases y with
 |true=>exact Js1 (h1 rfl)
 |false=>
  cases z with
  |false=>exact e2
  |true=>have:=J5L (J3U.of e2);rw[this]at e1;cases e1
theorem JdT(r:Jm):0<=J0 (ent r):=J3
theorem JN6(l:List T_api_Entry)(e:T_api_Entry):(J2Q l e).length<=l.length+1:=by
 induction l with
 |nil=>simp[J2Q]
 |cons x l ih=>
  unfold J2Q;split
  ·simp only[Jrb];omega
  ·split
   ·simp
   ·simp
theorem JCp{e:T_api_Entry}{l m:List T_api_Entry}(h: ∀y∈l,J70 y e<0):J2Q (l++m) e=l++J2Q m e:=by
 induction l with
 |nil=>rfl
 |cons y l ih=>
  rw[JdO,J2Q,if_pos (h y List.mem_cons_self),ih λz hz=>h z (JjM _ hz)];rfl
theorem JNx{l:List T_api_Entry}{e:T_api_Entry}(hl:J0 l<=16384):Tot (J3O (l,e)) λy=>y.1=J2Q l e:=by
 unfold J3O;have M:=J3 (l:=l);refine Jb (τ:=Int) (λq=>(l,q,e)) (λi=>0<=i/\i<=J0 l/\ ∀y∈l.take i.toNat,J70 y e<0) (λi=>J0 l-i) ?_ 0 rfl ⟨J0D _,M,λy hy=>by simp at hy⟩;rintro i ⟨A,h1,h2⟩;unfold J9j;dsimp only;have U:=Jg i 1;have hs:J2Q l e=l.take i.toNat++J2Q (l.drop i.toNat) e:=by have:=JCp (m:=l.drop i.toNat) h2;rwa[Jou]at this
 have put:(∀x,l[i.toNat]?=some x->0<J70 x e)->Tot ((J0z l none (some i)).bind λo=>(J1g 128 o).bind λv=>(Jy 128 v [e]).bind λw=>(J0z l (some i) none).bind λn=>(Jy 128 w n).bind λj=>some (j,true)) λy=>y.1=J2Q l e:=by
  intro hx;obtain⟨p,e1,G,q1⟩:=Jv7 (l:=l) (k:=i) A h1;obtain⟨r,e2,D,_⟩:=JdB (l:=l) (k:=i) A h1;have lp:J0 p<=16384:=by omega
  have hlen:J0 p+J0 r=J0 l:=by rw[G,D];unfold J0;rw[J6W,J9m];unfold J0 at h1;omega
  have np:=J3 (l:=p);have W:=J3 (l:=r);refine .bind (Jp e1) λo Q=>?_;subst Q;have N:J1g 128 o=some o:=by unfold J1g;rw[if_pos];unfold J61;unfold J0 at lp np;simp only[decide_eq_true_eq];omega
  refine .bind (Jp N) λv P=>?_;subst P;refine .bind (Jp (Ja6 (l:=v) (m:=[e]) (by rw[J5U];omega) (by decide))) λw J=>.bind (Jp e2) λn H=>?_;subst J;subst H;refine .bind (Jp (Ja6 (l:=v++[e]) (m:=n) (by rw[Jb6,J5U];omega) (by decide))) λj F=>.some ?_;show j=J2Q l e;rw[F,G,D,hs,J7D]
  congr 1
  cases hd:l.drop i.toNat with
  |nil=>rfl
  |cons x t=>
   have g:=hx x (by rw[<-List.head?_drop,hd];rfl);rw[J2Q,if_neg (by omega),if_neg (by omega)];rfl
 refine .lt (λc=>?_) λc=>.inr (.lt (λB=>absurd B c) λ_=>put λx hx=>by have:=J5P hx;omega);obtain⟨x,hx,h⟩:=J5F A c;refine .bind (Jp hx) λL K=>.bind (Jp (JFZ L e)) λY Z=>?_;subst K;refine .lt (λB=>.some ⟨J1 .i64 i 1,rfl,⟨by omega,by omega,λz hz=>?_⟩,by omega,by omega⟩) λB=>.inr (.lt (λ_=>?_) λC=>absurd c C)
 ·rw[show(J1 .i64 i 1).toNat=i.toNat+1 by omega,List.take_add_one,h]at hz;rcases J1Q.1 hz with hz|hz
  ·exact h2 z hz
  ·simp at hz;subst hz;omega
 ·refine .bind (Jp hx) λI O=>.bind (Jp (JFZ I e)) λV T=>?_;subst O;refine .eq (λC=>.bind (Jp hx) λR S=>.some ?_) λC=>put λx g=>by rw[h]at g;injection g with g;subst g;omega
  show l=J2Q l e;have hd:l.drop i.toNat=I::l.drop (i.toNat+1):=by
   have E:=(J5f.1 h).1;rw[List.drop_eq_getElem_cons E]
   congr 1
   exact(J5f.1 h).2
  rw[hs,hd,J2Q,if_neg (by omega),if_pos (by omega),<-hd,Jou]
theorem JrA(b a:List T_api_Entry):(b.foldl J2Q a).length<=a.length+b.length:=by
 induction b generalizing a with
 |nil=>simp
 |cons y b ih=>
  have:=ih (J2Q a y);have:=JN6 a y;simp only[List.foldl_cons,Jrb];omega
theorem JJE{a b:Jm}(ha:J0 (ent a)<=4096)(hb:J0 (ent b)<=4096):Tot (J83 (a,b)) λy=>y=(ent b).foldl J2Q (ent a):=by
 unfold J83;have r:=JdT a;have k:=JdT b;have n:J1g 128 (ent a)=some (ent a):=by unfold J1g;rw[if_pos];unfold J61;unfold J0 at ha r;simp only[decide_eq_true_eq];omega
 refine .bind (Jp n) λB j=>?_;subst j;refine Jb (τ:=Jvl) (λq=>(q.1,q.2,a,b)) (λq=>0<=q.2/\q.2<=J0 (ent b)/\q.1=((ent b).take q.2.toNat).foldl J2Q (ent a)) (λq=>J0 (ent b)-q.2) ?_ (ent a,0) rfl ⟨J0D _,k,by simp⟩;rintro⟨l,i⟩ ⟨h,h1,h2⟩;dsimp only at h h1 h2;unfold Jeq;dsimp only;have A:=Jg i 1;have hl:J0 l<=8192:=by rw[h2];have:=JrA ((ent b).take i.toNat) (ent a);rw[J6W]at this;unfold J0 at*;omega
 refine .lt (λc=>?_) λc=>.some ?_
 ·replace c:i<J0 (ent b):=c;obtain⟨x,hx,g⟩:=J5F (l:=ent b) h c;refine .bind (Jp hx) λw z=>.bind (JNx (e:=w) (by omega:J0 l<=16384)) λo v=>?_;subst z;refine .some ⟨(o.1,J1 .i64 i 1),rfl,⟨by first|omega|(dsimp only;omega),by first|omega|(dsimp only;omega),?_⟩,by first|omega|(dsimp only;omega),by first|omega|(dsimp only;omega)⟩;dsimp only;rw[show(J1 .i64 i 1).toNat=i.toNat+1 by omega,List.take_add_one,g,List.foldl_append,<-h2,v];rfl
 ·show l=_;have c': ¬i<J0 (ent b):=c;rw[h2,List.take_of_length_le (by unfold J0 at h1 c';omega)]
theorem JO5{l:List T_api_Entry}(h:J0 l<=16384):J1g 128 l=some l:=by have:=J3 (l:=l);unfold J1g;rw[if_pos];unfold J61;unfold J0 at h this;simp only[decide_eq_true_eq];omega
theorem Jjx{r:Jm}(h:J0 (ent r)<=4096):J3W (r,r)=some true:=by
 have g:Tot (J3W (r,r)) λy=>y=true:=by unfold J3W;exact .eq (λ_=>.eq (λ_=>.eq (λ_=>.eq (λ_=>.eq (λ_=>.bind (Jp (JIR (ent r) h)) λy d=>.some d) λc=>absurd rfl c) λc=>absurd rfl c) λc=>absurd rfl c) λc=>absurd rfl c) λc=>absurd rfl c
 obtain⟨y,e,d⟩:=g;rw[e,d]
end
section
variable {B S:Int}
theorem JEz{a b:Jm}(ha:J3U a)(hb:J3U b)(hc:b.1=J1 .i64 a.2.1 1):mrg (ent a) (ent b)=(ent b).foldl J2Q (ent a):=by refine JDn (JHE hb) λx hx y hy=>?_;obtain⟨j,hj⟩:=J6x hx;obtain⟨k,hk⟩:=J6x hy;have h1:=ha.2.2.1 j x hj;have h2:=hb.2.2.1 k y hk;have o:=Jg a.2.1 1;have q:=ha.1.2.2.1;have g:=ha.1.1;have q1:=ha.1.2.1;intro e;have e2:=(JJb.1 e).2;have h:=h1.2.2.2.1;have n:=h2.2.2.1;omega
theorem JKr(a b:Jm):Tot (J37 (a,b)) λy=>y=true↔(a.2.2.1=b.2.2.1/\a.2.2.2.1=b.2.2.2.1/\b.1=J1 .i64 a.2.1 1):=by unfold J37;exact .eq (λg=>.eq (λe=>.some ⟨λc=>⟨g,e,J81.1 c⟩,λc=>J81.2 c.2.2⟩) λe=>.some ⟨nofun,λc=>absurd c.2.1 e⟩) λg=>.some ⟨nofun,λc=>absurd c.1 g⟩
theorem Jpb{f t l h v:Int}{es:List T_api_Entry}(q:0<=f/\f<=1099511627777/\0<=t/\t<=1099511627777/\0<=l/\l<=100/\0<=h/\h<=100/\0<=v/\v<=100)(hl:J0 es<=16384)(he: ∀e∈es,Ty.fit 16384 9223372036854775807 J4 e):J63 (f,t,l,h,v,es):=
 ⟨J2.2 (show(-9223372036854775808:Int)<=f/\f<=9223372036854775807 by omega),J2.2 (show(-9223372036854775808:Int)<=t/\t<=9223372036854775807 by omega),J2.2 (show(-9223372036854775808:Int)<=l/\l<=9223372036854775807 by omega),J2.2 (show(-9223372036854775808:Int)<=h/\h<=9223372036854775807 by omega),J2.2 (show(-9223372036854775808:Int)<=v/\v<=9223372036854775807 by omega),hl,he⟩
theorem JLN{b a:List T_api_Entry}{z:T_api_Entry}(h:z∈b.foldl J2Q a):z∈a\/z∈b:=by
 induction b generalizing a with
 |nil=>exact .inl h
 |cons y b ih=>
  rcases ih h with h|h
  ·rcases JDx h with h|rfl
   ·exact .inl h
   ·exact .inr List.mem_cons_self
  ·exact .inr (JjM _ h)
theorem JPM{a b:Jm}(ha:J63 a)(hb:J63 b): ∃z,J0J (a,b)=some z/\J1E (a,b)=some z/\J0 (ent z.1)<=4096:=by
 obtain⟨N,e1,e2,V⟩:=vv ha;obtain⟨vb,A,w,L⟩:=vv hb;have z0:J0 (ent rZ)<=4096:=by decide
 cases N with
 |false=>
  refine⟨(rZ,40),?_,?_,z0⟩
  ·unfold J0J;dsimp only;rw[e1];rfl
  ·unfold J1E;dsimp only;rw[e2];rfl
 |true=>
 cases vb with
 |false=>
  refine⟨(rZ,40),?_,?_,z0⟩
  ·unfold J0J;dsimp only;rw[e1,A];rfl
  ·unfold J1E;dsimp only;rw[e2,w];rfl
 |true=>
 have F:=V rfl;have rb:=L rfl;have la:J0 (ent a)<=4096:=F.2.1;have T:J0 (ent b)<=4096:=rb.2.1;obtain⟨a1,a2,a3,a4,a5,a6,Y,W⟩:=F.1;obtain⟨b1,b2,Z,b4,b5,b6,b7,b8⟩:=rb.1;obtain⟨J,B,hc⟩:=JKr a b;obtain⟨u,H,hu⟩:=JJE la T;have m1:=Jhw a.2.2.2.2.1 b.2.2.2.2.1;have om:=Jg (J1P a.2.2.2.2.1 b.2.2.2.2.1) 1;have ol:=Jg (J0 (ent a)) (J0 (ent b));have na:=JdT a;have nb:=JdT b;by_cases c:a.2.2.1=b.2.2.1/\a.2.2.2.1=b.2.2.2.1/\b.1=J1 .i64 a.2.1 1
 ·have v:=hc.2 c;subst v;have hm:=JEz F rb c.2.2;have I:=JIz (ent a) (ent b) (by omega);rw[hm,<-hu]at I;have lu:J0 u<=8192:=by rw[hu];have:=JrA (ent b) (ent a);unfold J0 at*;omega
  by_cases G:8<=J1P a.2.2.2.2.1 b.2.2.2.2.1
  ·refine⟨(rZ,21),?_,?_,z0⟩
   ·have k:Tot (J0J (a,b)) λy=>y=(rZ,21):=by
     unfold J0J;exact .bind (Jp e1) λr g=>.nof (λ_=>.bind (Jp A) λo j=>.not (λc=>by rw[j]at c;cases c) λ_=>.bind (Jp B) λx n=>.not (λc=>by rw[n]at c;cases c) λ_=>.gef (λc=>absurd G c) λ_=>.some rfl) λc=>by rw[g]at c;cases c
    obtain⟨y,e,d⟩:=k;rw[e,d]
   ·have k:Tot (J1E (a,b)) λy=>y=(rZ,21):=by
     unfold J1E;exact .bind (Jp e2) λr g=>.nof (λ_=>.bind (Jp w) λo j=>.not (λc=>by rw[j]at c;cases c) λ_=>.nef (λ_=>.nef (λ_=>.ne (λq=>absurd c.2.2 q) λ_=>.bind (Jp H) λx n=>.gtf (λq=>absurd (show 8<J1 .i64 (J1P a.2.2.2.2.1 b.2.2.2.2.1) 1 by omega) q) λ_=>.some rfl) λq=>absurd c.2.1 q) λq=>absurd c.1 q) λc=>by rw[g]at c;cases c
    obtain⟨y,e,d⟩:=k;rw[e,d]
  ·by_cases C:4096<J1 .i64 (J0 (ent a)) (J0 (ent b))
   ·refine⟨(rZ,21),?_,?_,z0⟩
    ·have k:Tot (J0J (a,b)) λy=>y=(rZ,21):=by
      unfold J0J;exact .bind (Jp e1) λr g=>.nof (λ_=>.bind (Jp A) λo j=>.not (λc=>by rw[j]at c;cases c) λ_=>.bind (Jp B) λx n=>.not (λc=>by rw[n]at c;cases c) λ_=>.gef (λ_=>.gt (λ_=>.some rfl) λq=>absurd C q) λq=>absurd q G) λc=>by rw[g]at c;cases c
     obtain⟨y,e,d⟩:=k;rw[e,d]
    ·have k:Tot (J1E (a,b)) λy=>y=(rZ,21):=by
      unfold J1E;exact .bind (Jp e2) λr g=>.nof (λ_=>.bind (Jp w) λo j=>.not (λc=>by rw[j]at c;cases c) λ_=>.nef (λ_=>.nef (λ_=>.ne (λq=>absurd c.2.2 q) λ_=>.bind (Jp H) λx n=>.gtf (λ_=>.gt (λ_=>.some rfl) λq=>absurd C q) λq=>absurd (show¬8<J1 .i64 (J1P a.2.2.2.2.1 b.2.2.2.2.1) 1 by omega) (λh=>h q)) λq=>absurd c.2.1 q) λq=>absurd c.1 q) λc=>by rw[g]at c;cases c
     obtain⟨y,e,d⟩:=k;rw[e,d]
   ·have K:J0 u<=4096:=by
     rw[hu];have:=JrA (ent b) (ent a);unfold J0 at*;omega
    have hf:J63 (a.1,b.2.1,a.2.2.1,a.2.2.2.1,J1 .i64 (J1P a.2.2.2.2.1 b.2.2.2.2.1) 1,u):=Jpb (by omega) (by omega) λz hz=>by
     rw[hu]at hz;rcases JLN hz with h|h
     ·exact ha.2.2.2.2.2.2 z h
     ·exact hb.2.2.2.2.2.2 z h
    obtain⟨D,R,O,_⟩:=vv hf;refine⟨if D=true then((a.1,b.2.1,a.2.2.1,a.2.2.2.1,J1 .i64 (J1P a.2.2.2.2.1 b.2.2.2.2.1) 1,u),0)else(rZ,13),?_,?_,by cases D;exact z0;exact K⟩
    ·have k:Tot (J0J (a,b)) λy=>y=if D=true then((a.1,b.2.1,a.2.2.1,a.2.2.2.1,J1 .i64 (J1P a.2.2.2.2.1 b.2.2.2.2.1) 1,u),0)else(rZ,13):=by
      unfold J0J;refine .bind (Jp e1) λr g=>.nof (λ_=>.bind (Jp A) λo j=>.not (λc=>by rw[j]at c;cases c) λ_=>.bind (Jp B) λx n=>.not (λc=>by rw[n]at c;cases c) λ_=>.gef (λ_=>.gt (λq=>absurd q C) λ_=>.bind (Jp I) λy5 S=>?_) λq=>absurd q G) λc=>by rw[g]at c;cases c
      subst S;refine .bind (Jp R) λU E=>?_;subst E;exact .not (λc=>by rw[c];exact .some rfl) λc=>by rw[c];exact .some rfl
     obtain⟨y,e,d⟩:=k;rw[e,d]
    ·have k:Tot (J1E (a,b)) λy=>y=if D=true then((a.1,b.2.1,a.2.2.1,a.2.2.2.1,J1 .i64 (J1P a.2.2.2.2.1 b.2.2.2.2.1) 1,u),0)else(rZ,13):=by
      unfold J1E;refine .bind (Jp e2) λr g=>.nof (λ_=>.bind (Jp w) λo j=>.not (λc=>by rw[j]at c;cases c) λ_=>.nef (λ_=>.nef (λ_=>.ne (λq=>absurd c.2.2 q) λ_=>.bind (Jp H) λx n=>.gtf (λ_=>.gt (λq=>absurd q C) λ_=>?_) λq=>absurd (show¬8<J1 .i64 (J1P a.2.2.2.2.1 b.2.2.2.2.1) 1 by omega) (λh=>h q)) λq=>absurd c.2.1 q) λq=>absurd c.1 q) λc=>by rw[g]at c;cases c
      subst n;refine .bind (Jp O) λU E=>?_;subst E;exact .not (λc=>by rw[c];exact .some rfl) λc=>by rw[c];exact .some rfl
     obtain⟨y,e,d⟩:=k;rw[e,d]
 ·have v:J=false:=by
   cases J with
   |false=>rfl
   |true=>exact absurd (hc.1 rfl) c
  subst v;refine⟨(rZ,41),?_,?_,z0⟩
  ·unfold J0J;dsimp only;rw[e1,A,JJ,if_pos (by decide),JJ,if_neg (by decide),B];rfl
  ·have k:Tot (J1E (a,b)) λy=>y=(rZ,41):=by
    unfold J1E;exact .bind (Jp e2) λr g=>.nof (λ_=>.bind (Jp w) λo j=>.not (λc=>by rw[j]at c;cases c) λ_=>.nef (λP=>.nef (λM=>.ne (λ_=>.some rfl) λQ=>absurd ⟨P,M,Q⟩ c) λ_=>.some rfl) λ_=>.some rfl) λc=>by rw[g]at c;cases c
   obtain⟨y,e,d⟩:=k;rw[e,d]
theorem JPF{a b:Jm}(ha:J63 a)(hb:J63 b): ∃z,J1r (a,b)=some z/\J2B (a,b)=some z/\J0 (ent z.1)<=4096:=by
 obtain⟨H,e1,e2,K⟩:=vv ha;obtain⟨vb,x,A,G⟩:=vv hb;have z0:J0 (ent rZ)<=4096:=by decide
 cases H with
 |false=>
  refine⟨(rZ,40),?_,?_,z0⟩
  ·unfold J1r;dsimp only;rw[e1];rfl
  ·unfold J2B;dsimp only;rw[e2];rfl
 |true=>
 cases vb with
 |false=>
  refine⟨(rZ,40),?_,?_,z0⟩
  ·unfold J1r;dsimp only;rw[e1,x];rfl
  ·unfold J2B;dsimp only;rw[e2,A];rfl
 |true=>
 have la:J0 (ent a)<=4096:=(K rfl).2.1;have O:J0 (ent b)<=4096:=(G rfl).2.1;have N:=JdT a;have L:=JdT b;have P:=Jg (J0 (ent a)) (J0 (ent b));have F: ∀(h:J0 (ent a)+J0 (ent b)<=4096),J2M [ent a,ent b]=some (ent a++ent b):=λh=>by show(if(ent a).length+(ent b).length<=8192 then some (ent a++ent b)else none)=_;rw[if_pos (by unfold J0 at h;omega)]
 by_cases c:(a.1=b.1/\a.2.1=b.2.1/\a.2.2.2.2.1=b.2.2.2.2.1)/\b.2.2.1=J1 .i64 a.2.2.2.1 1
 ·obtain⟨⟨r,v,w⟩,C⟩:=c;by_cases B:4096<J1 .i64 (J0 (ent a)) (J0 (ent b))
  ·refine⟨(rZ,21),?_,?_,z0⟩
   ·have k:Tot (J1r (a,b)) λy=>y=(rZ,21):=by
     unfold J1r;exact .bind (Jp e1) λo g=>.nof (λ_=>.bind (Jp x) λn j=>.not (λc=>by rw[j]at c;cases c) λ_=>.nef (λ_=>.nef (λ_=>.nef (λ_=>.ne (λq=>absurd C q) λ_=>.gt (λ_=>.some rfl) λq=>absurd B q) λq=>absurd w q) λq=>absurd v q) λq=>absurd r q) λc=>by rw[g]at c;cases c
    obtain⟨y,e,d⟩:=k;rw[e,d]
   ·have k:Tot (J2B (a,b)) λy=>y=(rZ,21):=by
     unfold J2B;exact .bind (Jp e2) λo g=>.nof (λ_=>.bind (Jp A) λn j=>.not (λc=>by rw[j]at c;cases c) λ_=>.nef (λ_=>.nef (λ_=>.nef (λ_=>.ne (λq=>absurd C q) λ_=>.gt (λ_=>.some rfl) λq=>absurd B q) λq=>absurd w q) λq=>absurd v q) λq=>absurd r q) λc=>by rw[g]at c;cases c
    obtain⟨y,e,d⟩:=k;rw[e,d]
  ·refine⟨((a.1,a.2.1,a.2.2.1,b.2.2.2.1,a.2.2.2.2.1,ent a++ent b),0),?_,?_,?_⟩
   ·have k:Tot (J1r (a,b)) λy=>y=((a.1,a.2.1,a.2.2.1,b.2.2.2.1,a.2.2.2.2.1,ent a++ent b),0):=by
     unfold J1r;exact .bind (Jp e1) λo g=>.nof (λ_=>.bind (Jp x) λn j=>.not (λc=>by rw[j]at c;cases c) λ_=>.nef (λ_=>.nef (λ_=>.nef (λ_=>.ne (λq=>absurd C q) λ_=>.gt (λq=>absurd q B) λ_=>.bind (Jp (F (by omega))) λJ E=>.some (by rw[E])) λq=>absurd w q) λq=>absurd v q) λq=>absurd r q) λc=>by rw[g]at c;cases c
    obtain⟨y,e,d⟩:=k;rw[e,d]
   ·have k:Tot (J2B (a,b)) λy=>y=((a.1,a.2.1,a.2.2.1,b.2.2.2.1,a.2.2.2.2.1,ent a++ent b),0):=by
     unfold J2B;refine .bind (Jp e2) λo g=>.nof (λ_=>.bind (Jp A) λn j=>.not (λc=>by rw[j]at c;cases c) λ_=>.nef (λ_=>.nef (λ_=>.nef (λ_=>.ne (λq=>absurd C q) λ_=>.gt (λq=>absurd q B) λ_=>.bind (Jp (JO5 (l:=ent a) (by omega))) λJ E=>?_) λq=>absurd w q) λq=>absurd v q) λq=>absurd r q) λc=>by rw[g]at c;cases c
     subst E;exact .bind (Jp (Ja6 (l:=ent a) (m:=ent b) (by omega) (by decide))) λM I=>.some (by rw[I])
    obtain⟨y,e,d⟩:=k;rw[e,d]
   ·show J0 (ent a++ent b)<=4096;rw[Jb6];omega
 ·refine⟨(rZ,41),?_,?_,z0⟩
  ·have k:Tot (J1r (a,b)) λy=>y=(rZ,41):=by
    unfold J1r;exact .bind (Jp e1) λo g=>.nof (λ_=>.bind (Jp x) λn j=>.not (λc=>by rw[j]at c;cases c) λ_=>.nef (λq1=>.nef (λq2=>.nef (λq3=>.ne (λ_=>.some rfl) λD=>absurd ⟨⟨q1,q2,q3⟩,D⟩ c) λ_=>.some rfl) λ_=>.some rfl) λ_=>.some rfl) λc=>by rw[g]at c;cases c
   obtain⟨y,e,d⟩:=k;rw[e,d]
  ·have k:Tot (J2B (a,b)) λy=>y=(rZ,41):=by
    unfold J2B;exact .bind (Jp e2) λo g=>.nof (λ_=>.bind (Jp A) λn j=>.not (λc=>by rw[j]at c;cases c) λ_=>.nef (λq1=>.nef (λq2=>.nef (λq3=>.ne (λ_=>.some rfl) λD=>absurd ⟨⟨q1,q2,q3⟩,D⟩ c) λ_=>.some rfl) λ_=>.some rfl) λ_=>.some rfl) λc=>by rw[g]at c;cases c
   obtain⟨y,e,d⟩:=k;rw[e,d]
theorem JJo{r:Jm}{p:Int}{k:Nat}(h:J3U r)(c:Cut r p k)(h1:r.2.2.1<p)(h2:p<=r.2.2.2.1):J1x (r,p)=some (JB5 r p k,Jt5 r p k,0):=by
 have I:=JdT r;have E:J0 (ent r)<=4096:=h.2.1;obtain⟨a1,a2,a3,a4,V,Z,U,T⟩:=h.1;have os:=J0H p 1;have C:Tot (J1x (r,p)) λy=>y=(JB5 r p k,Jt5 r p k,0):=by
  unfold J1x;refine .bind (Jp (Js1 h)) λy2 G=>.not (λc=>by rw[G]at c;cases c) λ_=>.lef (λ_=>.gt (λq=>absurd h2 (Int.not_le.2 q)) λ_=>?_) λq=>absurd h1 (Int.not_lt.2 q);dsimp only;refine Jb (τ:=JQ6) (λq=>(p,q.1,r,[],r.1,r.2.1,r.2.2.1,JG .i64 p 1,r.2.2.2.2.1,[],r.1,r.2.1,p,r.2.2.2.1,r.2.2.2.2.1,q.2.1,q.2.2)) (λq=>0<=q.1/\q.1<=J0 (ent r)/\q.2.1=((ent r).take q.1.toNat).take k/\q.2.2=((ent r).take q.1.toNat).drop k) (λq=>J0 (ent r)-q.1) ?_ (0,[],[]) rfl ⟨J0D _,I,by simp,by simp⟩;rintro⟨i,lo,hi⟩ ⟨B,g1,g2,v⟩;dsimp only at B g1 g2 v;unfold Jgc;dsimp only;have W:=Jg i 1;refine .lt (λg=>?_) λg=>.some ?_
  ·replace g:i<J0 (ent r):=g;obtain⟨x,hx,j⟩:=J5F (l:=ent r) B g;have Q:i.toNat<(ent r).length:=(J5f.1 j).1;have o:(J1 .i64 i 1).toNat=i.toNat+1:=by omega
   have n:(ent r).take (i.toNat+1)=(ent r).take i.toNat++[x]:=by rw[List.take_add_one,j];rfl
   have z:((ent r).take i.toNat).length=i.toNat:=by rw[J6W];omega
   have P:J0 lo<=4096:=by rw[g2];unfold J0 at E⊢;rw[J6W,J6W];omega
   have S:J0 hi<=4096:=by rw[v];unfold J0 at E⊢;rw[J9m,J6W];omega
   refine .bind (Jp hx) λY O=>?_;subst O;refine .lt (λcp=>.bind (Jp hx) λw M=>?_) λcp=>.bind (Jp hx) λF H=>?_
   ·subst M;have D:i.toNat<k:=by
     rcases zQ1 i.toNat k with q|q
     ·exact q
     ·have:=c.hi _ _ q j;have R:pgE w<p:=cp;omega
    refine .bind (Jp (Ja6 (l:=lo) (m:=[w]) (by rw[J5U];omega) (by decide))) λL K=>.some ⟨(J1 .i64 i 1,L,hi),rfl,⟨by first|omega|(dsimp only;omega),by first|omega|(dsimp only;omega),?_,?_⟩,by first|omega|(dsimp only;omega),by first|omega|(dsimp only;omega)⟩
    ·dsimp only;rw[K,o,n,g2,List.take_of_length_le (l:=(ent r).take i.toNat) (by omega),List.take_of_length_le (l:=(ent r).take i.toNat++[w]) (by rw[J8q,z,List.length_singleton];omega)]
    ·dsimp only;rw[o,n,v,List.drop_eq_nil_of_le (as:=(ent r).take i.toNat) (by omega),List.drop_eq_nil_of_le (as:=(ent r).take i.toNat++[w]) (by rw[J8q,z,List.length_singleton];omega)]
   ·subst H;have D:k<=i.toNat:=by
     rcases zQ1 i.toNat k with q|q
     ·exact absurd (c.lo _ _ q j) cp
     ·exact q
    refine .bind (Jp (Ja6 (l:=hi) (m:=[F]) (by rw[J5U];omega) (by decide))) λJ N=>.some ⟨(J1 .i64 i 1,lo,J),rfl,⟨by first|omega|(dsimp only;omega),by first|omega|(dsimp only;omega),?_,?_⟩,by first|omega|(dsimp only;omega),by first|omega|(dsimp only;omega)⟩
    ·dsimp only;rw[o,n,g2,List.take_append_of_le_length (by omega)]
    ·dsimp only;rw[N,o,n,v,List.drop_append_of_le_length (by omega)]
  ·replace g: ¬i<J0 (ent r):=g;have A:(ent r).take i.toNat=ent r:=List.take_of_length_le (by unfold J0 at g;omega);rw[A]at g2 v;subst g2;subst v;have e1:JG .i64 p 1=p-1:=by omega
   rw[e1];rfl
 obtain⟨y,e,d⟩:=C;rw[e,d]
theorem JLY{r:Jm}{p:Int}(hr:J63 r)(hp:Ty.fit 0 0 (.i .i64) p): ∃z,J1u (r,p)=some z/\J1x (r,p)=some z/\J0 (ent z.1)<=4096/\J0 (ent z.2.1)<=4096/\J63 z.1/\J63 z.2.1:=by
 obtain⟨v,e1,e2,o⟩:=vv hr;have z0:J0 (ent rZ)<=4096:=by decide
 have n:J63 rZ:=Jpb (by omega) (by decide) λz hz=>by cases hz
 cases v with
 |false=>
  refine⟨(rZ,rZ,40),?_,?_,z0,z0,n,n⟩
  ·unfold J1u;dsimp only;rw[e1];rfl
  ·unfold J1x;dsimp only;rw[e2];rfl
 |true=>
 have h:=o rfl;by_cases w:p<=r.2.2.1
 ·refine⟨(rZ,rZ,1),?_,?_,z0,z0,n,n⟩
  ·have k:Tot (J1u (r,p)) λy=>y=(rZ,rZ,1):=by
    unfold J1u;exact .bind (Jp e1) λB j=>.not (λc=>by rw[j]at c;cases c) λ_=>.lef (λq=>absurd w q) λ_=>.some rfl
   obtain⟨y,e,d⟩:=k;rw[e,d]
  ·have k:Tot (J1x (r,p)) λy=>y=(rZ,rZ,1):=by
    unfold J1x;exact .bind (Jp e2) λB j=>.not (λc=>by rw[j]at c;cases c) λ_=>.lef (λq=>absurd w q) λ_=>.some rfl
   obtain⟨y,e,d⟩:=k;rw[e,d]
 ·by_cases C:r.2.2.2.1<p
  ·refine⟨(rZ,rZ,1),?_,?_,z0,z0,n,n⟩
   ·have k:Tot (J1u (r,p)) λy=>y=(rZ,rZ,1):=by
     unfold J1u;exact .bind (Jp e1) λB j=>.not (λc=>by rw[j]at c;cases c) λ_=>.lef (λ_=>.gt (λ_=>.some rfl) λq=>absurd C q) λq=>absurd q w
    obtain⟨y,e,d⟩:=k;rw[e,d]
   ·have k:Tot (J1x (r,p)) λy=>y=(rZ,rZ,1):=by
     unfold J1x;exact .bind (Jp e2) λB j=>.not (λc=>by rw[j]at c;cases c) λ_=>.lef (λ_=>.gt (λ_=>.some rfl) λq=>absurd C q) λq=>absurd q w
    obtain⟨y,e,d⟩:=k;rw[e,d]
  ·obtain⟨z,E,k,hk,D⟩:=JKV h hp (by omega) (by omega);subst D;have A:=JMV h hk (by omega) (by omega);have x:=JK8 h hk (by omega) (by omega);have g:=h.1;refine⟨_,E,JJo h hk (by omega) (by omega),A.2.1,x.2.1,?_,?_⟩
   ·exact Jpb (by have:=g.1;have:=g.2.1;have:=g.2.2.1;have:=g.2.2.2.1;have:=g.2.2.2.2.1;have:=g.2.2.2.2.2.1;have:=g.2.2.2.2.2.2.1;have:=g.2.2.2.2.2.2.2;omega) (by have:=A.2.1;show J0 ((ent r).take k)<=16384;have q:J0 ((ent r).take k)<=4096:=this;omega) λz hz=>hr.2.2.2.2.2.2 z (JDv hz)
   ·exact Jpb (by have:=g.1;have:=g.2.1;have:=g.2.2.1;have:=g.2.2.2.1;have:=g.2.2.2.2.1;have:=g.2.2.2.2.2.1;have:=g.2.2.2.2.2.2.1;have:=g.2.2.2.2.2.2.2;omega) (by have:=x.2.1;show J0 ((ent r).drop k)<=16384;have q:J0 ((ent r).drop k)<=4096:=this;omega) λz hz=>hr.2.2.2.2.2.2 z (JCB hz)
end
section
variable {B S:Int}
theorem JIM{a:Jm}{p:Int}(ha:J63 a)(hp:Ty.fit 0 0 (.i .i64) p):Tot (J1x (a,p)) λy=>J63 y.1/\J63 y.2.1:=by obtain⟨z,_,e,_,_,h1,h2⟩:=JLY ha hp;exact⟨z,e,h1,h2⟩
theorem JM2{z:List UInt8}(h:Ty.inR .s z):Ty.fit 16384 9223372036854775807 .s z:=by show J0 z<=9223372036854775807;have h2:z.length<=maxLen:=h;unfold maxLen at h2;unfold J0;omega
theorem J8h{z:Int}(h:Ty.inR (.i .i64) z):Ty.fit 16384 9223372036854775807 (.i .i64) z:=by rw[J2];simpa[Ty.inR,IntKind.min,IntKind.max,IntKind.signed,IntKind.bits]using h
theorem JLT{c:J2f}(h:Ty.inR JC c):Ty.fit 16384 9223372036854775807 JC c:=⟨trivial,JM2 h.2⟩
theorem JMK{r:Jm}(h:Ty.inR JU r)(hl:J0 (ent r)<=16384):J63 r:=
 ⟨J8h h.1,J8h h.2.1,J8h h.2.2.1,J8h h.2.2.2.1,J8h h.2.2.2.2.1,hl,λe he=>by
   have g:=h.2.2.2.2.2.2 e he;exact⟨J8h g.1,J8h g.2.1,J8h g.2.2.1,J8h g.2.2.2.1,J8h g.2.2.2.2.1,J8h g.2.2.2.2.2.1,⟨J8h g.2.2.2.2.2.2.1.1,J8h g.2.2.2.2.2.2.1.2.1,JLT g.2.2.2.2.2.2.1.2.2.1,JLT g.2.2.2.2.2.2.1.2.2.2⟩,JM2 g.2.2.2.2.2.2.2⟩⟩
theorem JgD{n:List Int}{x1:Jm}{h:Int}(w0:Ty.inR (.l (.i .u8)) n)(w1:Ty.inR JU x1)(w2:Ty.inR (.i .i64) h):J3R (n,x1,h)=some true:=by
 have Z:Tot (J3R (n,x1,h)) λy=>y=true:=by
  have q2:Ty.fit 0 0 (.i .i64) h:=by rw[J2];simpa[Ty.inR,IntKind.min,IntKind.max,IntKind.signed,IntKind.bits]using w2
  have f0:Ty.fit (J0 n) 0 (.l (.i .u8)) n:=⟨J0D _,λa ha=>by have:=w0.2 a ha;rw[JCo];simpa[Ty.inR,IntKind.min,IntKind.max,IntKind.signed,IntKind.bits]using this⟩
  have au:0<=J0 n:=J3;unfold J3R;dsimp only;refine .bind (Jp JGV) λy2 x=>.nof (λ_=>.gt (λc=>.some (J9v.2 c)) λcs=>?_) λc=>by rw[x]at c;cases c
  refine .bind ((JGt (B:=J0 n) (S:=0) (x1:=(n,400)) ⟨f0,JcZ .i64 400⟩ (by show(0:Int)<=400;decide)).eqn) λP h3=>?_;obtain⟨n1,n2⟩:=JMc h3.2;have f3:Ty.fit 16384 1073741824 J6 P:=⟨⟨by show J0 P.1<=16384;omega,λa ha=>h3.1.1.1.2 a ha⟩,h3.1.1.2⟩;refine .bind (Jz1 (B:=16384) (S:=1073741824) f3 (by omega)) λg h4=>?_;have Y:J63 g.1:=h4.1.1.u;have r2:J63 g.2.1:=h4.1.2.1.u;have r3:J63 g.2.2.1:=h4.1.2.2.1.u;have rx:J63 x1:=JMK w1 (show J0 (ent x1)<=16384 by have: ¬60<J0 (ent x1):=cs;omega);refine .bind (JIM (p:=J1 .i64 g.1.2.2.1 1) Y J5) λv h5=>?_;have H: ∀r∈[g.1,g.2.1,g.2.2.1,v.1,v.2.1,x1],J63 r:=by
   intro r hr;simp only[J2A,List.not_mem_nil,or_false]at hr;rcases hr with rfl|rfl|rfl|rfl|rfl|rfl
   ·exact Y
   ·exact r2
   ·exact r3
   ·exact h5.1
   ·exact h5.2
   ·exact rx
  have J:J0 [g.1,g.2.1,g.2.2.1,v.1,v.2.1,x1]=6:=rfl;generalize [g.1,g.2.1,g.2.2.1,v.1,v.2.1,x1]=l at H J;have M:Ty.fit 16384 1073741824 J6 g.2.2.2/\0<=g.2.2.2.2:=⟨h4.1.2.2.2,h4.2⟩;generalize g.2.2.2=D at M;generalize g.1=a1;generalize g.2.1=a2;generalize g.2.2.1=a3;generalize v.1=a4;generalize v.2.1=K;refine Jb (τ:=JaY) (λq=>(h,l,q.1,x1,q.2,a1,a2,a3,a4,K)) (λq=>0<=q.1/\q.1<=6/\Ty.fit 16384 1073741824 J6 q.2/\0<=q.2.2) (λq=>6-q.1) ?_ (0,D) rfl ⟨J0D _,by dsimp only;omega,M.1,M.2⟩;rintro⟨i,D⟩ ⟨g1,g2,g3,V⟩;dsimp only at g1 g2 g3 V;unfold J7h;dsimp only;rw[J];refine .lt (λci=>?_) λ_=>.some rfl;obtain⟨ra,w,Q⟩:=J5F (l:=l) g1 (by omega);have N:=H _ (zQ9 Q);refine Jb (τ:=Int) (λk=>(h,l,i,k,x1,D,a1,a2,a3,a4,K)) (λk=>0<=k/\k<=6) (λk=>6-k) ?_ 0 rfl ⟨by decide,by decide⟩;rintro k ⟨k1,k2⟩;unfold J7z;dsimp only;rw[J];have o1:=Jg k 1;refine .lt (λck=>?_) λ_=>.inr ?_
  ·obtain⟨rb,C,O⟩:=J5F (l:=l) k1 (by omega);have W:=H _ (zQ9 O);obtain⟨m,m1,m2,m3⟩:=JPM N W;obtain⟨j,j1,j2,j3⟩:=JPF N W;refine .bind (Jp w) λA e1=>.bind (Jp C) λu2 e2=>?_;subst e1;subst e2;refine .bind (Jp m1) λu3 e3=>.bind (Jp w) λu4 e4=>.bind (Jp C) λu5 e5=>?_;subst e3;subst e4;subst e5;refine .bind (Jp m2) λu6 e6=>.bind (Jp w) λu7 e7=>.bind (Jp C) λu8 e8=>?_;subst e6;subst e7;subst e8;refine .bind (Jp j1) λu9 e9=>.bind (Jp w) λv1 G=>.bind (Jp C) λv2 x=>?_;subst e9;subst G;subst x;refine .bind (Jp j2) λv3 F=>?_;subst F;exact .nef (λ_=>.bind (Jp (Jjx m3)) λv4 I=>.nof (λ_=>.nef (λ_=>.bind (Jp (Jjx j3)) λv5 L=>.not (λc=>by rw[L]at c;cases c) λ_=>.some ⟨J1 .i64 k 1,rfl,⟨by omega,by omega⟩,by omega,by omega⟩) λc=>absurd rfl c) λc=>by rw[I]at c;cases c) λc=>absurd rfl c
  ·refine .bind (Jp w) λA e1=>.bind (Jo (B:=16384) (S:=1073741824) (x1:=(5,D)) ⟨JcZ .i64 5,g3⟩ V) λo E=>?_;have U:J0 [h,J1 .i64 A.2.2.1 o.1]=2:=rfl;rw[U];have R: ∀p∈[h,J1 .i64 A.2.2.1 o.1],Ty.fit 0 0 (.i .i64) p:=by
    intro p hp;simp only[J2A,List.not_mem_nil,or_false]at hp;rcases hp with rfl|rfl
    ·exact q2
    ·exact J5
   generalize [h,J1 .i64 A.2.2.1 o.1]=ps at R U;refine Jb (τ:=Int) (λk=>(h,l,i,ps,2,k,x1,o.2,a1,a2,a3,a4,K)) (λk=>0<=k/\k<=2) (λk=>2-k) ?_ 0 rfl ⟨by decide,by decide⟩;rintro k ⟨k1,k2⟩;unfold J7i;dsimp only;have o1:=Jg k 1;have o2:=Jg i 1;refine .lt (λck=>?_) λ_=>.some ⟨(J1 .i64 i 1,o.2),rfl,⟨by show 0<=J1 .i64 i 1;omega,by show J1 .i64 i 1<=6;omega,E.1.2,E.2.2.2⟩,by show 6-J1 .i64 i 1<6-i;omega,by show 0<=6-i;omega⟩;obtain⟨p,ep,T⟩:=J5F (l:=ps) k1 (by omega);obtain⟨z,z1,z2,z3,z4,_,_⟩:=JLY N (R _ (zQ9 T));refine .bind (Jp ep) λv1 G=>.bind (Jp w) λv2 x=>?_;subst G;subst x;refine .bind (Jp z1) λv3 F=>.bind (Jp w) λv4 I=>?_;subst F;subst I;refine .bind (Jp z2) λv5 L=>?_;subst L;exact .nef (λ_=>.bind (Jp (Jjx z3)) λv6 d6=>.nof (λ_=>.bind (Jp (Jjx z4)) λv7 d7=>.not (λc=>by rw[d7]at c;cases c) λ_=>.some ⟨J1 .i64 k 1,rfl,⟨by omega,by omega⟩,by omega,by omega⟩) λc=>by rw[d6]at c;cases c) λc=>absurd rfl c
 obtain⟨y,e,d⟩:=Z;rw[e,d]
end
end Go.Am
end
section
namespace Go.Am
set_option maxRecDepth 20000
def lkA{α:Type}(f:FuncId):List (FuncId×α)->Option α
 |[]=>none
 |(g,a)::r=>if f=g then some a else lkA f r
noncomputable def JHF:List (FuncId×AFn):=[(20,erF J8x),(8,erF Jst),(24,erF J9M),(64,erF Jfq),(54,erF Jcu),(53,erF JoH),(42,erF Ji8),(25,erF JbT),(50,erF JhJ),(71,erF JbP),(70,erF Jhq),(61,erF JiG),(60,erF JnC),(59,erF JdY),(62,erF JdD),(63,erF JdU),(51,erF JkR),(40,erF JkX),(39,erF Jgb),(52,erF Jgn),(41,erF Jl0),(23,erF JnE),(11,erF Jcz),(7,erF Jlo)]
noncomputable def JHK:List (FuncId×AFn):=[(98,erF Jco),(99,erF Jeo),(85,erF JaM),(68,erF JcB),(57,erF J9t),(75,erF Jh8),(66,erF JpT),(74,erF Jq6),(72,erF Jqv),(73,erF Jqg),(65,erF Jqj),(55,erF Jqz),(49,erF Jhu),(69,erF Jcv),(58,erF Jm1),(48,erF Jm5),(36,erF Jlp),(47,erF JnQ),(46,erF JkQ),(33,erF JkW),(34,erF Jn2),(84,erF Jhr),(177,erF Jks),(130,erF Jlk)]
noncomputable def JGw:List (FuncId×AFn):=[(131,erF JmV),(100,erF JkP),(118,erF Jmn),(188,erF JdK),(208,erF Jml),(209,erF JnB),(210,erF JnL),(162,erF JlN),(191,erF JkA),(190,erF JfK),(138,erF Jl7),(106,erF Jmh),(211,erF Jqu),(163,erF JkJ),(164,erF JbN),(117,erF Jl5),(94,erF JlM),(86,erF JlJ),(76,erF Jkx),(37,erF JfR),(153,erF JhR),(154,erF JqB),(199,erF Jq1),(156,erF Joj)]
noncomputable def JHI:List (FuncId×AFn):=[(152,erF Jnd),(196,erF JgY),(197,erF Jqm),(198,erF Jhb),(155,erF Jn9),(107,erF Jnh),(89,erF Jny),(104,erF Jq8),(121,erF JoN),(113,erF Jqa),(140,erF Jqp),(151,erF Ji9),(195,erF Jfc),(150,erF Ji6),(149,erF Jkt),(112,erF Jhx),(148,erF Jkv),(111,erF JtF),(91,erF JmL),(80,erF JbR),(105,erF Jkp),(88,erF Jl2),(142,erF Jqd),(139,erF JkC)]
noncomputable def JHH:List (FuncId×AFn):=[(141,erF Jmd),(108,erF Jir),(144,erF JnY),(193,erF Jgf),(145,erF Jl6),(231,erF Jkl),(192,erF Jlh),(143,erF JhA),(146,erF Jns),(109,erF Jm2),(194,erF Jqy),(147,erF JlE),(110,erF JfX),(90,erF JlT),(79,erF JlH),(171,erF JoZ),(218,erF Jp5),(219,erF JnI),(170,erF JgU),(127,erF Jg3),(126,erF Jfi),(128,erF Jop),(173,erF Jm3),(172,erF Jfk)]
noncomputable def JHg:List (FuncId×AFn):=[(176,erF Jp0),(220,erF Jjf),(174,erF Jq7),(221,erF Jtj),(175,erF JgT),(129,erF JoQ),(97,erF Jnv),(125,erF Jil),(96,erF JoL),(166,erF JqA),(120,erF Joc),(203,erF JpW),(239,erF JkV),(214,erF Jia),(215,erF Jqf),(167,erF JdR),(122,erF JlR),(169,erF Jqc),(124,erF Jig),(217,erF Jlq),(243,erF JkZ),(240,erF JnG),(216,erF Jm4),(168,erF JoC)]
noncomputable def JIe:List (FuncId×AFn):=[(123,erF Jno),(213,erF JmO),(212,erF Ji3),(165,erF JnP),(119,erF JoA),(95,erF Jke),(83,erF Jo5),(81,erF Jh0),(135,erF JeQ),(189,erF JnM),(136,erF Jqi),(102,erF JeX),(226,erF Jkm),(184,erF Jfd),(228,erF JfV),(229,erF Jb1),(186,erF JkG),(225,erF JiD),(182,erF Jnt),(181,erF JmM),(230,erF Jla),(187,erF Jq3),(227,erF JqC),(185,erF JhM)]
noncomputable def JHo:List (FuncId×AFn):=[(179,erF Jhn),(223,erF Jjj),(224,erF Jg5),(180,erF Jlm),(183,erF Jp7),(222,erF JhN),(178,erF Jfx),(132,erF Jsq),(133,erF Jgh),(134,erF Je6),(101,erF JtM),(137,erF JnF),(103,erF JoR),(87,erF Jsp),(78,erF JaG),(114,erF Jom),(200,erF Jle),(232,erF JmF),(201,erF Jhj),(158,erF Jmk),(157,erF JnU),(115,erF Jkw),(92,erF Jl8),(202,erF Jgo)]
noncomputable def JH7:List (FuncId×AFn):=[(235,erF Jag),(233,erF J9H),(234,erF JaL),(204,erF Jjk),(159,erF Jnk),(242,erF Jn8),(238,erF Jnm),(207,erF JlI),(245,erF JhB),(246,erF J9y),(247,erF JaQ),(244,erF JhC),(241,erF Jj9),(236,erF Jjc),(205,erF Jkr),(237,erF Jmc),(206,erF Jp2),(160,erF JfB),(161,erF Jky),(116,erF JmQ),(93,erF Jos),(82,erF J8G),(77,erF J9z),(67,erF J9w)]
noncomputable def JIj:List (FuncId×AFn):=[(56,erF Jqr),(45,erF JaB),(32,erF JaK),(21,erF JsD),(43,erF JfP),(38,erF Jiy),(35,erF Jgj),(29,erF JkO),(22,erF JmN),(9,erF Jlw),(17,erF Jez),(27,erF Jan),(26,erF J3B),(12,erF Jcn),(13,erF JaW),(19,erF Jp8),(18,erF Jol),(30,erF Jja),(16,erF Jm8),(15,erF Jlu),(5,erF J8A)]
noncomputable def fns:List (FuncId×AFn):=JHF++(JHK++(JGw++(JHI++(JHH++(JHg++(JIe++(JHo++(JH7++(JIj)))))))))
noncomputable def fks:List (FuncId×J9r):=[(28,Jo1 J4 128)]
noncomputable def fps:List (FuncId×Prm):=[(31,Jpl 13)]
abbrev PS:=FuncId->Option (List AV->List Blk->Option Res)
noncomputable def JK9(p:PS):J3J:=λf=>JO1 (lkA f fns) (lkA f fks) (lkA f fps) (p f)
def AE(l:List TE):Prop:= ∀p,Ju8 (AF (JK9 p)) l
theorem ae0:AE []:=λ_=>trivial
theorem stp{i g S l}(f:TFn)(A:AE l)(q: ∀x,onO (JgK g x) (λy=>JrF (TG.of l) f y.1 y.2 (JbH g))=S x)(hf: ∀p,JK9 p i=some (.fn (erF f)):=by intro p;rfl)(hs:Jn1 g=true:=by rfl):AE (sigE i g S::l):=λp=>⟨JM1 (hf p) (A p) hs q,A p⟩
end Go.Am
end
