/-
  Parts of a proof.
-/
import Derived.Test.YthnapahopkopbaaGreatM3
set_option linter.unusedSimpArgs false
set_option linter.unusedVariables false
section
namespace Go.Am
theorem Tot.eqn{ρ:Type}{o:Option ρ}{Q:ρ->Prop}(h:Tot o Q):Tot o λr=>Q r/\o=Option.some r:=by obtain⟨r,e,h⟩:=h;exact⟨r,e,h,e⟩
theorem Tot.same{α ρ:Type}{o:Option α}{f:α->Option ρ}{w:α}{Q:ρ->Prop}(e:o=Option.some w)(h:Tot (f w) Q):Tot (o.bind f) Q:=by rw[e];exact h
def Par{ρ:Type}(o:Option ρ)(Q:ρ->Prop):Prop:= ∀r,o=Option.some r->Q r
section
variable {α β ρ σ:Type} {Q:ρ->Prop} {u v:Option ρ}
theorem Par.bind{o:Option α}{f:α->Option ρ}(h: ∀a,o=Option.some a->Par (f a) Q):Par (o.bind f) Q:=by
 intro r hr;cases o with
 |none=>cases hr
 |some a=>exact h a rfl r hr
theorem Par.map{o:Option α}{f:α->ρ}(h:Par o λa=>Q (f a)):Par (Option.map f o) Q:=by
 intro r hr;cases o with
 |none=>cases hr
 |some a=>injection hr with hr;subst hr;exact h a rfl
theorem Par.some{r:ρ}(h:Q r):Par (Option.some r) Q:=by intro r' e;simp_all
theorem Par.none:Par (Option.none:Option ρ) Q:=by intro r e;cases e
theorem Par.mono{o:Option ρ}{P:ρ->Prop}(h:Par o P)(h2: ∀r,P r->Q r):Par o Q:=λr e=>h2 r (h r e)
theorem Par.ite{c:Bool}(h1:c=true->Par u Q)(h2:c=false->Par v Q):Par (if c=true then u else v) Q:=by
 grind
theorem Par.itf{c:Bool}(h1:c=false->Par u Q)(h2:c=true->Par v Q):Par (if c=false then u else v) Q:=by
 grind
theorem Par.not{c:Bool}(h1:c=false->Par u Q)(h2:c=true->Par v Q):Par (if Js c=true then u else v) Q:=by
 cases c with
 |true=>exact h2 rfl
 |false=>exact h1 rfl
theorem Par.nof{c:Bool}(h1:c=true->Par u Q)(h2:c=false->Par v Q):Par (if Js c=false then u else v) Q:=by
 cases c with
 |true=>exact h1 rfl
 |false=>exact h2 rfl
variable {a c:Int}
theorem Par.by{p:Prop}{x:Bool}(hp:x=true↔p)(h1:p->Par u Q)(h2: ¬p->Par v Q):Par (if x=true then u else v) Q:=.ite (λh=>h1 (hp.1 h)) λh=>h2 λh3=>by simp_all
theorem Par.byf{p:Prop}{x:Bool}(hp:x=true↔p)(h1: ¬p->Par u Q)(h2:p->Par v Q):Par (if x=false then u else v) Q:=.itf (λh=>h1 λh3=>by simp_all) λh=>h2 (hp.1 h)
theorem Par.lt(h1:a<c->Par u Q)(h2: ¬a<c->Par v Q):Par (if ltI a c=true then u else v) Q:=.by J4v h1 h2
theorem Par.gt(h1:c<a->Par u Q)(h2: ¬c<a->Par v Q):Par (if gtI a c=true then u else v) Q:=.by J8i h1 h2
theorem Par.le(h1:a<=c->Par u Q)(h2: ¬a<=c->Par v Q):Par (if leI a c=true then u else v) Q:=.by J1O h1 h2
theorem Par.ge(h1:c<=a->Par u Q)(h2: ¬c<=a->Par v Q):Par (if geI a c=true then u else v) Q:=.by Jcf h1 h2
theorem Par.eq(h1:a=c->Par u Q)(h2: ¬a=c->Par v Q):Par (if eqI a c=true then u else v) Q:=.by J59 h1 h2
theorem Par.ne(h1: ¬a=c->Par u Q)(h2:a=c->Par v Q):Par (if neI a c=true then u else v) Q:=.by JaM h1 (λh=>h2 (Decidable.of_not_not h))
theorem Par.ltf(h1: ¬a<c->Par u Q)(h2:a<c->Par v Q):Par (if ltI a c=false then u else v) Q:=.byf J4v h1 h2
theorem Par.gtf(h1: ¬c<a->Par u Q)(h2:c<a->Par v Q):Par (if gtI a c=false then u else v) Q:=.byf J8i h1 h2
theorem Par.lef(h1: ¬a<=c->Par u Q)(h2:a<=c->Par v Q):Par (if leI a c=false then u else v) Q:=.byf J1O h1 h2
theorem Par.gef(h1: ¬c<=a->Par u Q)(h2:c<=a->Par v Q):Par (if geI a c=false then u else v) Q:=.byf Jcf h1 h2
theorem Par.eqf(h1: ¬a=c->Par u Q)(h2:a=c->Par v Q):Par (if eqI a c=false then u else v) Q:=.byf J59 h1 h2
theorem Par.nef(h1:a=c->Par u Q)(h2: ¬a=c->Par v Q):Par (if neI a c=false then u else v) Q:=.byf JaM (λh=>h1 (Decidable.of_not_not h)) h2
theorem Par.while{L:σ->Option (σ⊕ρ)}(I:σ->Prop){z:σ}(hz:I z)(h: ∀z,I z->Par (L z) λr=>match r with| .inl g=>I g| .inr y=>Q y):Par (Jg L z) Q:=by intro r hr;refine Ji8 (P:=λs r=>I s->Q r) (λs r e hs=>h s hs _ e) (λs s' r e ih hs=>ih (h s hs _ e)) hr hz
end
theorem J0G{α:Type}{l:List α}{i:Int}{r:α}(h:idx l i=Option.some r):0<=i/\l[i.toNat]?=Option.some r:=by
 grind [idx]
theorem J4R{α:Type}{l:List α}{j:Nat}{e:α}(h:l[j]?=some e):(j:Int)<J0 l:=by
 grind [J0]
theorem JEN(a b:Int):J2r .i64 a b=a*b\/a*b< -9223372036854775808\/9223372036854775807<a*b:=by
 grind [J2r,wrap64]
theorem Jd7(a b:Int):J1 .i64 a b=a+b\/a+b< -9223372036854775808\/9223372036854775807<a+b:=by
 grind [Jb]
theorem Jn6(a b:Int):JI .i64 a b=a-b\/a-b< -9223372036854775808\/9223372036854775807<a-b:=by
 grind [J0o]
def JvU{α:Type}(P:α->Prop)(l:List α)(i:Int):Prop:=0<=i/\ ∀x∈l.take i.toNat,P x
theorem JIO{α:Type}{P:α->Prop}{l:List α}:JvU P l 0:=⟨by omega,λx h=>by simp at h⟩
theorem JCW{α:Type}{P:α->Prop}{l:List α}{i j:Int}{x:α}(h:JvU P l i)(e:idx l i=Option.some x)(hx:P x)(hj:j=i+1):JvU P l j:=by
 obtain⟨g,h⟩:=h;obtain⟨_,e⟩:=J0G e;subst hj;refine⟨by omega,λy hy=>?_⟩;have:(i+1).toNat=i.toNat+1:=by omega
 grind [List.take_add_one]
theorem JDF{α:Type}{P:α->Prop}{l:List α}{i:Int}(h:JvU P l i)(hi: ¬i<J0 l): ∀x∈l,P x:=λx hx=>h.2 x (by
 grind [List.take_of_length_le,J0])
end Go.Am
end
section
namespace Go.Am
def Fw{α:Type}(o e:Option α):Prop:= ∀y,o=some y->e=some y
variable {α β σ τ ρ:Type}
theorem Fw.rfl{o:Option α}:Fw o o:=λ_ h=>h
theorem Fw.of{o g:Option α}(h:o=g):Fw o g:=λ_ e=>h▸e
theorem Fw.ite{c v:Bool}{a b e g:Option α}(h1:c=v->Fw a e)(h2: ¬c=v->Fw b g):Fw (if c=v then a else b) (if c=v then e else g):=by
 grind
theorem Fw.bind{o j:Option α}{f g:α->Option β}(h:Fw o j)(k: ∀y,o=some y->Fw (f y) (g y)):Fw (o.bind f) (j.bind g):=λr e=>by obtain⟨y,h1,h2⟩:=J2H.1 e;rw[h y h1];exact k y h1 r h2
theorem Fw.while{L:σ->Option (σ⊕ρ)}{M:τ->Option (τ⊕ρ)}(R:σ->τ->Prop)
  (h: ∀a b,R a b-> ∀r,L a=some r->match r with| .inl k=> ∃j,M b=some (.inl j)/\R k j| .inr y=>M b=some (.inr y)) {z:σ} {g:τ} (hz:R z g):Fw (Jg L z) (Jg M g):=λy hy=>by
 refine Ji8 (P:=λs r=> ∀b,R s b->Jg M b=some r) (λs r e b hb=>J72 (h s b hb _ e)) (λs s' r e ih b hb=>?_) hy g hz
 grind [Jab]
end Go.Am
end
section
namespace Go.Am
set_option linter.unusedVariables false
set_option maxRecDepth 20000
set_option maxHeartbeats 4000000
section
variable {B S:Int}
theorem JiZ{x:J1k}(e:J0l x=some true):J0 x.2<=12:=by
 have g:Par (J0l x) λy=>y=true->J0 x.2<=12:=by unfold J0l;exact .le (λc r _ _=>c) λ_=>.some nofun
 exact g _ e rfl
theorem JrR{x:JS}(e:J25 x=some true): ∀(j:Nat) (hj:j<16),J0 (x.2.2[j]).2<=12:=by
 have k:Par (J25 x) λy=>y=true-> ∀(j:Nat) (hj:j<16),J0 (x.2.2[j]).2<=12:=by
  unfold J25;refine .while (λz=>z.2=x/\0<=z.1/\z.1<=16/\ ∀(j:Nat) (hj:j<16),(j:Int)<z.1->J0 (x.2.2[j]).2<=12) ⟨rfl,J0C _,by dsimp only;omega,λj e h1=>by dsimp only at h1;omega⟩ ?_;rintro⟨i,z⟩ ⟨rfl,o,h,g⟩;dsimp only at o g h;unfold Ja2;dsimp only;refine .lt (λc=>?_) λc=>.some λ_ j hj=>g j hj oo;refine .bind λ_ _=>.bind λr h4=>.bind λb hb=>.nof (λn=>?_) λ_=>.some nofun;subst n;have:=Jb i 1;have hn:z.2=z.2/\(0<=J1 .i64 i 1/\J1 .i64 i 1<=16/\ ∀(j:Nat) (hj:j<16),(j:Int)<J1 .i64 i 1->J0 (z.2.2[j]).2<=12):=by
   refine⟨rfl,oo,oo,λj hj q=>?_⟩;by_cases hl:(j:Int)<i
   ·exact g j hj hl
   ·have:j=i.toNat:=by omega
    subst this;unfold vat at h4;rw[Vector.getElem?_eq_getElem hj]at h4;injection h4 with h4;rw[h4];exact JiZ hb
  exact .eq (λ_=>.bind λ_ _=>.bind λ_ _=>.ite (λ_=>.some nofun) λ_=>.some ⟨rfl,hn.2⟩) λ_=>.some ⟨rfl,hn.2⟩
 exact k _ e rfl
theorem Jdx{x:JS}(e:J1S x=some true):0<=x.1/\x.1<64/\0<=x.2.1/\x.2.1<=1099511627776:=by
 have g:Par (J1S x) λy=>y=true->0<=x.1/\x.1<64/\0<=x.2.1/\x.2.1<=1099511627776:=by unfold J1S;exact .ge (λ_=>.lt (λ_=>.ge (λ_=>.some λc=>by have:=J1O.1 c;omega) λ_=>.some nofun) λ_=>.some nofun) λ_=>.some nofun
 exact g _ e rfl
theorem Jr8{x:JS}(e:J1I x=some true):J1S x=some true/\J25 x=some true:=by
 have g:Par (J1I x) λy=>y=true->J1S x=some true/\J25 x=some true:=by unfold J1I;exact .bind λa ha=>.ite (λc=>.bind λb hb=>.some λd=>⟨c▸ha,d▸hb⟩) λ_=>.some nofun
 exact g _ e rfl
theorem JyJ{x:JS}(h:zFt B S Ju x)(e:J25 x=some true):zFt 0 12 Ju x:=
 ⟨h.1,h.2.1,λi hi=>⟨trivial,JrR e i hi⟩⟩
theorem JgA{x:JS}{y:Bool}(h:zFt B S Ju x)(e:J1I x=some y)(c:y=true):(0<=x.1/\x.1<64/\0<=x.2.1/\x.2.1<=1099511627776)/\zFt 0 12 Ju x:=by subst c;obtain⟨h1,h2⟩:=Jr8 e;exact⟨Jdx h1,JyJ h h2⟩
theorem J7j{x:JS}{y:Int}(h:zFt B S Ju x)(e:J2u x=some y)(c:y=0):(0<=x.1/\x.1<64/\0<=x.2.1/\x.2.1<=1099511627776)/\zFt 0 12 Ju x:=by
 subst c;have g:Par (J2u x) λy=>y=0->J1S x=some true/\J25 x=some true:=by unfold J2u;exact .bind λa ha=>.not (λ_=>.some nofun) λc=>.bind λb hb=>.not (λ_=>.some nofun) λd=>.some λ_=>⟨c▸ha,d▸hb⟩
 obtain⟨h1,h2⟩:=g _ e rfl;exact⟨Jdx h1,JyJ h h2⟩
def JJf(n i:Int)(p:JF)(r:(TQ105)⊕Bool):Prop:=r=.inl (n,J1 .i64 i 1,p)\/r=.inr false
theorem JxH(n i k:Int)(p:JF)(f:T_api_Frame):Par (Jg J0b (n,i,k,p,f)) (JJf n i p):=by refine .while (λz=>z.1=n/\z.2.1=i/\z.2.2.2.1=p) ⟨rfl,rfl,rfl⟩ ?_;rintro⟨n,i,k,p,f⟩ ⟨rfl,rfl,rfl⟩;unfold J0b;exact .lt (λ_=>.bind λ_ _=>.eq (λ_=>.map (.some (.inr rfl))) λ_=>.some ⟨rfl,rfl,rfl⟩) λ_=>.some (.inl rfl)
theorem JbH{x:JF}(e:JL x=some true):(1<=x.1/\x.1<=64/\J0 x.2.1<=x.1/\0<=x.2.2/\(x.2.2<J0 x.2.1\/x.2.2=0))/\ ∀(j:Nat) (f:T_api_Frame),x.2.1[j]?=some f->J1I f.1=some true:=by
 have k:Par (JL x) λy=>y=true->(1<=x.1/\x.1<=64/\J0 x.2.1<=x.1/\0<=x.2.2/\(x.2.2<J0 x.2.1\/x.2.2=0))/\ ∀(j:Nat) (f:T_api_Frame),x.2.1[j]?=some f->J1I f.1=some true:=by
  unfold JL;refine .ltf (λv=>.gtf (λw=>.gtf (λc3=>.ltf (λC=>.gt (λ_=>.some nofun) λB=>?_) λ_=>.some nofun) λ_=>.some nofun) λ_=>.some nofun) λ_=>.some nofun;have:=J5P 0 (JI .i64 (J0 x.2.1) 1);have:=J0o (J0 x.2.1) 1;have:=J4 (l:=x.2.1);have hq:1<=x.1/\x.1<=64/\J0 x.2.1<=x.1/\0<=x.2.2/\(x.2.2<J0 x.2.1\/x.2.2=0):=by omega
  refine .while (λz=>z.2.2=x/\0<=z.2.1/\z.1=J0 x.2.1/\ ∀(j:Nat) (f:T_api_Frame),(j:Int)<z.2.1->x.2.1[j]?=some f->J1I f.1=some true) ⟨rfl,J0C _,rfl,λj e h1=>by dsimp only at h1;omega⟩ ?_;rintro⟨n,i,z⟩ ⟨rfl,q,hn,h⟩;dsimp only at q h hn hq c3;unfold J60;dsimp only;refine .lt (λc=>?_) λc=>.some λ_=>⟨hq,λj f he=>h j f (by have:=J4R he;omega) he⟩;refine .bind λf hf=>.bind λb hb=>.nof (λo=>?_) λ_=>.some nofun;subst o;have:=Jb i 1;have A:z=z/\0<=J1 .i64 i 1/\n=J0 z.2.1/\ ∀(j:Nat) (f:T_api_Frame),(j:Int)<J1 .i64 i 1->z.2.1[j]?=some f->J1I f.1=some true:=by
   refine⟨rfl,oo,hn,λj g hj he=>?_⟩;by_cases hl:(j:Int)<i
   ·exact h j g hl he
   ·have:j=i.toNat:=by omega
    subst this;rw[(J0G hf).2]at he;injection he with he;subst he
    exact hb
  refine .ite (λ_=>.ltf (λ_=>.gtf (λ_=>.not (λ_=>.ne (λ_=>.some nofun) λ_=>?_) λ_=>?_) λ_=>.some nofun) λ_=>.some nofun) λ_=>.not (λ_=>.ne (λ_=>.some nofun) λ_=>?_) λ_=>?_
  all_goals
   intro r hr;rcases JxH n i 0 z f r hr with rfl|rfl
   ·exact A
   ·nofun
 exact k _ e rfl
theorem J2Z{x:JF}{y:Bool}(h:zFt B S JM x)(e:JL x=some y)(c:y=true):(1<=x.1/\x.1<=64/\J0 x.2.1<=x.1/\0<=x.2.2/\(x.2.2<J0 x.2.1\/x.2.2=0))/\zFt 64 12 JM x:=by subst c;obtain⟨q,k⟩:=JbH e;refine⟨q,h.1,⟨by show J0 x.2.1<=64;omega,λa ha=>?_⟩,h.c⟩;obtain⟨j,hj⟩:=J4V.1 ha;have h2:=h.2.1.2 a ha;exact⟨(JgA h2.1 (k j a hj) rfl).2.u,h2.2⟩
theorem J3T{x:J01}{y:Bool}(h:zFt B S JD x)(e:J1z x=some y)(c:y=true)(k:B<=4611686018427387903:=by omega):(J0 x.1+J0 x.2<=1024)/\zFt 1024 0 JD x:=by
 subst c;have g:Par (J1z x) λy=>y=true-> ¬1024<J1 .i64 (J0 x.1) (J0 x.2):=by unfold J1z;exact .gt (λ_=>.some nofun) λc _ _ _=>c
 have o:=g _ e rfl;have:=Jb (J0 x.1) (J0 x.2);have:=J4 (l:=x.1);have:=J4 (l:=x.2);have:J0 x.1<=B:=h.1.1;have:J0 x.2<=B:=h.2.1;have j:J0 x.1+J0 x.2<=1024:=by omega
 refine⟨j,⟨?_,λa ha=>?_⟩,?_,λa ha=>?_⟩
 ·show J0 x.1<=1024;omega
 ·have q:=h.1.2 a ha;exact q
 ·show J0 x.2<=1024;omega
 ·have q:=h.c a ha;exact q
theorem JpQ{x:Jo}(e:J2y x=some true):1<=x.1/\x.1<=1073741824/\1<=x.2.1/\x.2.1<=3/\J0 x.2.2.2.2.1<=4096/\J0 x.2.2.2.2.2<=8:=by
 have g:Par (J2y x) λy=>y=true->1<=x.1/\x.1<=1073741824/\1<=x.2.1/\x.2.1<=3/\J0 x.2.2.2.2.1<=4096/\J0 x.2.2.2.2.2<=8:=by unfold J2y;refine .ltf (λo=>.gtf (λh=>.ltf (λc3=>.gtf (λn=>.ltf (λ_=>.gtf (λ_=>.gtf (λj=>.gt (λ_=>.some nofun) λk=>?_) λ_=>.some nofun) λ_=>.some nofun) λ_=>.some nofun) λ_=>.some nofun) λ_=>.some nofun) λ_=>.some nofun) λ_=>.some nofun;intro _ _ _;omega
 exact g _ e rfl
theorem Jro{x:List Jo}(e:J18 x=some true):J0 x<=64/\ ∀(j:Nat) (f:Jo),x[j]?=some f->J2y f=some true:=by
 have k:Par (J18 x) λy=>y=true->J0 x<=64/\ ∀(j:Nat) (f:Jo),x[j]?=some f->J2y f=some true:=by
  unfold J18;refine .gt (λ_=>.some nofun) λr=>?_;have hq:J0 x<=64:=by omega
  refine .while (λz=>z.1=x/\0<=z.2/\ ∀(j:Nat) (f:Jo),(j:Int)<z.2->x[j]?=some f->J2y f=some true) ⟨rfl,J0C _,λj e h1=>by dsimp only at h1;omega⟩ ?_;rintro⟨z,i⟩ ⟨rfl,q,h⟩;dsimp only at q h hq;unfold J9M;dsimp only;refine .lt (λc=>?_) λc=>.some λ_=>⟨hq,λj f he=>h j f (by have:=J4R he;omega) he⟩;refine .bind λf hf=>.bind λb hb=>.nof (λn=>?_) λ_=>.some nofun;subst n;have:=Jb i 1;have o:z=z/\0<=J1 .i64 i 1/\ ∀(j:Nat) (f:Jo),(j:Int)<J1 .i64 i 1->z[j]?=some f->J2y f=some true:=by
   refine⟨rfl,oo,λj g hj he=>?_⟩;by_cases hl:(j:Int)<i
   ·exact h j g hl he
   ·have:j=i.toNat:=by omega
    subst this;rw[(J0G hf).2]at he;injection he with he;subst he
    exact hb
  exact .gt (λ_=>.bind λ_ _=>.bind λ_ _=>.ge (λ_=>.some nofun) λ_=>.some o) λ_=>.some o
 exact k _ e rfl
theorem J2W{x:List Jo}{y:Bool}(h:zFt B S (.l Jm) x)(e:J18 x=some y)(c:y=true):(J0 x<=64)/\zFt 4096 0 (.l Jm) x:=by
 subst c;obtain⟨q,k⟩:=Jro e;refine⟨q,?_,λa ha=>?_⟩
 ·show J0 x<=4096;omega
 obtain⟨j,hj⟩:=J4V.1 ha;have w:=JpQ (k j a hj);obtain⟨h1,h2,h3,h4,h5,g⟩:=h.2 a ha;refine⟨h1,h2,h3,h4,⟨?_,h5.2⟩,?_,g.2⟩
 ·show J0 _<=4096;omega
 ·show J0 _<=4096;omega
theorem J4I{x:List T_api_Row}{y:Bool}(h:zFt B S (.l Jd) x)(e:J0P x=some y)(c:y=true):(1<=J0 x/\J0 x<=64)/\zFt 64 0 (.l Jd) x:=by
 subst c;have g:Par (J0P x) λy=>y=true->(1<=J0 x/\J0 x<=64):=by unfold J0P;exact .ltf (λ_=>.gt (λ_=>.some nofun) λ_ _ _ _=>by omega) λ_=>.some nofun
 have q:=g _ e rfl;exact⟨q,q.2,λa ha=>h.2 a ha⟩
theorem JhR{l:List T_api_Row}{p:Int}(e:J0O (l,p)=some true)(hp:1<=p)(n:p<=64):J0 l<=p/\ ∀(j:Nat) (f:T_api_Row),l[j]?=some f->(j:Int)<=f.1/\f.1<p:=by
 have o:Par (J0O (l,p)) λy=>y=true->J0 l<=p/\ ∀(j:Nat) (f:T_api_Row),l[j]?=some f->(j:Int)<=f.1/\f.1<p:=by
  unfold J0O;refine .while (λz=>z.1=l/\z.2.1=p/\0<=z.2.2/\z.2.2<=p/\ ∀(j:Nat) (f:T_api_Row),(j:Int)<z.2.2->l[j]?=some f->(j:Int)<=f.1/\f.1<p) ⟨rfl,rfl,J0C _,by dsimp only;omega,λj e h1=>by dsimp only at h1;omega⟩ ?_;rintro⟨l,p,i⟩ ⟨rfl,rfl,r,k,h⟩;dsimp only at r h k hp n;unfold J51;dsimp only;refine .lt (λc=>?_) λc=>.some λ_=>⟨oo,λj f he=>h j f (by have:=J4R he;omega) he⟩;refine .bind λf hf=>.ltf (λA=>.gef (λB=>.ltf (λ_=>.gtf (λ_=>.gtf (λ_=>?_) λ_=>.some nofun) λ_=>.some nofun) λ_=>.some nofun) λ_=>.some nofun) λ_=>.some nofun;have:=Jb i 1;have:=J0o i 1;have q:i<=f.1->(l=l/\p=p/\0<=J1 .i64 i 1/\J1 .i64 i 1<=p/\ ∀(j:Nat) (f:T_api_Row),(j:Int)<J1 .i64 i 1->l[j]?=some f->(j:Int)<=f.1/\f.1<p):=by
   intro w;refine⟨rfl,rfl,oo,oo,λj g hj he=>?_⟩;by_cases hl:(j:Int)<i
   ·exact h j g hl he
   ·have:j=i.toNat:=by omega
    subst this;rw[(J0G hf).2]at he;injection he with he;subst he
    omega
  refine .gt (λx=>.bind λv h4=>.ge (λ_=>.some nofun) λC=>.some (q ?_)) λ_=>.some (q oo);obtain⟨_,h5⟩:=J0G h4;have:=h _ v oo h5;omega
 exact o _ e rfl
end
section
variable {B S:Int}
def Has(l:List Jo)(id:Int):Prop:= ∃j,J0V (l,id)=some j/\0<=j
def InP(p:JF)(id:Int):Prop:= ∃j,J0S (p,id)=some j/\0<=j
theorem JjH{l:List Jo}{id y:Int}(h:Has l id)(e:J0V (l,id)=some y):0<=y:=by obtain⟨j,h,g⟩:=h;rw[h]at e;injection e with e;omega
theorem JjS{p:JF}{id y:Int}(h:InP p id)(e:J0S (p,id)=some y):0<=y:=by obtain⟨j,h,g⟩:=h;rw[h]at e;injection e with e;omega
theorem Jem{p:JF}{id:Int}{y:JS×Bool}(e:J2j (p,id)=some y):(y.2=true->InP p id)/\(InP p id->y.2=true):=by
 have g:Par (J2j (p,id)) λy=>(y.2=true->InP p id)/\(InP p id->y.2=true):=by unfold J2j;refine .bind λj hj=>.lt (λc=>.some ⟨nofun,λh=>by have:=JjS h hj;omega⟩) λc=>.bind λf hf=>.some ⟨λ_=>⟨j,hj,oo⟩,λ_=>rfl⟩
 exact g _ e
end
section
variable {B S:Int}
theorem JiA(n:Nat)(h:n<2^64):IntKind.wrap .u64 (n:Int)=(n:Int):=by
 have:(n:Int)<18446744073709551616:=by omega
 simp[IntKind.wrap,IntKind.bits,IntKind.signed];omega
theorem JIZ{x y:Int}{k:Nat}(hk:k<=64)(hx:0<=x)(g:x<2^k)(hy:0<=y)(h:y<2^k):0<=orI .u64 x y/\orI .u64 x y<2^k:=by
 obtain⟨m,rfl⟩:=Int.eq_ofNat_of_zero_le hx;obtain⟨n,rfl⟩:=Int.eq_ofNat_of_zero_le hy;have e:((2:Int)^k)=((2^k:Nat):Int):=by simp
 rw[e]at g h⊢;have hm:m<2^k:=by omega
 have hn:n<2^k:=by omega
 have r:2^k<=2^64:=Joz (by decide) hk;have q: ∀z:Nat,z<2^k->(BitVec.ofInt 64 (z:Int)).toNat=z:=λz hz=>by rw[BitVec.toNat_ofInt];omega
 show 0<=IntKind.wrap .u64 (((BitVec.ofInt 64 (m:Int)|||BitVec.ofInt 64 (n:Int)).toNat:Nat):Int)/\_;have o:=Nat.or_lt_two_pow hm hn;have e2:orI .u64 (m:Int) (n:Int)=((m|||n:Nat):Int):=by show IntKind.wrap .u64 (((BitVec.ofInt 64 (m:Int)|||BitVec.ofInt 64 (n:Int)).toNat:Nat):Int)=_;rw[BitVec.toNat_or,q m hm,q n hn,JiA _ oo]
 have j:IntKind.wrap .u64 (((BitVec.ofInt 64 (m:Int)|||BitVec.ofInt 64 (n:Int)).toNat:Nat):Int)=((m|||n:Nat):Int):=e2;rw[e2,j];omega
theorem Jy5{s:List UInt8}{at_ size:Int}{y:JK}(e:J08 (s,at_,size)=some y)(c:y.2=0):0<=at_/\at_<=J0 s/\size<=J0 s-at_/\1<=size/\size<=8/\(size<=4->0<=y.1/\y.1<2^(8*size.toNat)):=by
 have k:Par (J08 (s,at_,size)) λy=>y.2=0->(-9223372036854775808<=J0 s-at_->J0 s-at_<=9223372036854775807->size<=J0 s-at_)/\0<=at_/\at_<=J0 s/\1<=size/\size<=8/\(size<=4->0<=y.1/\y.1<2^(8*size.toNat)):=by
  unfold J08;dsimp only;refine .ltf (λH=>.gtf (λJ=>.lt (λ_=>.some nofun) λc3=>.gtf (λI=>.lt (λ_=>.some nofun) λK=>?_) λ_=>.some nofun) λ_=>.some nofun) λ_=>.some nofun;have o:=J0o (J0 s) at_;refine .while (λz=>z.1=s/\z.2.1=at_/\z.2.2.1=size/\0<=z.2.2.2.2/\z.2.2.2.2<=size/\0<=z.2.2.2.1/\z.2.2.2.1<2^(8*z.2.2.2.2.toNat)) ⟨rfl,rfl,rfl,J0C _,by dsimp only;omega,J0C _,by show(0:Int)<2^(8*0);decide⟩ ?_;rintro⟨s,at_,size,n,i⟩ ⟨h1,h2,h3,r,h4,h5,g⟩;dsimp only at h1 h2 h3;subst h1;subst h2;subst h3;dsimp only at r h4 h5 g;unfold J96;dsimp only;have:=Jb i 1;refine .lt (λc=>?_) λc=>.some λ_=>⟨λ_ _=>by omega,oo,oo,oo,oo,λh=>?_⟩
  ·refine .bind λb hb=>.bind λj hy=>.some ⟨rfl,rfl,rfl,?_,?_,?_⟩
   ·show 0<=J1 .i64 i 1;omega
   ·show J1 .i64 i 1<=size;omega
   have F:0<=b/\b<=255:=by
    unfold Jex at hb;split at hb
    ·cases hx:s[(J1 .i64 at_ i).toNat]? with
     |none=>rw[hx]at hb;cases hb
     |some u=>
      rw[hx]at hb;injection hb with hb;subst hb
      have:=u.toNat_lt;omega
    ·cases hb
   have hi:(J1 .i64 i 1).toNat=i.toNat+1:=by omega
   show 0<=orI .u64 n j/\orI .u64 n j<2^(8*(J1 .i64 i 1).toNat);rw[hi];have:=JkQ 8 i;have B:cvI .u64 (J2r .i64 8 i)=8*i:=by rw[show J2r .i64 8 i=((8*i.toNat:Nat):Int) by omega];show IntKind.wrap .u64 _=_;rw[JiA _ oo];omega
   have x:cvI .u64 b=b:=by rw[show b=((b.toNat:Nat):Int) by omega];exact JiA _ oo
   rw[B,x]at hy;unfold Jgf at hy;rw[if_neg oo]at hy;injection hy with hy;have hm:min (8*i).toNat IntKind.u64.bits=8*i.toNat:=by show min (8*i).toNat 64=_;omega
   rw[hm]at hy;have hp:((2:Int)^(8*i.toNat))=((2^(8*i.toNat):Nat):Int):=by simp
   have D:b.toNat*2^(8*i.toNat)<2^(8*(i.toNat+1)):=by rw[show 8*(i.toNat+1)=8+8*i.toNat by omega,Nat.pow_add];exact Nat.mul_lt_mul_of_pos_right oo (Nat.pow_pos (by decide))
   have G:2^(8*(i.toNat+1))<=2^64:=Joz (by decide) oo;have q:j=((b.toNat*2^(8*i.toNat):Nat):Int):=by rw[<-hy,hp,show b*((2^(8*i.toNat):Nat):Int)=((b.toNat*2^(8*i.toNat):Nat):Int) by rw[Int.natCast_mul];congr 1;omega];exact JiA _ oo
   have hn:n<2^(8*(i.toNat+1)):=Int.lt_of_lt_of_le g (by have:(2:Nat)^(8*i.toNat)<=2^(8*(i.toNat+1)):=Joz (by decide) oo;rw[hp,show((2:Int)^(8*(i.toNat+1)))=((2^(8*(i.toNat+1)):Nat):Int) by simp];omega)
   refine JIZ oo h5 hn (by rw[q];omega) ?_;rw[q,show((2:Int)^(8*(i.toNat+1)))=((2^(8*(i.toNat+1)):Nat):Int) by simp];omega
  ·have hi:i.toNat=size.toNat:=by omega
   rw[hi]at g;have E:(2:Nat)^(8*size.toNat)<=2^32:=Joz (by decide) oo;have hp:((2:Int)^(8*size.toNat))=((2^(8*size.toNat):Nat):Int):=by simp
   rw[hp]at g;have:=JzO n;show 0<=cvI .i64 n/\cvI .i64 n<2^(8*size.toNat);rw[hp];omega
 obtain⟨k1,k2,v,C,w,A⟩:=k _ e c;have:=J4 (l:=s);exact⟨k2,v,by
  by_cases h:J0 s-at_<=9223372036854775807
  ·exact k1 oo h
  ·omega,C,w,A⟩
theorem J7o{x:J0I}{y:JK}(h:zFt B S JB x)(e:J08 x=some y)(c:y.2=0):(1<=x.2.2/\x.2.2<=8/\0<=x.2.1/\x.2.1<=J0 x.1/\x.2.2<=J0 x.1-x.2.1/\(x.2.2<=4->0<=y.1/\y.1<=4294967295)/\(x.2.2=1->y.1<=255)/\(x.2.2=2->y.1<=65535))/\True:=by
 obtain⟨s,at_,size⟩:=x;obtain⟨h1,h2,h3,h4,h5,g⟩:=Jy5 e c;dsimp only;refine⟨⟨h4,h5,h1,h2,h3,λh=>?_,λh=>?_,λh=>?_⟩,trivial⟩
 ·obtain⟨a,b⟩:=g h;refine⟨a,?_⟩;have j:(2:Nat)^(8*size.toNat)<=2^32:=Joz (by decide) oo;rw[show((2:Int)^(8*size.toNat))=((2^(8*size.toNat):Nat):Int) by simp]at b;omega
 ·subst h;obtain⟨a,b⟩:=g (by decide);have:y.1<256:=b;omega
 ·subst h;obtain⟨a,b⟩:=g (by decide);have:y.1<65536:=b;omega
end
theorem JkD{B S:Int}{x1:Jp}(h:zFt B S J7 x1)(p0:0<=x1.2)(g:BS B S 0 0:=by omega):Tot (J4Y x1) λy=>zFt B S J7 y/\(y.2=0):=by
 unfold J4Y;refine .gt (λe=>?_) λe=>?_
 ·refine .bind (J6g h.1) λj h5=>.some ⟨(⟨h5.1,fk0⟩),om⟩
 ·exact .some ⟨(⟨h.1,fk0⟩),om⟩
section
variable {B S:Int}
theorem JIz(k:Nat): ∀{n at_:Int} {l:List Int},zFt B S (.l (.i .u8)) l->zFt 0 0 zI n->0<=at_->zFt 0 0 zI at_->B<=4611686018427387903->(n<=256->1<=k)->(¬n<=256->2<=k)->Tot (Jel J3O k (n,l,at_)) λy=>zFt B S tq9 y/\(0<=y.1/\(1<=n->y.1<n)/\0<=y.2.2):=by
 induction k with
 |zero=>intro n at_ l h1 h2 h3 h4 h5 A o;omega
 |succ k ih=>
  intro n at_ l h1 h2 h3 h4 h5 A o;show Tot (J3O (Jel J3O k) (n,l,at_)) _;unfold J3O;dsimp only;have:=Jb at_ 1;have:J0 l<=B:=h1.1;refine .gef (λc=>.lt (λq=>.some ⟨⟨fk0,h1,h4⟩,J0C _,λc=>by omega,h3⟩) λq=>.bind (Jh h1 h3 (by show at_<J0 l;omega)) λe z=>?_) λc=>.some ⟨⟨fk0,h1,h4⟩,J0C _,λc=>c,h3⟩;have q2:=(JlK (B:=B) (S:=S)).1 z.1;have:=JzO e;have g:zFt 0 0 zI (J1 .i64 at_ 1):=J8;refine .gt (λv=>.bind (ih (n:=256) h1 (fkn 256) oo g h5 (λ_=>by omega) λc=>by omega) λj h=>?_) λv=>?_
  ·have r:=h.2.2.1 (by decide);have:=JkQ 256 (cvI .i64 e);have:=Jb (J2r .i64 256 (cvI .i64 e)) j.1;exact .bind (Jts (k:=.i64) (B:=B) (S:=S) (x:=J1 .i64 (J2r .i64 256 (cvI .i64 e)) j.1) (y:=n) J8 oo) λw f4=>.some ⟨⟨f4.1,h.1.2⟩,f4.2.1 oo,λ_=>f4.2.2 oo,h.2.2.2⟩
  ·exact .bind (Jts (k:=.i64) (B:=B) (S:=S) (x:=cvI .i64 e) (y:=n) Jd5 oo) λw f4=>.some ⟨⟨f4.1,h1,g⟩,f4.2.1 oo,λ_=>f4.2.2 oo,by show 0<=J1 .i64 at_ 1;omega⟩
theorem Jj{x1:Jbz}(h:zFt B S tq9 x1)(p0:0<=x1.2.2)(g:BS B S 0 0:=by omega)(e:B<=4611686018427387903:=by omega):Tot (Jn x1) λy=>zFt B S tq9 y/\(0<=y.1/\(1<=x1.1->y.1<x1.1)/\0<=y.2.2):=by obtain⟨n,l,a⟩:=x1;exact JIz (B:=B) (S:=S) 100 h.2.1 h.1 p0 h.c e (λ_=>by decide) λ_=>by decide
end
theorem J8G{B S:Int}{x1:Jp}(h:zFt B S J7 x1)(p0:0<=x1.2)(a9:BG B S:=by omega):Tot (J3P x1) λy=>zFt B S (.pr .s J7) y/\(0<=y.2.2/\J0 y.1<=13):=by
 unfold J3P;refine .bind (Jj (B:=B) (S:=S) (⟨fkn 5,h⟩) om) λv h2=>?_;have:=J3.1 h2.1.1;have:=J3.1 h2.1.c;have:0<=v.1/\v.1<5/\0<=v.2.2:=⟨h2.2.1,h2.c.1 (show(1:Int)<=5 by decide),h2.d⟩;refine .bind (Jj (B:=B) (S:=S) (⟨fkn 6,h2.1.2⟩) om) λy3 K=>?_;have:=J3.1 K.1.c;refine .eq (λU=>?_) λU=>?_
 ·refine .bind (Jj (B:=B) (S:=S) (⟨fkn 14,K.1.2⟩) om) λk j=>?_;have:=J3.1 j.1.1;have:=J3.1 j.1.c;have:0<=k.1/\k.1<14/\0<=k.2.2:=⟨j.2.1,j.c.1 (show(1:Int)<=14 by decide),j.d⟩;refine .bind (JtP (t:=(.i .u8)) (B:=0) (S:=0) (J50 .u8 0)) λP G=>Jf (τ:=JI6) (λq=>(k.1,q.1,q.2.1,q.2.2)) (λq=>zFt 0 0 zI q.1/\zFt B S J7 q.2.1/\zFt 13 0 (.l (.i .u8)) q.2.2/\(0<=q.1)/\(q.1<=k.1)/\(0<=q.2.1.2)/\(J0 q.2.2<=q.1)) (λq=>k.1-q.1) ?_ (0,k.2,P) rfl ?_
  ·rintro⟨w,a1,g⟩ I;dsimp only at I;obtain⟨M,A,r,z20,a7,z22,a3⟩:=I;unfold Jar
   try dsimp only
   have:=J3.1 M;have:=J3.1 A.2;have:J0 g<=13:=r.1;have:=J4 (l:=g);refine .lt (λT=>?_) λT=>?_
   ·refine .bind (Jj (B:=B) (S:=S) (⟨fkn 3,A⟩) om) λy7 H=>?_;have:=J3.1 H.1.c;refine .bind (J0u (B:=14) (Bl:=13) (Bm:=1) (S:=0) (J0 g) 1 r (J0j (B:=1) (S:=0) (t:=(.i .u8)) oo Jd5)) λJ Q=>?_;have W:zFt 13 0 (.l (.i .u8)) J:=⟨(by omega:J0 J<=13),λx hx=>Q.1.2 x hx⟩;have:=Jb w 1;exact .some ⟨(J1 .i64 w 1,y7.2,J),rfl,⟨J8,H.1.2,W,om,om,om,om⟩,om,om⟩
   ·have:J0 (toStr g)<=13:=(J8f▸r.1);have:=J4 (l:=toStr g);exact .some ⟨(⟨(Jed (B:=0) (S:=13) r.1).u,A⟩),om⟩
  ·have:J0 P<=0:=G.1.1
   try dsimp only
   exact⟨fk0,j.1.2,G.1.u,om,om,om,om⟩
 ·refine .bind (JtP (t:=(.i .u8)) (B:=0) (S:=0) (J50 .u8 0)) λV E=>Jf (τ:=JI6) (λq=>(v.1,q.1,q.2.1,q.2.2)) (λq=>zFt 0 0 zI q.1/\zFt B S J7 q.2.1/\zFt 13 0 (.l (.i .u8)) q.2.2/\(0<=q.1)/\(q.1<=v.1)/\(0<=q.2.1.2)/\(J0 q.2.2<=q.1)) (λq=>v.1-q.1) ?_ (0,y3.2,V) rfl ?_
  ·rintro⟨o,Z,e⟩ D;dsimp only at D;obtain⟨L,C,n,a8,a6,a4,a5⟩:=D;unfold Jau
   try dsimp only
   have:=J3.1 L;have:=J3.1 C.2;have:J0 e<=13:=n.1;have:=J4 (l:=e);refine .lt (λR=>?_) λR=>?_
   ·refine .bind (Jj (B:=B) (S:=S) (⟨fkn 3,C⟩) om) λY F=>?_;have:=J3.1 F.1.c;refine .bind (J0u (B:=14) (Bl:=13) (Bm:=1) (S:=0) (J0 e) 1 n (J0j (B:=1) (S:=0) (t:=(.i .u8)) oo Jd5)) λz O=>?_;have N:zFt 13 0 (.l (.i .u8)) z:=⟨(by omega:J0 z<=13),λx hx=>O.1.2 x hx⟩;have:=Jb o 1;exact .some ⟨(J1 .i64 o 1,Y.2,z),rfl,⟨J8,F.1.2,N,om,om,om,om⟩,om,om⟩
   ·have:J0 (toStr e)<=13:=(J8f▸n.1);have:J0 (toStr e)=J0 e:=J8f;exact .some ⟨(⟨(Jed (B:=0) (S:=13) n.1).u,C⟩),om⟩
  ·have:J0 V<=0:=E.1.1
   try dsimp only
   exact⟨fk0,K.1.2,E.1.u,om,om,om,om⟩
theorem J0N{B S:Int}{x1:Jp}(h:zFt B S J7 x1)(p0:0<=x1.2)(v:BG B S:=by omega):Tot (J0p x1) λy=>zFt B S tq9 y/\(0<=y.2.2):=by
 unfold J0p;refine .bind (Jj (B:=B) (S:=S) (⟨fkn 10,h⟩) om) λA h2=>?_;have:=J3.1 h2.1.c;refine .eq (λr=>?_) λr=>?_
 ·refine .bind (Jj (B:=B) (S:=S) (⟨fkn 3,h2.1.2⟩) om) λw n=>?_;have:=J3.1 n.1.c;exact .some ⟨(⟨J2d,n.1.2⟩),om⟩
 ·refine .eq (λk=>?_) λk=>?_
  ·refine .bind (Jj (B:=B) (S:=S) (⟨fkn 16,h2.1.2⟩) om) λj e=>?_;have:=J3.1 e.1.1;have:=J3.1 e.1.c;have:0<=j.1/\j.1<16/\0<=j.2.2:=⟨e.2.1,e.c.1 (show(1:Int)<=16 by decide),e.d⟩;refine .bind (Jh (J0Y (B:=16) (S:=0) (t:=zI) (by have q:((16:Nat):Int)<=16:=oo;exact q) (fkn 9223372036854775807) (J0Y (B:=16) (S:=0) (t:=zI) (by have q:((15:Nat):Int)<=16:=oo;exact q) (fkn (-9223372036854775808)) (J0Y (B:=16) (S:=0) (t:=zI) (by have q:((14:Nat):Int)<=16:=oo;exact q) (fkn 1099511627776) (J0Y (B:=16) (S:=0) (t:=zI) (by have q:((13:Nat):Int)<=16:=oo;exact q) (fkn 1099511627777) (J0Y (B:=16) (S:=0) (t:=zI) (by have q:((12:Nat):Int)<=16:=oo;exact q) (fkn 1073741824) (J0Y (B:=16) (S:=0) (t:=zI) (by have q:((11:Nat):Int)<=16:=oo;exact q) (fkn 1073741825) (J0Y (B:=16) (S:=0) (t:=zI) (by have q:((10:Nat):Int)<=16:=oo;exact q) (fkn 64) (J0Y (B:=16) (S:=0) (t:=zI) (by have q:((9:Nat):Int)<=16:=oo;exact q) (fkn 63) (J0Y (B:=16) (S:=0) (t:=zI) (by have q:((8:Nat):Int)<=16:=oo;exact q) (fkn 16) (J0Y (B:=16) (S:=0) (t:=zI) (by have q:((7:Nat):Int)<=16:=oo;exact q) (fkn 15) (J0Y (B:=16) (S:=0) (t:=zI) (by have q:((6:Nat):Int)<=16:=oo;exact q) (fkn 256) (J0Y (B:=16) (S:=0) (t:=zI) (by have q:((5:Nat):Int)<=16:=oo;exact q) (fkn 255) (J0Y (B:=16) (S:=0) (t:=zI) (by have q:((4:Nat):Int)<=16:=oo;exact q) (fkn 4294967296) (J0Y (B:=16) (S:=0) (t:=zI) (by have q:((3:Nat):Int)<=16:=oo;exact q) (fkn 65536) (J0Y (B:=16) (S:=0) (t:=zI) (by have q:((2:Nat):Int)<=16:=oo;exact q) (fkn 256) (J0Y (B:=16) (S:=0) (t:=zI) (by have q:((1:Nat):Int)<=16:=oo;exact q) (fkn 255) Jc)))))))))))))))) oo (show _<((16:Nat):Int) by omega)) λx o=>.some ⟨(⟨o.1,e.1.2⟩),om⟩
  ·refine .bind (Jj (B:=B) (S:=S) (⟨fkn 20,h2.1.2⟩) om) λz g=>?_;have:=J3.1 g.1.c;exact .some ⟨(g.1),om⟩
theorem Jat{B S:Int}{x1:Jbz}(h:zFt B S tq9 x1)(p0:0<=x1.2.2)(be:BG B S:=by omega):Tot (J3Y x1) λy=>zFt B S (.pr J0s J7) y/\(0<=y.2.2):=by
 unfold J3Y;refine .bind (Jj (B:=B) (S:=S) (⟨fkn 12,h.2⟩) om) λy2 h2=>?_;have:=J3.1 h2.1.1;have:=J3.1 h2.1.c;have:0<=y2.1/\y2.1<12/\0<=y2.2.2:=⟨h2.2.1,h2.c.1 (show(1:Int)<=12 by decide),h2.d⟩;refine .bind (Jh (J0Y (B:=12) (S:=0) (t:=zI) (by have q:((12:Nat):Int)<=12:=oo;exact q) (fkn 1) (J0Y (B:=12) (S:=0) (t:=zI) (by have q:((11:Nat):Int)<=12:=oo;exact q) (fkn 1) (J0Y (B:=12) (S:=0) (t:=zI) (by have q:((10:Nat):Int)<=12:=oo;exact q) (fkn 2) (J0Y (B:=12) (S:=0) (t:=zI) (by have q:((9:Nat):Int)<=12:=oo;exact q) (fkn 2) (J0Y (B:=12) (S:=0) (t:=zI) (by have q:((8:Nat):Int)<=12:=oo;exact q) (fkn 2) (J0Y (B:=12) (S:=0) (t:=zI) (by have q:((7:Nat):Int)<=12:=oo;exact q) (fkn 3) (J0Y (B:=12) (S:=0) (t:=zI) (by have q:((6:Nat):Int)<=12:=oo;exact q) (fkn 4) (J0Y (B:=12) (S:=0) (t:=zI) (by have q:((5:Nat):Int)<=12:=oo;exact q) (fkn 5) (J0Y (B:=12) (S:=0) (t:=zI) (by have q:((4:Nat):Int)<=12:=oo;exact q) (fkn 6) (J0Y (B:=12) (S:=0) (t:=zI) (by have q:((3:Nat):Int)<=12:=oo;exact q) (fkn 7) (J0Y (B:=12) (S:=0) (t:=zI) (by have q:((2:Nat):Int)<=12:=oo;exact q) (fkn 2) (J0Y (B:=12) (S:=0) (t:=zI) (by have q:((1:Nat):Int)<=12:=oo;exact q) (fkn 4) Jc)))))))))))) oo (show _<((12:Nat):Int) by omega)) λy3 e=>.eq (λc7=>?_) λc7=>?_
 ·refine .bind (Jj (B:=B) (S:=S) (⟨h.1,h2.1.2⟩) om) λy4 h9=>?_;have:=J3.1 h9.1.c;refine .bind (Jj (B:=B) (S:=S) (⟨fkn 2,h9.1.2⟩) om) λy5 j=>?_;have:=J3.1 j.1.c;refine .eq (λal=>?_) λal=>?_
  ·refine .bind (J8G j.1.2 om) λy6 a4=>.bind (Jcs a4.1.1.z) λy7 ao=>?_;have a3:zFt 0 S .s y7:=ao.1;refine .bind (Jj (B:=B) (S:=S) (⟨fkn 40,a4.1.2⟩) om) λy8 a5=>.eq (λb1=>?_) λb1=>?_
   ·refine .bind (J0N a5.1.2 om) λy9 V=>?_;have:0<=y9.2.2:=V.2;refine .bind (J0N V.1.2 om) λaf K=>?_;have:0<=af.2.2:=K.2;exact .some ⟨(⟨⟨e.1,V.1.1,K.1.1,a3.u⟩,K.1.2⟩),om⟩
   ·exact .some ⟨(⟨⟨e.1,h9.1.1,j.1.1,a3.u⟩,a5.1.2⟩),om⟩
  ·refine .bind (Jj (B:=B) (S:=S) (⟨fkn 40,j.1.2⟩) om) λbd R=>?_;have:=J3.1 R.1.c;refine .eq (λai=>?_) λai=>?_
   ·refine .bind (J0N R.1.2 om) λah P=>?_;have:0<=ah.2.2:=P.2;refine .bind (J0N P.1.2 om) λb2 N=>?_;have:0<=b2.2.2:=N.2;exact .some ⟨(⟨⟨e.1,P.1.1,N.1.1,Je⟩,N.1.2⟩),om⟩
   ·exact .some ⟨(⟨⟨e.1,h9.1.1,j.1.1,Je⟩,R.1.2⟩),om⟩
 ·refine .eq (λb6=>?_) λb6=>?_
  ·refine .bind (Jj (B:=B) (S:=S) (⟨h.1,h2.1.2⟩) om) λbm I=>?_;have:=J3.1 I.1.c;refine .bind (Jj (B:=B) (S:=S) (⟨fkn 2,I.1.2⟩) om) λbp k=>?_;have:=J3.1 k.1.c;refine .eq (λak=>?_) λak=>?_
   ·refine .bind (J8G k.1.2 om) λa6 Y=>?_;have:=J3.1 Y.1.c;have:=J4 (l:=a6.1);have:=Jzh (J0 a6.1) 12;refine .bind (Jcs Y.1.1.z) λay au=>?_;have a2:zFt 0 S .s ay:=au.1;refine .bind (Jj (B:=B) (S:=S) (⟨fkn 40,Y.1.2⟩) om) λbi W=>?_;have:=J3.1 W.1.c;refine .eq (λax=>?_) λax=>?_
    ·refine .bind (J0N W.1.2 om) λaz U=>?_;have:0<=az.2.2:=U.2;refine .bind (J0N U.1.2 om) λb5 a0=>?_;have:0<=b5.2.2:=a0.2;exact .some ⟨(⟨⟨e.1,U.1.1,a0.1.1,a2.u⟩,a0.1.2⟩),om⟩
    ·exact .some ⟨(⟨⟨e.1,I.1.1,k.1.1,a2.u⟩,W.1.2⟩),om⟩
   ·refine .bind (Jj (B:=B) (S:=S) (⟨fkn 40,k.1.2⟩) om) λZ g=>?_;have:=J3.1 g.1.1;have:=J3.1 g.1.c;have:0<=Z.1/\Z.1<40/\0<=Z.2.2:=⟨g.2.1,g.c.1 (show(1:Int)<=40 by decide),g.d⟩;refine .eq (λan=>?_) λan=>?_
    ·refine .bind (J0N g.1.2 om) λav T=>?_;have:0<=av.2.2:=T.2;refine .bind (J0N T.1.2 om) λb4 M=>?_;have:0<=b4.2.2:=M.2;exact .some ⟨(⟨⟨e.1,T.1.1,M.1.1,Je⟩,M.1.2⟩),om⟩
    ·exact .some ⟨(⟨⟨e.1,I.1.1,k.1.1,Je⟩,g.1.2⟩),om⟩
  ·refine .eq (λb7=>?_) λb7=>?_
   ·refine .bind (Jj (B:=B) (S:=S) (⟨h.1,h2.1.2⟩) om) λbh J=>?_;have:=J3.1 J.1.c;refine .bind (Jj (B:=B) (S:=S) (⟨fkn 2,J.1.2⟩) om) λbo n=>?_;have:=J3.1 n.1.c;refine .eq (λad=>?_) λad=>?_
    ·refine .bind (J8G n.1.2 om) λbc Q=>.bind (Jcs Q.1.1.z) λaj a7=>?_;have O:zFt 0 S .s aj:=a7.1;refine .bind (Jj (B:=B) (S:=S) (⟨fkn 40,Q.1.2⟩) om) λbq L=>.eq (λab=>?_) λab=>?_
     ·refine .bind (J0N L.1.2 om) λaw o=>?_;have:0<=aw.2.2:=o.2;refine .bind (J0N o.1.2 om) λaq D=>?_;have:0<=aq.2.2:=D.2;exact .some ⟨(⟨⟨e.1,o.1.1,D.1.1,O.u⟩,D.1.2⟩),om⟩
     ·exact .some ⟨(⟨⟨e.1,J.1.1,n.1.1,O.u⟩,L.1.2⟩),om⟩
    ·refine .bind (Jj (B:=B) (S:=S) (⟨fkn 40,n.1.2⟩) om) λbg A=>?_;have:=J3.1 A.1.c;refine .eq (λa9=>?_) λa9=>?_
     ·refine .bind (J0N A.1.2 om) λam C=>?_;have:0<=am.2.2:=C.2;refine .bind (J0N C.1.2 om) λb0 x=>?_;have:0<=b0.2.2:=x.2;exact .some ⟨(⟨⟨e.1,C.1.1,x.1.1,Je⟩,x.1.2⟩),om⟩
     ·exact .some ⟨(⟨⟨e.1,J.1.1,n.1.1,Je⟩,A.1.2⟩),om⟩
   ·refine .eq (λaa=>?_) λaa=>?_
    ·refine .bind (Jj (B:=B) (S:=S) (⟨fkn 2,h2.1.2⟩) om) λbn G=>?_;have:=J3.1 G.1.c;refine .bind (Jj (B:=B) (S:=S) (⟨fkn 40,G.1.2⟩) om) λbf r=>?_;have:=J3.1 r.1.c;refine .eq (λa8=>?_) λa8=>?_
     ·refine .bind (J0N r.1.2 om) λb3 E=>?_;have:0<=b3.2.2:=E.2;refine .bind (J0N E.1.2 om) λb8 H=>?_;have:0<=b8.2.2:=H.2;exact .some ⟨(⟨⟨e.1,E.1.1,H.1.1,Je⟩,H.1.2⟩),om⟩
     ·exact .some ⟨(⟨⟨e.1,fk0,G.1.1,Je⟩,r.1.2⟩),om⟩
    ·refine .bind (Jj (B:=B) (S:=S) (⟨fkn 40,h2.1.2⟩) om) λbj v=>?_;have:=J3.1 v.1.c;refine .eq (λac=>?_) λac=>?_
     ·refine .bind (J0N v.1.2 om) λag w=>?_;have:0<=ag.2.2:=w.2;refine .bind (J0N w.1.2 om) λap F=>?_;have:0<=ap.2.2:=F.2;exact .some ⟨(⟨⟨e.1,w.1.1,F.1.1,Je⟩,F.1.2⟩),om⟩
     ·exact .some ⟨(⟨⟨e.1,fzr⟩,v.1.2⟩),om⟩
theorem JiT{B S:Int}{x1:JAw}(h:zFt B S (.pr zI JAc) x1)(p0:0<=x1.2.2.2.2)(K:BG B S:=by omega):Tot (J6w x1) λy=>zFt B S (.pr J0X J7) y/\(0<=y.2.2):=by
 unfold J6w;refine .bind (Jj (B:=B) (S:=S) (⟨fkn 16,h.d⟩) om) λR h2=>?_;have:=J3.1 h2.1.c;refine .eq (λI=>?_) λI=>?_
 ·exact .some ⟨(⟨⟨fkn 1,fzr⟩,h2.1.2⟩),om⟩
 ·refine .eq (λG=>?_) λG=>?_
  ·exact .some ⟨(⟨⟨fkn 1,fzr⟩,h2.1.2⟩),om⟩
  ·refine .eq (λF=>?_) λF=>?_
   ·refine .bind (Jj (B:=B) (S:=S) (⟨h.1,h2.1.2⟩) om) λM v=>?_;have:=J3.1 v.1.c;exact .some ⟨(⟨⟨fkn 3,fk0,v.1.1,fzr⟩,v.1.2⟩),om⟩
   ·refine .eq (λx=>?_) λx=>?_
    ·exact .some ⟨(⟨⟨fkn 4,fzr⟩,h2.1.2⟩),om⟩
    ·refine .eq (λC=>?_) λC=>?_
     ·exact .some ⟨(⟨⟨fkn 5,fzr⟩,h2.1.2⟩),om⟩
     ·refine .eq (λE=>?_) λE=>?_
      ·refine .ite (λw=>?_) λw=>?_
       ·refine .bind (Jj (B:=B) (S:=S) (⟨fkn 4,h2.1.2⟩) om) λQ r=>?_;have:=J3.1 r.1.c;refine .bind (Jj (B:=B) (S:=S) (⟨fkn 90,r.1.2⟩) om) λO n=>?_;have:=J3.1 n.1.c;refine .bind (Jj (B:=B) (S:=S) (⟨J8,n.1.2⟩) om) λP q=>?_;have:=J3.1 q.1.c;refine .bind (Jj (B:=B) (S:=S) (⟨fkn 257,q.1.2⟩) om) λL e=>?_;have:=J3.1 e.1.c;exact .some ⟨(⟨⟨fkn 6,fk0,J2d,JGo,e.1.1,fzr⟩,e.1.2⟩),om⟩
       ·refine .bind (Jj (B:=B) (S:=S) (⟨h.2.1,h2.1.2⟩) om) λN k=>?_;have:=J3.1 k.1.c;refine .bind (Jat (B:=B) (S:=S) (⟨h.1,k.1.2⟩) om) λH g=>?_;have:0<=H.2.2:=g.2;exact .some ⟨(⟨⟨fkn 2,J8,fk0,fk0,fk0,g.1.1.z.u⟩,g.1.2⟩),om⟩
      ·refine .eq (λA=>?_) λA=>?_
       ·exact .some ⟨(⟨⟨fkn 7,fzr⟩,h2.1.2⟩),om⟩
       ·refine .bind (Jj (B:=B) (S:=S) (⟨h.2.1,h2.1.2⟩) om) λJ o=>?_;have:=J3.1 o.1.c;refine .bind (Jat (B:=B) (S:=S) (⟨h.1,o.1.2⟩) om) λD j=>?_;have:0<=D.2.2:=j.2;exact .some ⟨(⟨⟨fkn 2,J8,fk0,fk0,fk0,j.1.1.z.u⟩,j.1.2⟩),om⟩
theorem Jf0{B S:Int}{x1:JAw}(h:zFt B S (.pr zI JAc) x1)(p0:0<=x1.2.2.2.2)(L:0<=x1.2.1)(K:x1.2.1<=1000)(J:BG B S:=by omega):Tot (J4u x1) λy=>zFt B S (.pr (.l J0X) J7) y/\(0<=y.2.2):=by
 unfold J4u;refine .bind (Jj (B:=B) (S:=S) (⟨J8,h.d⟩) om) λj h3=>?_;have:=J3.1 h3.1.1;have:=Jb x1.2.1 1;have:=J3.1 h3.1.c;have:0<=j.1/\(1<=(J1 .i64 x1.2.1 1)->j.1<(J1 .i64 x1.2.1 1))/\0<=j.2.2:=h3.2;refine Jf (τ:=Int×Jp×(List J3H)) (λq=>(x1.1,x1.2.2.1,q.1,q.2.1,q.2.2)) (λq=>zFt 0 0 zI q.1/\zFt B S J7 q.2.1/\zFt 1003 S (.l J0X) q.2.2/\(0<=q.1)/\(0<=q.2.1.2)/\(J0 q.2.2+q.1<=1003)) (λq=>q.1) ?_ (j.1,j.2,[(1,0,0,0,0,0,0,0,[]),(1,0,0,0,0,0,0,0,[])]) rfl ?_
 ·rintro⟨k,F,e⟩ r;dsimp only at r;obtain⟨E,A,g,I,H,G⟩:=r;unfold J8C
  try dsimp only
  have:=J3.1 E;have:J0 e<=1003:=g.1;have:=J4 (l:=e);have:J0 e=_:=Jk g;refine .gt (λC=>?_) λC=>?_
  ·refine .bind (JiT (B:=B) (S:=S) (⟨h.1,fkn 5,trivial,A⟩) om) λD n=>?_;have:0<=D.2.2:=n.2;refine .bind (J0u (B:=1004) (Bl:=1003) (Bm:=1) (S:=S) (J0 e) 1 g (J0j (B:=1) (S:=S) (t:=J0X) oo (n.1.1.z.u))) λo v=>?_;have:J0 o=_:=Jk v.1;have w:zFt 1003 S (.l J0X) o:=⟨(by omega:J0 o<=1003),λx hx=>v.1.2 x hx⟩;have:=J0o k 1;exact .some ⟨(JI .i64 k 1,D.2,o),rfl,⟨J2d,n.1.2,w,om,om,om⟩,om,om⟩
  ·exact .some ⟨(⟨g.u,A⟩),om⟩
 ·try dsimp only
  exact⟨h3.1.1,h3.1.2,(J0Y (B:=2) (S:=0) (t:=J0X) (by have q:((2:Nat):Int)<=2:=oo;exact q) (⟨fkn 1,fzr⟩) (J0Y (B:=2) (S:=0) (t:=J0X) (by have q:((1:Nat):Int)<=2:=oo;exact q) (⟨fkn 1,fzr⟩) Jc)).u,om,om,by show((2:Nat):Int)+j.1<=1003;omega⟩
end Go.Am
end
section
namespace Go.Am
set_option linter.unusedVariables false
set_option maxRecDepth 20000
set_option maxHeartbeats 4000000
theorem JmV{B S x1:Int}(h:zFt B S zI x1)(p0:x1<=64)(x:BS B S 0 0:=by omega):Tot (J8n x1) λy=>zFt 64 256 (.l .s) y:=by
 unfold J8n;have:=J3.1 h;refine Jf (τ:=Int×(List (List UInt8))) (λq=>(x1,q.1,q.2)) (λq=>(zFt 0 0 zI q.1/\0<=q.1/\(q.1<=x1\/q.1<=0))/\(zFt 64 256 (.l .s) q.2/\J0 q.2<=1*q.1+0)) (λq=>x1-q.1) ?_ (0,[]) rfl ?_
 ·rintro⟨g,e⟩ j;dsimp only at j;obtain⟨⟨o,z,C⟩,k,D⟩:=j;unfold Jd0
  try dsimp only
  have:=J3.1 o;refine .lt (λr=>?_) λr=>?_
  ·refine .bind (JtP (t:=(.i .u8)) (B:=256) (S:=0) (J50 .u8 0)) λA w=>?_;have:J0 e<=64:=k.1;have:=J4 (l:=e);refine .bind (J0u (B:=64) (Bl:=64) (Bm:=1) (S:=256) (J0 e) 1 k (J0j (B:=1) (S:=256) (t:=.s) oo ((Jed (B:=0) (S:=256) w.1.1).u))) λv n=>?_;have:=Jb g 1;exact .some ⟨(J1 .i64 g 1,v),rfl,⟨⟨J8,om,om⟩,n.1,om⟩,om,om⟩
  ·exact .some k
 ·have:J0 ([]:List (List UInt8))=0:=rfl
  try dsimp only
  exact⟨⟨fk0,oo,oo⟩,Jc,oo⟩
theorem Jyk{B S x1:Int}(h:zFt B S zI x1)(g:BS B S 0 0:=by omega):Tot (J7r x1) λy=>zFt 64 256 Jki y:=by
 unfold J7r;have:=J3.1 h;refine .ltf (λe=>?_) λe=>?_
 ·refine .gt (λc3=>?_) λc3=>?_
  ·exact .some (⟨⟨Jc,fk0,Jc,trivial,Jc⟩,fkn 1⟩)
  ·refine .bind (JmV h om) λj h4=>.some (⟨⟨h4,fk0,Jc,trivial,Jc⟩,fk0⟩)
 ·exact .some (⟨⟨Jc,fk0,Jc,trivial,Jc⟩,fkn 1⟩)
theorem Jjd{B S x1:Int}(h:zFt B S zI x1)(g:BS B S 0 0:=by omega):Tot (J4d x1) λy=>zFt 0 0 tq7 y:=by
 unfold J4d;refine .ltf (λe=>?_) λe=>?_
 ·refine .gt (λc3=>?_) λc3=>?_
  ·exact .some (⟨fzr,fkn 1⟩)
  ·exact .some (⟨⟨h,fzr⟩,fk0⟩)
 ·exact .some (⟨fzr,fkn 1⟩)
theorem Jj8{B S x1:Int}(h:zFt B S zI x1)(g:BS B S 0 0:=by omega):Tot (J55 x1) λy=>zFt 64 0 JAK y:=by
 unfold J55;have:=J3.1 h;refine .ltf (λe=>?_) λe=>?_
 ·refine .gt (λc3=>?_) λc3=>?_
  ·exact .some (⟨Jc,fkn 1⟩)
  ·refine .bind (JtP (t:=Jd) (B:=64) (S:=0) (fzr)) λj h4=>.some (⟨h4.1,fk0⟩)
 ·exact .some (⟨Jc,fkn 1⟩)
theorem Jx9{B S:Int}{x1:JK}(h:zFt B S J0c x1)(o:BS B S 0 0:=by omega):Tot (J54 x1) λy=>zFt 64 0 tq1 y:=by
 unfold J54;refine .ltf (λn=>?_) λn=>?_
 ·refine .gtf (λc3=>?_) λc3=>?_
  ·have:=J3.1 h.2;refine .ltf (λk=>?_) λk=>?_
   ·refine .gt (λj=>?_) λj=>?_
    ·exact .some (⟨fzr,fkn 1⟩)
    ·refine .bind (Jjd h.2) λr g=>.bind (Jj8 h.1) λq e=>.some (⟨⟨h.1,fkn 1,⟨fkn 1,fzr⟩,g.1.u,fzr,Jc,e.1,Jc⟩,fk0⟩)
   ·exact .some (⟨fzr,fkn 1⟩)
  ·exact .some (⟨fzr,fkn 1⟩)
 ·exact .some (⟨fzr,fkn 1⟩)
theorem Jx7{B S:Int}{x1:JK}(h:zFt B S J0c x1)(j:BS B S 0 0:=by omega):Tot (J4j x1) λy=>zFt 64 256 tq3 y:=by
 unfold J4j;refine .bind (Jx9 (B:=0) (S:=0) (h)) λn h1=>.ne (λe=>?_) λe=>?_
 ·exact .some (⟨⟨fzr,Jc,fk0,Jc,trivial,Jc⟩,h1.2⟩)
 ·refine .bind (Jyk h.1) λk h4=>.ne (λg=>?_) λg=>?_
  ·exact .some (⟨⟨fzr,Jc,fk0,Jc,trivial,Jc⟩,h4.2⟩)
  ·exact .some (⟨⟨h1.1.u,h4.1⟩,fk0⟩)
theorem JaY{B S:Int}{x1:JK}(h:zFt B S J0c x1)(g:BS B S 0 0:=by omega):Tot (J1N x1) λy=>zFt 0 0 .b y/\(y=true->0<=x1.1/\x1.1<x1.2):=by
 unfold J1N;have:=J3.1 h.1;refine .ge (λe=>?_) λe=>?_
 ·have:=J3.1 h.2;exact .some ⟨trivial,λc=>omc (J4v.1 c)⟩
 ·exact .some ⟨trivial,nofun⟩
theorem J8K{B S:Int}{x1:J1k}(h:zFt B S JG x1)(j:BS B S 0 0:=by omega):Tot (J0l x1) λy=>zFt 0 0 .b y/\(y=true->J0 x1.2<=12):=by
 unfold J0l;refine .le (λg=>?_) λg=>?_
 ·refine .itf (λe=>?_) λe=>?_
  ·exact .some ⟨trivial,λ_=>om⟩
  ·exact .some ⟨trivial,λ_=>om⟩
 ·exact .some ⟨trivial,nofun⟩
theorem JbB{B S:Int}{x1:T_api_Change}(h:zFt B S J14 x1)(q:BS B S 0 0:=by omega):Tot (J1e x1) λy=>zFt 0 0 .b y/\(y=true->0<=x1.1/\x1.1<64/\0<=x1.2.1/\x1.2.1<16/\J0 x1.2.2.1.2<=12/\J0 x1.2.2.2.2<=12):=by
 unfold J1e;have s0:zFt 0 S J14 x1:=h;have:=J3.1 s0.1;refine .ge (λo=>?_) λo=>?_
 ·refine .lt (λc3=>?_) λc3=>?_
  ·have:=J3.1 s0.2.1;refine .ge (λn=>?_) λn=>?_
   ·refine .lt (λk=>?_) λk=>?_
    ·refine .bind (J8K (B:=0) (S:=S) s0.2.2.1) λv j=>.ite (λg=>?_) λg=>?_
     ·have:J0 x1.2.2.1.2<=S:=s0.2.2.1.2;have:=J4 (l:=x1.2.2.1.2);have:J0 x1.2.2.1.2<=12:=j.2 g;refine .bind (J8K (B:=0) (S:=S) s0.2.2.2) λr e=>?_;have:=J4 (l:=x1.2.2.2.2);exact .some ⟨trivial,λc=>by have:J0 x1.2.2.2.2<=12:=e.2 c;first|omega|(dsimp only;omega)|(simp only[Jd6,J5y]<;>omega)⟩
     ·exact .some ⟨trivial,nofun⟩
    ·exact .some ⟨trivial,nofun⟩
   ·exact .some ⟨trivial,nofun⟩
  ·exact .some ⟨trivial,nofun⟩
 ·exact .some ⟨trivial,nofun⟩
theorem Jr5{B S:Int}{x1:J2}(h:zFt B S J6 x1)(W:BS B S 0 0:=by omega):Tot (J27 x1) λy=>zFt 0 S JzM y/\(y.2=true->0<=y.1.2.2.1/\y.1.2.2.1<=1073741824/\0<=y.1.2.2.2.2.2.2.1.1/\y.1.2.2.2.2.2.2.1.1<64/\0<=y.1.2.2.2.2.2.2.1.2.1/\y.1.2.2.2.2.2.2.1.2.1<16/\J0 y.1.2.2.2.2.2.2.1.2.2.1.2<=12/\J0 y.1.2.2.2.2.2.2.1.2.2.2.2<=12/\J0 y.1.2.2.2.2.2.2.2<=8192):=by
 unfold J27;have s0:zFt 0 S J6 x1:=h;refine .eq (λT=>?_) λT=>?_
 ·refine .bind (JbB (B:=0) (S:=S) s0.2.2.2.2.2.2.1) λZ h3=>.eq (λV=>?_) λV=>?_
  ·refine .ite (λU=>?_) λU=>?_
   ·have:=J3.1 s0.2.2.2.2.2.2.1.1;refine .gt (λE=>?_) λE=>?_
    ·have:=J3.1 s0.2.2.2.2.2.1;refine .ge (λx=>?_) λx=>?_
     ·refine .le (λj=>?_) λj=>?_
      ·have:=J3.1 s0.2.2.1;refine .ge (λo=>?_) λo=>?_
       ·exact .some ⟨(⟨⟨s0.1,s0.2.1,s0.2.2.1,s0.2.2.2.1,s0.2.2.2.2.1,s0.2.2.2.2.2.1,s0.2.2.2.2.2.2.1,Je⟩,trivial⟩),λc=>omc (J1O.1 c)⟩
       ·exact .some ⟨(⟨⟨s0.1,s0.2.1,s0.2.2.1,s0.2.2.2.1,s0.2.2.2.2.1,s0.2.2.2.2.2.1,s0.2.2.2.2.2.2.1,Je⟩,trivial⟩),nofun⟩
      ·exact .some ⟨(⟨⟨s0.1,s0.2.1,s0.2.2.1,s0.2.2.2.1,s0.2.2.2.2.1,s0.2.2.2.2.2.1,s0.2.2.2.2.2.2.1,Je⟩,trivial⟩),nofun⟩
     ·exact .some ⟨(⟨⟨s0.1,s0.2.1,s0.2.2.1,s0.2.2.2.1,s0.2.2.2.2.1,s0.2.2.2.2.2.1,s0.2.2.2.2.2.2.1,Je⟩,trivial⟩),nofun⟩
    ·exact .some ⟨(⟨⟨s0.1,s0.2.1,s0.2.2.1,s0.2.2.2.1,s0.2.2.2.2.1,s0.2.2.2.2.2.1,s0.2.2.2.2.2.2.1,Je⟩,trivial⟩),nofun⟩
   ·exact .some ⟨(⟨⟨s0.1,s0.2.1,s0.2.2.1,s0.2.2.2.1,s0.2.2.2.2.1,s0.2.2.2.2.2.1,s0.2.2.2.2.2.2.1,Je⟩,trivial⟩),nofun⟩
  ·refine .ite (λe=>?_) λe=>?_
   ·have:=J3.1 s0.2.2.2.2.2.2.1.1;have:=J3.1 s0.2.2.2.2.2.2.1.2.1;have:=J4 (l:=x1.2.2.2.2.2.2.1.2.2.1.2);have:=J4 (l:=x1.2.2.2.2.2.2.1.2.2.2.2);have:0<=x1.2.2.2.2.2.2.1.1/\x1.2.2.2.2.2.2.1.1<64/\0<=x1.2.2.2.2.2.2.1.2.1/\x1.2.2.2.2.2.2.1.2.1<16/\J0 x1.2.2.2.2.2.2.1.2.2.1.2<=12/\J0 x1.2.2.2.2.2.2.1.2.2.2.2<=12:=h3.2 e;have:=J3.1 s0.2.2.1;refine .ge (λA=>?_) λA=>?_
    ·exact .some ⟨(⟨⟨s0.1,s0.2.1,s0.2.2.1,s0.2.2.2.1,s0.2.2.2.2.1,fk0,s0.2.2.2.2.2.2.1,Je⟩,trivial⟩),λc=>omc (J1O.1 c)⟩
    ·exact .some ⟨(⟨⟨s0.1,s0.2.1,s0.2.2.1,s0.2.2.2.1,s0.2.2.2.2.1,fk0,s0.2.2.2.2.2.2.1,Je⟩,trivial⟩),nofun⟩
   ·exact .some ⟨(⟨⟨s0.1,s0.2.1,s0.2.2.1,s0.2.2.2.1,s0.2.2.2.2.1,fk0,s0.2.2.2.2.2.2.1,Je⟩,trivial⟩),nofun⟩
 ·refine .eq (λr=>?_) λr=>?_
  ·refine .bind (JbB (B:=0) (S:=S) s0.2.2.2.2.2.2.1) λY K=>.eq (λn=>?_) λn=>?_
   ·refine .ite (λg=>?_) λg=>?_
    ·have:=J3.1 s0.2.2.2.2.2.2.1.1;have:=J3.1 s0.2.2.2.2.2.2.1.2.1;have:=J4 (l:=x1.2.2.2.2.2.2.1.2.2.1.2);have:=J4 (l:=x1.2.2.2.2.2.2.1.2.2.2.2);have:0<=x1.2.2.2.2.2.2.1.1/\x1.2.2.2.2.2.2.1.1<64/\0<=x1.2.2.2.2.2.2.1.2.1/\x1.2.2.2.2.2.2.1.2.1<16/\J0 x1.2.2.2.2.2.2.1.2.2.1.2<=12/\J0 x1.2.2.2.2.2.2.1.2.2.2.2<=12:=K.2 g;refine .gt (λD=>?_) λD=>?_
     ·have:=J3.1 s0.2.2.2.2.2.1;refine .ge (λM=>?_) λM=>?_
      ·refine .le (λL=>?_) λL=>?_
       ·have:=J3.1 s0.2.2.1;refine .ge (λk=>?_) λk=>?_
        ·exact .some ⟨(⟨⟨s0.1,s0.2.1,s0.2.2.1,s0.2.2.2.1,s0.2.2.2.2.1,s0.2.2.2.2.2.1,s0.2.2.2.2.2.2.1,Je⟩,trivial⟩),λc=>omc (J1O.1 c)⟩
        ·exact .some ⟨(⟨⟨s0.1,s0.2.1,s0.2.2.1,s0.2.2.2.1,s0.2.2.2.2.1,s0.2.2.2.2.2.1,s0.2.2.2.2.2.2.1,Je⟩,trivial⟩),nofun⟩
       ·exact .some ⟨(⟨⟨s0.1,s0.2.1,s0.2.2.1,s0.2.2.2.1,s0.2.2.2.2.1,s0.2.2.2.2.2.1,s0.2.2.2.2.2.2.1,Je⟩,trivial⟩),nofun⟩
      ·exact .some ⟨(⟨⟨s0.1,s0.2.1,s0.2.2.1,s0.2.2.2.1,s0.2.2.2.2.1,s0.2.2.2.2.2.1,s0.2.2.2.2.2.2.1,Je⟩,trivial⟩),nofun⟩
     ·exact .some ⟨(⟨⟨s0.1,s0.2.1,s0.2.2.1,s0.2.2.2.1,s0.2.2.2.2.1,s0.2.2.2.2.2.1,s0.2.2.2.2.2.2.1,Je⟩,trivial⟩),nofun⟩
    ·exact .some ⟨(⟨⟨s0.1,s0.2.1,s0.2.2.1,s0.2.2.2.1,s0.2.2.2.2.1,s0.2.2.2.2.2.1,s0.2.2.2.2.2.2.1,Je⟩,trivial⟩),nofun⟩
   ·refine .ite (λJ=>?_) λJ=>?_
    ·have:=J3.1 s0.2.2.2.2.2.2.1.1;refine .ge (λG=>?_) λG=>?_
     ·exact .some ⟨(⟨⟨s0.1,s0.2.1,s0.2.2.1,s0.2.2.2.1,s0.2.2.2.2.1,fk0,s0.2.2.2.2.2.2.1,Je⟩,trivial⟩),λc=>omc (J1O.1 c)⟩
     ·exact .some ⟨(⟨⟨s0.1,s0.2.1,s0.2.2.1,s0.2.2.2.1,s0.2.2.2.2.1,fk0,s0.2.2.2.2.2.2.1,Je⟩,trivial⟩),nofun⟩
    ·exact .some ⟨(⟨⟨s0.1,s0.2.1,s0.2.2.1,s0.2.2.2.1,s0.2.2.2.2.1,fk0,s0.2.2.2.2.2.2.1,Je⟩,trivial⟩),nofun⟩
  ·refine .eq (λz=>?_) λz=>?_
   ·have:=J3.1 s0.2.2.1;refine .ge (λI=>?_) λI=>?_
    ·refine .le (λw=>?_) λw=>?_
     ·have:=J3.1 s0.2.2.2.1;exact .some ⟨(⟨⟨s0.1,s0.2.1,s0.2.2.1,s0.2.2.2.1,fk0,fk0,⟨fk0,fk0,⟨trivial,Je⟩,trivial,Je⟩,Je⟩,trivial⟩),λc=>omc (J8i.1 c)⟩
     ·exact .some ⟨(⟨⟨s0.1,s0.2.1,s0.2.2.1,s0.2.2.2.1,fk0,fk0,⟨fk0,fk0,⟨trivial,Je⟩,trivial,Je⟩,Je⟩,trivial⟩),nofun⟩
    ·exact .some ⟨(⟨⟨s0.1,s0.2.1,s0.2.2.1,s0.2.2.2.1,fk0,fk0,⟨fk0,fk0,⟨trivial,Je⟩,trivial,Je⟩,Je⟩,trivial⟩),nofun⟩
   ·refine .eq (λN=>?_) λN=>?_
    ·have:=J3.1 s0.2.2.1;refine .ge (λF=>?_) λF=>?_
     ·refine .le (λH=>?_) λH=>?_
      ·have:=J3.1 s0.2.2.2.1;exact .some ⟨(⟨⟨s0.1,s0.2.1,s0.2.2.1,s0.2.2.2.1,fk0,fk0,⟨fk0,fk0,⟨trivial,Je⟩,trivial,Je⟩,Je⟩,trivial⟩),λc=>omc (J8i.1 c)⟩
      ·exact .some ⟨(⟨⟨s0.1,s0.2.1,s0.2.2.1,s0.2.2.2.1,fk0,fk0,⟨fk0,fk0,⟨trivial,Je⟩,trivial,Je⟩,Je⟩,trivial⟩),nofun⟩
     ·exact .some ⟨(⟨⟨s0.1,s0.2.1,s0.2.2.1,s0.2.2.2.1,fk0,fk0,⟨fk0,fk0,⟨trivial,Je⟩,trivial,Je⟩,Je⟩,trivial⟩),nofun⟩
    ·refine .eq (λq=>?_) λq=>?_
     ·have:=J3.1 s0.2.2.1;refine .ge (λQ=>?_) λQ=>?_
      ·refine .le (λv=>?_) λv=>?_
       ·have:=J3.1 s0.2.2.2.1;exact .some ⟨(⟨⟨s0.1,s0.2.1,s0.2.2.1,s0.2.2.2.1,fk0,fk0,⟨fk0,fk0,⟨trivial,Je⟩,trivial,Je⟩,Je⟩,trivial⟩),λc=>omc (J8i.1 c)⟩
       ·exact .some ⟨(⟨⟨s0.1,s0.2.1,s0.2.2.1,s0.2.2.2.1,fk0,fk0,⟨fk0,fk0,⟨trivial,Je⟩,trivial,Je⟩,Je⟩,trivial⟩),nofun⟩
      ·exact .some ⟨(⟨⟨s0.1,s0.2.1,s0.2.2.1,s0.2.2.2.1,fk0,fk0,⟨fk0,fk0,⟨trivial,Je⟩,trivial,Je⟩,Je⟩,trivial⟩),nofun⟩
     ·refine .eq (λR=>?_) λR=>?_
      ·have:J0 x1.2.2.2.2.2.2.2<=S:=s0.2.2.2.2.2.2.2;have:=J4 (l:=x1.2.2.2.2.2.2.2);exact .some ⟨(⟨⟨s0.1,s0.2.1,fk0,fk0,fk0,fk0,⟨fk0,fk0,⟨trivial,Je⟩,trivial,Je⟩,s0.2.2.2.2.2.2.2⟩,trivial⟩),λc=>omc (J1O.1 c)⟩
      ·refine .eq (λP=>?_) λP=>?_
       ·have:J0 x1.2.2.2.2.2.2.2<=S:=s0.2.2.2.2.2.2.2;have:=J4 (l:=x1.2.2.2.2.2.2.2);exact .some ⟨(⟨⟨s0.1,s0.2.1,fk0,fk0,fk0,fk0,⟨fk0,fk0,⟨trivial,Je⟩,trivial,Je⟩,s0.2.2.2.2.2.2.2⟩,trivial⟩),λc=>omc (J1O.1 c)⟩
       ·refine .eq (λO=>?_) λO=>?_
        ·have:=J3.1 s0.2.2.2.2.2.2.1.1;refine .ge (λC=>?_) λC=>?_
         ·exact .some ⟨(⟨⟨s0.1,s0.2.1,fk0,fk0,fk0,s0.2.2.2.2.2.1,⟨s0.2.2.2.2.2.2.1.1,fk0,⟨trivial,Je⟩,trivial,Je⟩,Je⟩,trivial⟩),λc=>omc (J4v.1 c)⟩
         ·exact .some ⟨(⟨⟨s0.1,s0.2.1,fk0,fk0,fk0,s0.2.2.2.2.2.1,⟨s0.2.2.2.2.2.2.1.1,fk0,⟨trivial,Je⟩,trivial,Je⟩,Je⟩,trivial⟩),nofun⟩
        ·exact .some ⟨(⟨⟨s0.1,s0.2.1,fk0,fk0,fk0,fk0,⟨fk0,fk0,⟨trivial,Je⟩,trivial,Je⟩,Je⟩,trivial⟩),nofun⟩
theorem J2X{B S:Int}{x1:J2}(h:zFt B S J6 x1)(C:BS B S 0 0:=by omega):Tot (Jx x1) λy=>zFt 0 0 .b y/\(y=true->1<=x1.1/\x1.1<=1099511627776/\0<=x1.2.2.1/\x1.2.2.1<=1073741824/\0<=x1.2.2.2.1/\x1.2.2.2.1<x1.1/\0<=x1.2.2.2.2.1/\x1.2.2.2.2.1<x1.1/\0<=x1.2.2.2.2.2.1/\x1.2.2.2.2.2.1<x1.1/\0<=x1.2.2.2.2.2.2.1.1/\x1.2.2.2.2.2.2.1.1<64/\0<=x1.2.2.2.2.2.2.1.2.1/\x1.2.2.2.2.2.2.1.2.1<16/\J0 x1.2.2.2.2.2.2.1.2.2.1.2<=12/\J0 x1.2.2.2.2.2.2.1.2.2.2.2<=12/\J0 x1.2.2.2.2.2.2.2<=8192):=by
 unfold Jx;have s0:zFt 0 S J6 x1:=h;refine .bind (Jr5 (B:=0) (S:=S) s0) λe h1=>.ite (λx=>?_) λx=>?_
 ·have:=J3.1 h1.1.1.c.1;have n:0<=e.1.2.2.1/\e.1.2.2.1<=1073741824/\0<=e.1.2.2.2.2.2.2.1.1/\e.1.2.2.2.2.2.2.1.1<64/\0<=e.1.2.2.2.2.2.2.1.2.1/\e.1.2.2.2.2.2.2.1.2.1<16/\J0 e.1.2.2.2.2.2.2.1.2.2.1.2<=12/\J0 e.1.2.2.2.2.2.2.1.2.2.2.2<=12/\J0 e.1.2.2.2.2.2.2.2<=8192:=h1.2 x;refine .ite (λg=>?_) λg=>?_
  ·have r:=J1J.1 g;have:0<=x1.2.2.1/\x1.2.2.1<=1073741824/\0<=x1.2.2.2.2.2.2.1.1/\x1.2.2.2.2.2.2.1.1<64/\0<=x1.2.2.2.2.2.2.1.2.1/\x1.2.2.2.2.2.2.1.2.1<16/\J0 x1.2.2.2.2.2.2.1.2.2.1.2<=12/\J0 x1.2.2.2.2.2.2.1.2.2.2.2<=12/\J0 x1.2.2.2.2.2.2.2<=8192:=by have q:=n;rw[r]at q;exact q
   have:=J3.1 s0.1;refine .ge (λA=>?_) λA=>?_
   ·refine .le (λz=>?_) λz=>?_
    ·refine .bind (JaY (B:=0) (S:=0) (⟨s0.2.2.2.1,s0.1⟩)) λD o=>.ite (λk=>?_) λk=>?_
     ·have:=J3.1 s0.2.2.2.1;have:0<=x1.2.2.2.1/\x1.2.2.2.1<x1.1:=o.2 k;refine .bind (JaY (B:=0) (S:=0) (⟨s0.2.2.2.2.1,s0.1⟩)) λF w=>.ite (λj=>?_) λj=>?_
      ·have:=J3.1 s0.2.2.2.2.1;have:0<=x1.2.2.2.2.1/\x1.2.2.2.2.1<x1.1:=w.2 j;refine .bind (JaY (B:=0) (S:=0) (⟨s0.2.2.2.2.2.1,s0.1⟩)) λE v=>?_;have:=J3.1 s0.2.2.2.2.2.1;have:=J4 (l:=x1.2.2.2.2.2.2.1.2.2.1.2);have:=J4 (l:=x1.2.2.2.2.2.2.1.2.2.2.2);have:=J4 (l:=x1.2.2.2.2.2.2.2);exact .some ⟨trivial,λc=>by have:0<=x1.2.2.2.2.2.1/\x1.2.2.2.2.2.1<x1.1:=v.2 c;first|omega|(dsimp only;omega)|(simp only[Jd6,J5y]<;>omega)⟩
      ·exact .some ⟨trivial,nofun⟩
     ·exact .some ⟨trivial,nofun⟩
    ·exact .some ⟨trivial,nofun⟩
   ·exact .some ⟨trivial,nofun⟩
  ·exact .some ⟨trivial,nofun⟩
 ·exact .some ⟨trivial,nofun⟩
section
variable {B S:Int}
theorem J2s{x:J2}{y:Bool}(h:zFt B S J6 x)(e:Jx x=some y)(c:y=true)(n:BS B S 0 0:=by omega):(1<=x.1/\x.1<=1099511627776/\0<=x.2.2.1/\x.2.2.1<=1073741824/\0<=x.2.2.2.1/\x.2.2.2.1<x.1/\0<=x.2.2.2.2.1/\x.2.2.2.2.1<x.1/\0<=x.2.2.2.2.2.1/\x.2.2.2.2.2.1<x.1/\0<=x.2.2.2.2.2.2.1.1/\x.2.2.2.2.2.2.1.1<64/\0<=x.2.2.2.2.2.2.1.2.1/\x.2.2.2.2.2.2.1.2.1<16/\J0 x.2.2.2.2.2.2.1.2.2.1.2<=12/\J0 x.2.2.2.2.2.2.1.2.2.2.2<=12/\J0 x.2.2.2.2.2.2.2<=8192)/\zFt 0 8192 J6 x:=by
 have q:=((J2X h).get e).2 c;obtain⟨h1,h2,h3,h4,h5,g,⟨k,j,_,_⟩,o⟩:=h;refine⟨q,h1,h2,h3,h4,h5,g,⟨k,j,⟨trivial,?_⟩,trivial,?_⟩,?_⟩
 ·show J0 _<=8192;omega
 ·show J0 _<=8192;omega
 ·show J0 _<=8192;omega
end
theorem J6C{B S:Int}{x1:JO}(h:zFt B S JT x1)(p0:1<=x1.1)(g:x1.1<=1099511627776)(j:J0 x1.2.1<=4096)(e:BS B S 0 0:=by omega)(k:B<=9223372036854775807:=by omega):Tot (J1X x1) λy=>zFt 0 0 zI y/\(y=x1.1+J0 x1.2.1-1):=by unfold J1X;have:=J4 (l:=x1.2.1);have:J0 x1.2.1=_:=Jk h.2.1;have:=Jb x1.1 (J0 x1.2.1);have:=J0o (J1 .i64 x1.1 (J0 x1.2.1)) 1;exact .some ⟨J2d,om⟩
theorem J2v{B S:Int}{x1:JO}(h:zFt B S JT x1)(J:BS B S 0 0:=by omega)(M:B<=9223372036854775807:=by omega):Tot (J02 x1) λy=>zFt 0 0 .b y/\(y=true->1<=x1.1/\x1.1<=1099511627776/\J0 x1.2.1<=4096/\x1.1-1<=x1.2.2/\x1.2.2<=x1.1+J0 x1.2.1-1):=by
 unfold J02;have:=J3.1 h.1;refine .ltf (λC=>?_) λC=>?_
 ·refine .gtf (λc3=>?_) λc3=>?_
  ·have:J0 x1.2.1<=B:=h.2.1.1;have:=J4 (l:=x1.2.1);have:J0 x1.2.1=_:=Jk h.2.1;refine .gtf (λD=>?_) λD=>?_
   ·have:=J3.1 h.c;have:=J0o x1.1 1;refine .ltf (λA=>?_) λA=>?_
    ·refine .bind (J6C h om om om) λN G=>.gt (λo=>?_) λo=>?_
     ·exact .some ⟨trivial,nofun⟩
     ·refine Jf (τ:=Int) (λq=>(q,x1)) (λq=>(zFt 0 0 zI q/\0<=q/\(q<=J0 x1.2.1\/q<=0))) (λq=>J0 x1.2.1-q) ?_ 0 rfl ?_
      ·rintro e ⟨k,E,F⟩;unfold J7I
       try dsimp only
       have:=J3.1 k;refine .lt (λw=>?_) λw=>?_
       ·refine .bind (Jh h.2.1) λL I=>?_;have:=Jb x1.1 e;refine .nef (λv=>?_) λv=>?_
        ·refine .bind (Jh h.2.1) λr j=>.bind ((J2X (B:=0) (S:=S) (x1:=r) j.1.z).eqn) λK n=>.not (λg=>?_) λg=>?_
         ·exact .some ⟨trivial,nofun⟩
         ·have H:=J2s (x:=r) j.1.z n.2 g;have:=Jb e 1;exact .some ⟨J1 .i64 e 1,rfl,⟨J8,om,om⟩,om,om⟩
        ·exact .some ⟨trivial,nofun⟩
       ·exact .some ⟨trivial,λ_=>om⟩
      ·try dsimp only
       exact⟨fk0,oo,oo⟩
    ·exact .some ⟨trivial,nofun⟩
   ·exact .some ⟨trivial,nofun⟩
  ·exact .some ⟨trivial,nofun⟩
 ·exact .some ⟨trivial,nofun⟩
section
variable {B S:Int}
theorem Jgs{x:JO}(h:zFt B S JT x)(e:J02 x=some true)(w:BC B S 0 0:=by omega):(1<=x.1/\x.1<=1099511627776/\J0 x.2.1<=4096/\x.1-1<=x.2.2/\x.2.2<=x.1+J0 x.2.1-1)/\ ∀(j:Nat) (e:J2),x.2.1[j]?=some e->e.1=x.1+j/\Jx e=some true:=by
 have q:=((J2v h).get e).2 rfl;refine⟨q,?_⟩;have n:Par (J02 x) λy=>y=true-> ∀(j:Nat) (e:J2),x.2.1[j]?=some e->e.1=x.1+j/\Jx e=some true:=by
  unfold J02
  repeat' first|exact Par.some nofun|refine Par.ltf (λ_=>?_) (λ_=>?_)|refine Par.gtf (λ_=>?_) (λ_=>?_)|refine Par.gt (λ_=>?_) (λ_=>?_)|refine Par.bind λ_ _=>?_
  refine .while (λz=>z.2=x/\0<=z.1/\ ∀(j:Nat) (e:J2),(j:Int)<z.1->x.2.1[j]?=some e->e.1=x.1+j/\Jx e=some true) ⟨rfl,J0C _,λj e h1=>by dsimp only at h1;omega⟩ ?_;rintro⟨i,z⟩ ⟨rfl,r,g⟩;dsimp only at r g q;unfold J7I;dsimp only;refine .lt (λc=>?_) λc=>.some λ_ j e he=>g j e (by have:=J4R he;omega) he;refine .bind λC h4=>.nef (λD=>.bind λA h5=>.bind λb hb=>.not (λ_=>.some nofun) λo=>.some ?_) λ_=>.some nofun;subst o;have:=Jb i 1;have:=Jb z.1 i;rw[h4]at h5;injection h5 with h5;subst h5
  refine⟨rfl,?_,λj e hj he=>?_⟩
  ·show 0<=J1 .i64 i 1;omega
  ·have hj:(j:Int)<J1 .i64 i 1:=hj;by_cases k:(j:Int)<i
   ·exact g j e k he
   ·have:j=i.toNat:=by omega
    subst this;have v:=(J0G h4).2;rw[v]at he;injection he with he;subst he
    exact⟨oo,hb⟩
 exact n _ e rfl
theorem J26{x:JO}{y:Bool}(h:zFt B S JT x)(e:J02 x=some y)(c:y=true)(g:BC B S 0 0:=by omega):(1<=x.1/\x.1<=1099511627776/\J0 x.2.1<=4096/\x.1-1<=x.2.2/\x.2.2<=x.1+J0 x.2.1-1)/\zFt 4096 8192 JT x:=by subst c;obtain⟨q,k⟩:=Jgs h e;refine⟨q,h.1,⟨q.2.2.1,λa ha=>?_⟩,h.c⟩;obtain⟨j,hj⟩:=J4V.1 ha;exact(J2s (h.2.1.2 a ha) (k j a hj).2 rfl).2.u
end
theorem J9e{B S:Int}{x1:J6t}(h:zFt B S tq8 x1)(o:BG B S:=by omega):Tot (J19 x1) λy=>zFt 4096 8192 tq8 y/\(y.2=0->J0 y.1.2.1=J0 x1.1.2.1):=by
 unfold J19;refine .bind ((J2v h.1).eqn) λr h1=>.not (λg=>?_) λg=>?_
 ·have:J0 x1.1.2.1<=B:=h.1.2.1.1;exact .some ⟨(⟨fzr,fkn 26⟩),om⟩
 ·have k:=J26 h.1 h1.2 g;have:=J4 (l:=x1.1.2.1);have:J0 x1.1.2.1=_:=Jk h.1.2.1;have e:zFt 4096 8192 JT x1.1:=k.2;refine .bind (J6C e om om om) λq n=>.gt (λj=>?_) λj=>?_
  ·exact .some ⟨(⟨fzr,fkn 14⟩),om⟩
  ·exact .some ⟨(⟨⟨e.1,e.2.1,J4q e.c h.2⟩,fk0⟩),om⟩
theorem J8g{B S:Int}{x1:JO}(h:zFt B S JT x1)(j:BC B S 0 0:=by omega):Tot (J3k x1) λy=>zFt 0 0 zI y:=by
 unfold J3k;refine .bind ((J2v h).eqn) λn h1=>.not (λe=>?_) λe=>?_
 ·exact .some fk0
 ·have v3:=J26 h h1.2 e;have:=J4 (l:=x1.2.1);have:J0 x1.2.1=_:=Jk h.2.1;have h10:zFt 4096 8192 JT x1:=v3.2;refine .bind (J6C h10 om om om) λk g=>.some g.1
theorem J09{B S x1:Int}(h:zFt B S zI x1)(e:BS B S 0 0:=by omega):Tot (Jr x1) λy=>zFt 0 0 J00 y/\(y.1=5):=by unfold Jr;exact .some ⟨(⟨fkn 5,fk0,fk0,⟨trivial,Je⟩,h⟩),om⟩
theorem JrJ{B S:Int}{x1:Jo}(h:zFt B S Jm x1)(ay:BS B S 0 0:=by omega)(hB:B<=9223372036854775807:=by omega):Tot (J2y x1) λy=>zFt 0 0 .b y:=by
 unfold J2y;refine .ltf (λc1=>?_) λc1=>?_
 ·refine .gtf (λc3=>?_) λc3=>?_
  ·have:=J3.1 h.2.1;refine .ltf (λc4=>?_) λc4=>?_
   ·refine .gtf (λc6=>?_) λc6=>?_
    ·have:=J3.1 h.c.1;refine .ltf (λc7=>?_) λc7=>?_
     ·refine .gtf (λc9=>?_) λc9=>?_
      ·have:J0 x1.2.2.2.2.1<=B:=h.e.1.1;have:=J4 (l:=x1.2.2.2.2.1);refine .gtf (λx=>?_) λx=>?_
       ·have:J0 x1.2.2.2.2.2<=B:=h.g.1;have:=J4 (l:=x1.2.2.2.2.2);refine .gt (λY=>?_) λY=>?_
        ·exact .some trivial
        ·have:=J3.1 h.d.1;refine .ltf (λE=>?_) λE=>?_
         ·refine .gtf (λC=>?_) λC=>?_
          ·refine .ne (λT=>?_) λT=>?_
           ·refine .ne (λa1=>?_) λa1=>?_
            ·exact .some trivial
            ·refine Jf (τ:=Int) (λq=>(q,x1)) (λq=>(zFt 0 0 zI q/\0<=q/\(q<=J0 x1.2.2.2.2.1\/q<=0))) (λq=>J0 x1.2.2.2.2.1-q) ?_ 0 rfl ?_
             ·rintro o ⟨R,ab,aq⟩;unfold JdA
              try dsimp only
              have:=J3.1 R;refine .lt (λZ=>?_) λZ=>?_
              ·refine .bind (Jh h.e.1) λy3 an=>.ltf (λA=>?_) λA=>?_
               ·refine .bind (Jh h.e.1) λy4 ai=>.gtf (λr=>?_) λr=>?_
                ·refine .gt (λV=>?_) λV=>?_
                 ·have:=J0o o 1;refine .bind (Jh h.e.1) λy5 av=>.bind (Jh h.e.1) λy6 b0=>.ge (λG=>?_) λG=>?_
                  ·exact .some trivial
                  ·have:=Jb o 1;exact .some ⟨J1 .i64 o 1,rfl,⟨J8,om,om⟩,om,om⟩
                 ·have:=Jb o 1;exact .some ⟨J1 .i64 o 1,rfl,⟨J8,om,om⟩,om,om⟩
                ·exact .some trivial
               ·exact .some trivial
              ·refine .inr ?_;refine Jf (τ:=Int) (λq=>(q,x1)) (λq=>(zFt 0 0 zI q/\0<=q/\(q<=J0 x1.2.2.2.2.2\/q<=0))) (λq=>J0 x1.2.2.2.2.2-q) ?_ 0 rfl ?_
               ·rintro n ⟨M,b8,ag⟩;unfold JdI
                try dsimp only
                have:=J3.1 M;refine .lt (λw=>?_) λw=>?_
                ·refine .bind (Jh h.g) λy8 aj=>.ltf (λQ=>?_) λQ=>?_
                 ·refine .bind (Jh h.g) λy9 az=>.gtf (λW=>?_) λW=>?_
                  ·refine .gt (λJ=>?_) λJ=>?_
                   ·have:=J0o n 1;refine .bind (Jh h.g) λa8 b5=>.bind (Jh h.g) λad ah=>.gt (λz=>?_) λz=>?_
                    ·exact .some trivial
                    ·have:=Jb n 1;exact .some ⟨J1 .i64 n 1,rfl,⟨J8,om,om⟩,om,om⟩
                   ·have:=Jb n 1;exact .some ⟨J1 .i64 n 1,rfl,⟨J8,om,om⟩,om,om⟩
                  ·exact .some trivial
                 ·exact .some trivial
                ·exact .some trivial
               ·try dsimp only
                exact⟨fk0,oo,oo⟩
             ·try dsimp only
              exact⟨fk0,oo,oo⟩
           ·refine Jf (τ:=Int) (λq=>(q,x1)) (λq=>(zFt 0 0 zI q/\0<=q/\(q<=J0 x1.2.2.2.2.1\/q<=0))) (λq=>J0 x1.2.2.2.2.1-q) ?_ 0 rfl ?_
            ·rintro k ⟨F,a7,ac⟩;unfold Jec
             try dsimp only
             have:=J3.1 F;refine .lt (λL=>?_) λL=>?_
             ·refine .bind (Jh h.e.1) λb1 a9=>.ltf (λD=>?_) λD=>?_
              ·refine .bind (Jh h.e.1) λal am=>.gtf (λI=>?_) λI=>?_
               ·refine .gt (λN=>?_) λN=>?_
                ·have:=J0o k 1;refine .bind (Jh h.e.1) λap ao=>.bind (Jh h.e.1) λb7 ak=>.ge (λK=>?_) λK=>?_
                 ·exact .some trivial
                 ·have:=Jb k 1;exact .some ⟨J1 .i64 k 1,rfl,⟨J8,om,om⟩,om,om⟩
                ·have:=Jb k 1;exact .some ⟨J1 .i64 k 1,rfl,⟨J8,om,om⟩,om,om⟩
               ·exact .some trivial
              ·exact .some trivial
             ·refine .inr ?_;refine Jf (τ:=Int) (λq=>(q,x1)) (λq=>(zFt 0 0 zI q/\0<=q/\(q<=J0 x1.2.2.2.2.2\/q<=0))) (λq=>J0 x1.2.2.2.2.2-q) ?_ 0 rfl ?_
              ·rintro j ⟨U,b2,au⟩;unfold Je1
               try dsimp only
               have:=J3.1 U;refine .lt (λH=>?_) λH=>?_
               ·refine .bind (Jh h.g) λaf aa=>.ltf (λv=>?_) λv=>?_
                ·refine .bind (Jh h.g) λax ae=>.gtf (λa0=>?_) λa0=>?_
                 ·refine .gt (λP=>?_) λP=>?_
                  ·have:=J0o j 1;refine .bind (Jh h.g) λb4 b6=>.bind (Jh h.g) λb3 aw=>.gt (λO=>?_) λO=>?_
                   ·exact .some trivial
                   ·have:=Jb j 1;exact .some ⟨J1 .i64 j 1,rfl,⟨J8,om,om⟩,om,om⟩
                  ·have:=Jb j 1;exact .some ⟨J1 .i64 j 1,rfl,⟨J8,om,om⟩,om,om⟩
                 ·exact .some trivial
                ·exact .some trivial
               ·exact .some trivial
              ·try dsimp only
               exact⟨fk0,oo,oo⟩
            ·try dsimp only
             exact⟨fk0,oo,oo⟩
          ·exact .some trivial
         ·exact .some trivial
       ·exact .some trivial
      ·exact .some trivial
     ·exact .some trivial
    ·exact .some trivial
   ·exact .some trivial
  ·exact .some trivial
 ·exact .some trivial
theorem J3R{B S:Int}{x1:List Jo}(h:zFt B S (.l Jm) x1)(z:BS B S 0 0:=by omega)(H:B<=9223372036854775807:=by omega):Tot (J18 x1) λy=>zFt 0 0 .b y:=by
 unfold J18;have:=J4 (l:=x1);have:J0 x1=_:=Jk h;refine .gt (λr=>?_) λr=>?_
 ·exact .some trivial
 ·refine Jf (τ:=Int) (λq=>(x1,q)) (λq=>(zFt 0 0 zI q/\0<=q/\(q<=J0 x1\/q<=0))) (λq=>J0 x1-q) ?_ 0 rfl ?_
  ·rintro e ⟨o,C,A⟩;unfold J9M
   try dsimp only
   have:=J3.1 o;refine .lt (λn=>?_) λn=>?_
   ·refine .bind (Jh h) λD h10=>.bind (JrJ h10.1) λG w=>.nof (λg=>?_) λg=>?_
    ·refine .gt (λk=>?_) λk=>?_
     ·have:=J0o e 1;refine .bind (Jh h) λE v=>.bind (Jh h) λF x=>.ge (λj=>?_) λj=>?_
      ·exact .some trivial
      ·have:=Jb e 1;exact .some ⟨J1 .i64 e 1,rfl,⟨J8,om,om⟩,om,om⟩
     ·have:=Jb e 1;exact .some ⟨J1 .i64 e 1,rfl,⟨J8,om,om⟩,om,om⟩
    ·exact .some trivial
   ·exact .some trivial
  ·try dsimp only
   exact⟨fk0,oo,oo⟩
theorem J9J{B S:Int}{x1:J2z}(h:zFt B S tq2 x1)(o:BS B S 0 0:=by omega)(w:B<=9223372036854775807:=by omega):Tot (J1B x1) λy=>zFt 0 0 zI y/\(-1<=y/\y<J0 x1.1):=by
 unfold J1B;have:J0 x1.1<=B:=h.1.1;have:=J4 (l:=x1.1);have:J0 x1.1=_:=Jk h.1;refine Jf (τ:=Int) (λq=>(x1.1,x1.2,q)) (λq=>(zFt 0 0 zI q/\0<=q/\(q<=J0 x1.1\/q<=0))) (λq=>J0 x1.1-q) ?_ 0 rfl ?_
 ·rintro e ⟨g,x,v⟩;unfold J29
  try dsimp only
  have:=J3.1 g;refine .lt (λk=>?_) λk=>?_
  ·refine .bind (Jh h.1) λr n=>.eq (λj=>?_) λj=>?_
   ·exact .some ⟨g,om⟩
   ·have:=Jb e 1;exact .some ⟨J1 .i64 e 1,rfl,⟨J8,om,om⟩,om,om⟩
  ·exact .some ⟨(fkn (-1)),om⟩
 ·try dsimp only
  exact⟨fk0,oo,oo⟩
theorem Jgp{B S:Int}{x1:J2z}(h:zFt B S tq2 x1)(Z:BG B S:=by omega):Tot (J7e x1) λy=>zFt 8193 0 tq2 y:=by
 unfold J7e;refine .bind ((J3R h.1).eqn) λy2 h1=>.not (λK=>?_) λK=>?_
 ·exact .some (⟨Jc,fkn 15⟩)
 ·have v3:=J2W h.1 h1.2 K;have:=J4 (l:=x1.1);have:J0 x1.1=_:=Jk h.1;have k:zFt 4096 0 (.l Jm) x1.1:=v3.2;refine .ltf (λP=>?_) λP=>?_
  ·refine .gt (λG=>?_) λG=>?_
   ·exact .some (⟨Jc,fkn 1⟩)
   ·refine .bind (J9J (B:=4096) (S:=0) (⟨k,h.2⟩)) λy3 T=>.ge (λJ=>?_) λJ=>?_
    ·exact .some (⟨Jc,fkn 25⟩)
    ·refine .eq (λO=>?_) λO=>?_
     ·exact .some (⟨Jc,fkn 21⟩)
     ·refine Jf (τ:=Int×(List Jo)) (λq=>(x1.1,x1.2,q.1,q.2)) (λq=>(zFt 0 0 zI q.1/\0<=q.1/\(q.1<=J0 x1.1\/q.1<=0))/\(zFt 4096 0 (.l Jm) q.2/\J0 q.2<=1*q.1+0)) (λq=>J0 x1.1-q.1) ?_ (0,[]) rfl ?_
      ·rintro⟨j,e⟩ r;dsimp only at r;obtain⟨⟨E,Y,V⟩,g,U⟩:=r;unfold Jdq
       try dsimp only
       have:=J3.1 E;refine .lt (λL=>?_) λL=>?_
       ·refine .bind (Jh k) λy5 W=>.lt (λD=>?_) λD=>?_
        ·refine .bind (Jh k) λy6 H=>?_;have:J0 e<=4096:=g.1;have:=J4 (l:=e);have:J0 e=_:=Jk g;refine .bind (J0u (B:=4096) (Bl:=4096) (Bm:=4096) (S:=0) (J0 e) 1 g (J0j (B:=4096) (S:=0) (t:=Jm) oo H.1)) λC o=>?_;have:=Jb j 1;have:J0 C=_:=Jk o.1;exact .some ⟨(J1 .i64 j 1,C),rfl,⟨⟨J8,om,om⟩,o.1,om⟩,om,om⟩
        ·refine .inr ?_;have:J0 e<=4096:=g.1;have:=J4 (l:=e);have:J0 e=_:=Jk g;refine .bind (J0u (B:=4097) (Bl:=4096) (Bm:=1) (S:=0) (J0 e) 1 g (J0j (B:=1) (S:=0) (t:=Jm) oo (⟨h.2,fkn 1,fzr⟩))) λI x=>.bind (J3G k) λM v=>?_;have:J0 I=_:=Jk x.1;have:J0 M=_:=Jk v.1;refine .bind (J0u (B:=8193) (Bl:=4097) (Bm:=4096) (S:=0) (J0 I) (J0 M) x.1 v.1) λQ N=>.some (⟨N.1,fk0⟩)
       ·refine .inr ?_;have:J0 e<=4096:=g.1;have:=J4 (l:=e);have:J0 e=_:=Jk g;refine .bind (J0u (B:=4097) (Bl:=4096) (Bm:=1) (S:=0) (J0 e) 1 g (J0j (B:=1) (S:=0) (t:=Jm) oo (⟨h.2,fkn 1,fzr⟩))) λz A=>.bind (J3G k) λw n=>?_;have:J0 z=_:=Jk A.1;have:J0 w=_:=Jk n.1;refine .bind (J0u (B:=8193) (Bl:=4097) (Bm:=4096) (S:=0) (J0 z) (J0 w) A.1 n.1) λR F=>.some (⟨F.1,fk0⟩)
      ·have:J0 ([]:List Jo)=0:=rfl
       try dsimp only
       exact⟨⟨fk0,oo,oo⟩,Jc,oo⟩
  ·exact .some (⟨Jc,fkn 1⟩)
theorem J9b{B S:Int}{x1:J1E}(h:zFt B S tq1 x1)(r:BS B S 0 0:=by omega)(x:B<=9223372036854775807:=by omega):Tot (J2Y x1) λy=>zFt 0 0 (.pr Jd .b) y:=by
 unfold J2Y;have:J0 x1.1.2.2.2.2.2.2.2<=B:=h.1.i.1;have:=J4 (l:=x1.1.2.2.2.2.2.2.2);have:J0 x1.1.2.2.2.2.2.2.2=_:=Jk h.1.i;refine Jf (τ:=Int) (λq=>(x1.2,q,x1.1,0,0,0)) (λq=>(zFt 0 0 zI q/\0<=q/\(q<=J0 x1.1.2.2.2.2.2.2.2\/q<=0))) (λq=>J0 x1.1.2.2.2.2.2.2.2-q) ?_ 0 rfl ?_
 ·rintro e ⟨k,z,w⟩;unfold Ja8
  try dsimp only
  have:=J3.1 k;refine .lt (λn=>?_) λn=>?_
  ·refine .bind (Jh h.1.i) λv o=>.eq (λg=>?_) λg=>?_
   ·refine .bind (Jh h.1.i) λA j=>.some (⟨j.1,trivial⟩)
   ·have:=Jb e 1;exact .some ⟨J1 .i64 e 1,rfl,⟨J8,om,om⟩,om,om⟩
  ·exact .some (⟨fzr,trivial⟩)
 ·try dsimp only
  exact⟨fk0,oo,oo⟩
theorem J4b{B S:Int}{x1:JoQ}(h:zFt B S JEY x1)(k:BS B S 0 0:=by omega):Tot (J2n x1) λy=>zFt 0 0 .b y:=by
 unfold J2n;refine .ne (λj=>?_) λj=>?_
 ·refine .ite (λe=>?_) λe=>?_
  ·have n:=J1J.1 e;refine .eqf (λg=>?_) λg=>?_
   ·exact .some trivial
   ·exact .some trivial
  ·exact .some trivial
 ·exact .some trivial
theorem JbC{B S:Int}{x1:T_api_Grant}(h:zFt B S Ja x1)(q:BS B S 0 0:=by omega):Tot (J5S x1) λy=>zFt 0 0 .b y:=by
 unfold J5S;refine .ge (λo=>?_) λo=>?_
 ·refine .le (λc3=>?_) λc3=>?_
  ·have:=J3.1 h.2.1.1;refine .ge (λn=>?_) λn=>?_
   ·refine .lt (λk=>?_) λk=>?_
    ·have:=J3.1 h.2.1.2;refine .ge (λj=>?_) λj=>?_
     ·refine .lt (λg=>?_) λg=>?_
      ·have:=J3.1 h.c;refine .eqf (λe=>?_) λe=>?_
       ·exact .some trivial
       ·exact .some trivial
      ·exact .some trivial
     ·exact .some trivial
    ·exact .some trivial
   ·exact .some trivial
  ·exact .some trivial
 ·exact .some trivial
theorem JhU{B S:Int}{x1:JoQ}(h:zFt B S JEY x1)(j:BS B S 0 0:=by omega):Tot (J8c x1) λy=>zFt 0 0 .b y:=by
 unfold J8c;refine .ne (λg=>?_) λg=>?_
 ·exact .some trivial
 ·have:=J3.1 h.1.2.1.2;refine .ne (λe=>?_) λe=>?_
  ·exact .some trivial
  ·exact .some trivial
theorem J5D{B S:Int}{x1:JAW}(h:zFt B S (.pr JD Jd) x1)(x:BS B S 0 0:=by omega)(E:B<=9223372036854775807:=by omega):Tot (J3n x1) λy=>zFt 0 0 zI y:=by
 unfold J3n;have:J0 x1.1.1<=B:=h.1.1.1;have:=J4 (l:=x1.1.1);have:J0 x1.1.1=_:=Jk h.1.1;refine Jf (τ:=Int) (λq=>(x1.2.1,q,x1.1,x1.2.2)) (λq=>(zFt 0 0 zI q/\0<=q/\(q<=J0 x1.1.1\/q<=0))) (λq=>J0 x1.1.1-q) ?_ 0 rfl ?_
 ·rintro e ⟨o,F,C⟩;unfold Jft
  try dsimp only
  have:=J3.1 o;refine .lt (λn=>?_) λn=>?_
  ·refine .bind (Jh h.1.1) λz v=>.eq (λk=>?_) λk=>?_
   ·refine .bind (Jh h.1.1) λD w=>.ite (λg=>?_) λg=>?_
    ·have r:=J1J.1 g;refine .bind (Jh h.1.1) λA j=>.some j.1.c
    ·have:=Jb e 1;exact .some ⟨J1 .i64 e 1,rfl,⟨J8,om,om⟩,om,om⟩
   ·have:=Jb e 1;exact .some ⟨J1 .i64 e 1,rfl,⟨J8,om,om⟩,om,om⟩
  ·exact .some fk0
 ·try dsimp only
  exact⟨fk0,oo,oo⟩
theorem J4E{B S:Int}{x1:J01}(h:zFt B S JD x1)(aq:BS B S 0 0:=by omega)(hB:B<=9223372036854775807:=by omega):Tot (J1z x1) λy=>zFt 0 0 .b y:=by
 unfold J1z;have:J0 x1.1<=B:=h.1.1;have:=J4 (l:=x1.1);have:J0 x1.1=_:=Jk h.1;have:J0 x1.2<=B:=h.2.1;have:=J4 (l:=x1.2);have:J0 x1.2=_:=Jk h.2;have:=Jb (J0 x1.1) (J0 x1.2);refine .gt (λZ=>?_) λZ=>?_
 ·exact .some trivial
 ·refine Jf (τ:=Int) (λq=>(q,x1)) (λq=>(zFt 0 0 zI q/\0<=q/\(q<=J0 x1.1\/q<=0))) (λq=>J0 x1.1-q) ?_ 0 rfl ?_
  ·rintro e ⟨i9,au,b1⟩;unfold JdZ
   try dsimp only
   have:=J3.1 i9;refine .lt (λK=>?_) λK=>?_
   ·refine .bind (Jh h.1) λy3 w=>.bind (JbC w.1) λy4 a2=>.nof (λE=>?_) λE=>?_
    ·refine .gt (λM=>?_) λM=>?_
     ·have:=J0o e 1;refine .bind (Jh h.1) λy5 P=>.bind (Jh h.1) λy6 G=>.bind (JhU (B:=0) (S:=0) (⟨P.1,G.1⟩)) λy7 an=>.not (λD=>?_) λD=>?_
      ·exact .some trivial
      ·refine Jf (τ:=Int) (λq=>(e,q,x1)) (λq=>(zFt 0 0 zI q/\q<=JI .i64 e 1)) (λq=>q-0) ?_ (JI .i64 e 1) rfl ?_
       ·rintro o ⟨C,a6⟩;unfold JdJ
        try dsimp only
        have:=J3.1 C;refine .ge (λR=>?_) λR=>?_
        ·refine .bind (Jh h.1) λy9 aj=>.bind (Jh h.1) λa1 ab=>.ite (λr=>?_) λr=>?_
         ·have ai:=J1J.1 r;refine .bind (Jh h.1) λa8 N=>.bind (Jh h.1) λa4 O=>.bind (J4b (B:=0) (S:=0) (⟨N.1,O.1⟩)) λaw a5=>.ite (λT=>?_) λT=>?_
          ·refine .inr ?_;exact .some trivial
          ·have:=J0o o 1;exact .some ⟨JI .i64 o 1,rfl,⟨J2d,om⟩,om,om⟩
         ·have:=Jb e 1;exact .some ⟨J1 .i64 e 1,rfl,⟨J8,om,om⟩,om,om⟩
        ·have:=Jb e 1;exact .some ⟨J1 .i64 e 1,rfl,⟨J8,om,om⟩,om,om⟩
       ·try dsimp only
        exact⟨J2d,oo⟩
     ·have:=J0o e 1;refine Jf (τ:=Int) (λq=>(e,q,x1)) (λq=>(zFt 0 0 zI q/\q<=JI .i64 e 1)) (λq=>q-0) ?_ (JI .i64 e 1) rfl ?_
      ·rintro j ⟨I,aa⟩;unfold Jeg
       try dsimp only
       have:=J3.1 I;refine .ge (λx=>?_) λx=>?_
       ·refine .bind (Jh h.1) λak ac=>.bind (Jh h.1) λaz a3=>.ite (λv=>?_) λv=>?_
        ·have ap:=J1J.1 v;refine .bind (Jh h.1) λal Y=>.bind (Jh h.1) λa9 A=>.bind (J4b (B:=0) (S:=0) (⟨Y.1,A.1⟩)) λao av=>.ite (λH=>?_) λH=>?_
         ·refine .inr ?_;exact .some trivial
         ·have:=J0o j 1;exact .some ⟨JI .i64 j 1,rfl,⟨J2d,om⟩,om,om⟩
        ·have:=Jb e 1;exact .some ⟨J1 .i64 e 1,rfl,⟨J8,om,om⟩,om,om⟩
       ·have:=Jb e 1;exact .some ⟨J1 .i64 e 1,rfl,⟨J8,om,om⟩,om,om⟩
      ·try dsimp only
       exact⟨J2d,oo⟩
    ·exact .some trivial
   ·refine .inr ?_;refine Jf (τ:=Int) (λq=>(q,x1)) (λq=>(zFt 0 0 zI q/\0<=q/\(q<=J0 x1.2\/q<=0))) (λq=>J0 x1.2-q) ?_ 0 rfl ?_
    ·rintro g ⟨F,b0,a7⟩;unfold JdW
     try dsimp only
     have:=J3.1 F;refine .lt (λW=>?_) λW=>?_
     ·refine .bind (Jh h.2) λV n=>.bind (JbC n.1) λae af=>.nof (λz=>?_) λz=>?_
      ·refine .bind (J5D (B:=B) (S:=S) (⟨h,n.1.1,n.1.2.1⟩)) λax ad=>.ge (λU=>?_) λU=>?_
       ·exact .some trivial
       ·refine Jf (τ:=Int) (λq=>(g,q,x1,V)) (λq=>(zFt 0 0 zI q/\0<=q/\(q<=g\/q<=0))) (λq=>g-q) ?_ 0 rfl ?_
        ·rintro k ⟨L,am,ay⟩;unfold JdP
         try dsimp only
         have:=J3.1 L;refine .lt (λQ=>?_) λQ=>?_
         ·refine .bind (Jh h.2) λah ag=>.eq (λJ=>?_) λJ=>?_
          ·refine .inr ?_;exact .some trivial
          ·have:=Jb k 1;exact .some ⟨J1 .i64 k 1,rfl,⟨J8,om,om⟩,om,om⟩
         ·have:=Jb g 1;exact .some ⟨J1 .i64 g 1,rfl,⟨J8,om,om⟩,om,om⟩
        ·try dsimp only
         exact⟨fk0,oo,oo⟩
      ·exact .some trivial
     ·exact .some trivial
    ·try dsimp only
     exact⟨fk0,oo,oo⟩
  ·try dsimp only
   exact⟨fk0,oo,oo⟩
theorem JgC{B S:Int}{x1:JS}(h:zFt B S Ju x1)(x:BS B S 0 0:=by omega):Tot (J25 x1) λy=>zFt 0 0 .b y:=by
 unfold J25;have s0:zFt 0 S Ju x1:=h;refine Jf (τ:=Int) (λq=>(q,x1)) (λq=>(zFt 0 0 zI q/\0<=q/\(q<=16\/q<=0))) (λq=>16-q) ?_ 0 rfl ?_
 ·rintro e ⟨r,w2,z3⟩;unfold Ja2
  try dsimp only
  have:=J3.1 r;refine .lt (λv=>?_) λv=>?_
  ·refine .bind (J77) λ_ _=>.bind (JbR s0.2.2) λo j=>.bind (J8K j) λA C=>.nof (λn=>?_) λn=>?_
   ·have:J0 o.2<=S:=j.2;refine .eq (λk=>?_) λk=>?_
    ·refine .bind (J77) λ_ _=>.bind (JbR s0.2.2) λz w=>.ite (λg=>?_) λg=>?_
     ·exact .some trivial
     ·have:=Jb e 1;exact .some ⟨J1 .i64 e 1,rfl,⟨J8,om,om⟩,om,om⟩
    ·have:=Jb e 1;exact .some ⟨J1 .i64 e 1,rfl,⟨J8,om,om⟩,om,om⟩
   ·exact .some trivial
  ·exact .some trivial
 ·try dsimp only
  exact⟨fk0,oo,oo⟩
end Go.Am
end
section
namespace Go.Am
set_option linter.unusedVariables false
set_option maxRecDepth 20000
set_option maxHeartbeats 4000000
theorem JdX{B S:Int}{x1:JS}(h:zFt B S Ju x1)(j:BS B S 0 0:=by omega):Tot (J1S x1) λy=>zFt 0 0 .b y:=by
 unfold J1S;refine .ge (λg=>?_) λg=>?_
 ·refine .lt (λc3=>?_) λc3=>?_
  ·have:=J3.1 h.z.2.1;refine .ge (λe=>?_) λe=>?_
   ·exact .some trivial
   ·exact .some trivial
  ·exact .some trivial
 ·exact .some trivial
theorem Jqv{B S:Int}{x1:JS}(h:zFt B S Ju x1)(g:BS B S 0 0:=by omega):Tot (J1I x1) λy=>zFt 0 0 .b y:=by
 unfold J1I;have s0:zFt 0 S Ju x1:=h;refine .bind (JdX (B:=0) (S:=S) s0) λk h1=>.ite (λe=>?_) λe=>?_
 ·refine .bind (JgC (B:=0) (S:=S) s0) λj h3=>.some trivial
 ·exact .some trivial
theorem J3Q{B S:Int}{x1:JF}(h:zFt B S JM x1)(ab:BS B S 0 0:=by omega)(hB:B<=9223372036854775807:=by omega):Tot (JL x1) λy=>zFt 0 0 .b y:=by
 unfold JL;have:=J3.1 h.1;refine .ltf (λZ=>?_) λZ=>?_
 ·refine .gtf (λc3=>?_) λc3=>?_
  ·have:J0 x1.2.1<=B:=h.2.1.1;have:=J4 (l:=x1.2.1);have:J0 x1.2.1=_:=Jk h.2.1;refine .gtf (λc4=>?_) λc4=>?_
   ·have:=J3.1 h.c;refine .ltf (λY=>?_) λY=>?_
    ·have:=J0o (J0 x1.2.1) 1;refine .gt (λO=>?_) λO=>?_
     ·exact .some trivial
     ·refine Jf (τ:=Int) (λq=>(J0 x1.2.1,q,x1)) (λq=>(zFt 0 0 zI q/\0<=q/\(q<=J0 x1.2.1\/q<=0))) (λq=>J0 x1.2.1-q) ?_ 0 rfl ?_
      ·rintro e ⟨L,aa,a6⟩;unfold J60
       try dsimp only
       have:=J3.1 L;refine .lt (λK=>?_) λK=>?_
       ·refine .bind (Jh h.2.1) λk j=>.bind ((Jqv (B:=0) (S:=S) (x1:=k.1) j.1.z.1).eqn) λy4 D=>.nof (λv=>?_) λv=>?_
        ·have a2:=JgA (x:=k.1) j.1.z.1 D.2 v;refine .ite (λG=>?_) λG=>?_
         ·have:=J3.1 j.1.z.2.2.1;refine .ltf (λQ=>?_) λQ=>?_
          ·refine .gtf (λC=>?_) λC=>?_
           ·refine .not (λJ=>?_) λJ=>?_
            ·refine .ne (λF=>?_) λF=>?_
             ·exact .some trivial
             ·refine Jf (τ:=Int) (λq=>(J0 x1.2.1,e,q,x1,k)) (λq=>(zFt 0 0 zI q/\0<=q/\(q<=e\/q<=0))) (λq=>e-q) ?_ 0 rfl ?_
              ·rintro r ⟨aj,ae,a5⟩;unfold J0b
               try dsimp only
               refine .lt (λH=>?_) λH=>?_
               ·refine .bind (Jh h.2.1) λy6 ah=>.eq (λR=>?_) λR=>?_
                ·refine .inr ?_;exact .some trivial
                ·have:=Jb r 1;exact .some ⟨J1 .i64 r 1,rfl,⟨J8,om,om⟩,om,om⟩
               ·have:=Jb e 1;exact .some ⟨J1 .i64 e 1,rfl,⟨J8,om,om⟩,om,om⟩
              ·try dsimp only
               exact⟨fk0,oo,oo⟩
            ·refine Jf (τ:=Int) (λq=>(J0 x1.2.1,e,q,x1,k)) (λq=>(zFt 0 0 zI q/\0<=q/\(q<=e\/q<=0))) (λq=>e-q) ?_ 0 rfl ?_
             ·rintro o ⟨V,ai,a7⟩;unfold JdO
              try dsimp only
              have:=J3.1 V;refine .lt (λE=>?_) λE=>?_
              ·refine .bind (Jh h.2.1) λy8 a3=>.eq (λw=>?_) λw=>?_
               ·refine .inr ?_;exact .some trivial
               ·have:=Jb o 1;exact .some ⟨J1 .i64 o 1,rfl,⟨J8,om,om⟩,om,om⟩
              ·have:=Jb e 1;exact .some ⟨J1 .i64 e 1,rfl,⟨J8,om,om⟩,om,om⟩
             ·try dsimp only
              exact⟨fk0,oo,oo⟩
           ·exact .some trivial
          ·exact .some trivial
         ·refine .not (λI=>?_) λI=>?_
          ·have:=J3.1 j.1.z.2.2.1;refine .ne (λW=>?_) λW=>?_
           ·exact .some trivial
           ·refine Jf (τ:=Int) (λq=>(J0 x1.2.1,e,q,x1,k)) (λq=>(zFt 0 0 zI q/\0<=q/\(q<=e\/q<=0))) (λq=>e-q) ?_ 0 rfl ?_
            ·rintro n ⟨N,a8,a1⟩;unfold JdE
             try dsimp only
             have:=J3.1 N;refine .lt (λU=>?_) λU=>?_
             ·refine .bind (Jh h.2.1) λa4 ag=>.eq (λT=>?_) λT=>?_
              ·refine .inr ?_;exact .some trivial
              ·have:=Jb n 1;exact .some ⟨J1 .i64 n 1,rfl,⟨J8,om,om⟩,om,om⟩
             ·have:=Jb e 1;exact .some ⟨J1 .i64 e 1,rfl,⟨J8,om,om⟩,om,om⟩
            ·try dsimp only
             exact⟨fk0,oo,oo⟩
          ·refine Jf (τ:=Int) (λq=>(J0 x1.2.1,e,q,x1,k)) (λq=>(zFt 0 0 zI q/\0<=q/\(q<=e\/q<=0))) (λq=>e-q) ?_ 0 rfl ?_
           ·rintro g ⟨P,af,ad⟩;unfold Jdp
            try dsimp only
            have:=J3.1 P;refine .lt (λM=>?_) λM=>?_
            ·refine .bind (Jh h.2.1) λac a9=>.eq (λA=>?_) λA=>?_
             ·refine .inr ?_;exact .some trivial
             ·have:=Jb g 1;exact .some ⟨J1 .i64 g 1,rfl,⟨J8,om,om⟩,om,om⟩
            ·have:=Jb e 1;exact .some ⟨J1 .i64 e 1,rfl,⟨J8,om,om⟩,om,om⟩
           ·try dsimp only
            exact⟨fk0,oo,oo⟩
        ·exact .some trivial
       ·exact .some trivial
      ·try dsimp only
       exact⟨fk0,oo,oo⟩
    ·exact .some trivial
   ·exact .some trivial
  ·exact .some trivial
 ·exact .some trivial
theorem JeB{B S x1:Int}(h:zFt B S zI x1)(g:BS B S 0 0:=by omega):Tot (J32 x1) λy=>zFt 0 0 .b y:=by
 unfold J32;refine .ge (λe=>?_) λe=>?_
 ·exact .some trivial
 ·exact .some trivial
theorem J5O{B S:Int}{x1:List T_api_Row}(h:zFt B S (.l Jd) x1)(E:BS B S 0 0:=by omega)(L:B<=9223372036854775807:=by omega):Tot (J0P x1) λy=>zFt 0 0 .b y:=by
 unfold J0P;have:J0 x1=_:=Jk h;refine .ltf (λw=>?_) λw=>?_
 ·refine .gt (λx=>?_) λx=>?_
  ·exact .some trivial
  ·refine Jf (τ:=Int) (λq=>(q,x1)) (λq=>(zFt 0 0 zI q/\0<=q/\(q<=J0 x1\/q<=0))) (λq=>J0 x1-q) ?_ 0 rfl ?_
   ·rintro e ⟨z,F,K⟩;unfold J9H
    try dsimp only
    have:=J3.1 z;refine .lt (λv=>?_) λv=>?_
    ·refine .bind (Jh h) λG g=>.bind (JeB g.1.1) λJ C=>.nof (λn=>?_) λn=>?_
     ·refine .bind (JeB g.1.2.1) λH A=>.nof (λk=>?_) λk=>?_
      ·refine .bind (JeB g.1.c) λI D=>.nof (λj=>?_) λj=>?_
       ·have:=J3.1 g.1.2.1;refine .eq (λo=>?_) λo=>?_
        ·have:=J3.1 g.1.c;refine .ne (λr=>?_) λr=>?_
         ·exact .some trivial
         ·have:=Jb e 1;exact .some ⟨J1 .i64 e 1,rfl,⟨J8,om,om⟩,om,om⟩
        ·have:=Jb e 1;exact .some ⟨J1 .i64 e 1,rfl,⟨J8,om,om⟩,om,om⟩
       ·exact .some trivial
      ·exact .some trivial
     ·exact .some trivial
    ·exact .some trivial
   ·try dsimp only
    exact⟨fk0,oo,oo⟩
 ·exact .some trivial
theorem Jbj{B S:Int}{x1:JbO}(h:zFt B S JAK x1)(A:BS B S 0 0:=by omega)(G:B<=9223372036854775807:=by omega):Tot (J0O x1) λy=>zFt 0 0 .b y:=by
 unfold J0O;have:J0 x1.1<=B:=h.1.1;have:=J4 (l:=x1.1);have:J0 x1.1=_:=Jk h.1;refine Jf (τ:=Int) (λq=>(x1.1,x1.2,q)) (λq=>(zFt 0 0 zI q/\0<=q/\(q<=J0 x1.1\/q<=0))) (λq=>J0 x1.1-q) ?_ 0 rfl ?_
 ·rintro e ⟨z,H,E⟩;unfold J51
  try dsimp only
  have:=J3.1 z;refine .lt (λx=>?_) λx=>?_
  ·refine .bind (Jh h.1) λD g=>.ltf (λr=>?_) λr=>?_
   ·have:=J3.1 h.2;refine .gef (λn=>?_) λn=>?_
    ·have:=J3.1 g.1.2.1;refine .ltf (λk=>?_) λk=>?_
     ·have:=J3.1 g.1.c;refine .gtf (λo=>?_) λo=>?_
      ·refine .gtf (λv=>?_) λv=>?_
       ·refine .gt (λw=>?_) λw=>?_
        ·have:=J0o e 1;refine .bind (Jh h.1) λF C=>.ge (λj=>?_) λj=>?_
         ·exact .some trivial
         ·have:=Jb e 1;exact .some ⟨J1 .i64 e 1,rfl,⟨J8,om,om⟩,om,om⟩
        ·have:=Jb e 1;exact .some ⟨J1 .i64 e 1,rfl,⟨J8,om,om⟩,om,om⟩
       ·exact .some trivial
      ·exact .some trivial
     ·exact .some trivial
    ·exact .some trivial
   ·exact .some trivial
  ·exact .some trivial
 ·try dsimp only
  exact⟨fk0,oo,oo⟩
theorem JrX{B S:Int}{x1:J5}(h:zFt B S J9 x1)(I:BC B S 0 0:=by omega):Tot (J1Q x1) λy=>zFt 0 0 .b y:=by
 unfold J1Q;refine .ge (λC=>?_) λC=>?_
 ·refine .le (λc3=>?_) λc3=>?_
  ·have:=J3.1 h.2.1;refine .ge (λE=>?_) λE=>?_
   ·refine .le (λD=>?_) λD=>?_
    ·refine .bind ((J2v h.c.1).eqn) λQ A=>.ite (λq=>?_) λq=>?_
     ·have v9:=J26 h.c.1 A.2 q;refine .bind ((J3Q h.d.1).eqn) λM r=>.ite (λo=>?_) λo=>?_
      ·have H:=J2Z h.d.1 r.2 o;refine .bind ((J4E h.e.1).eqn) λP w=>.ite (λk=>?_) λk=>?_
       ·have J:=J3T h.e.1 w.2 k;refine .bind ((J3R h.g.1).eqn) λN z=>.ite (λn=>?_) λn=>?_
        ·have K:=J2W h.g.1 z.2 n;refine .bind ((J5O h.h.1).eqn) λO x=>.ite (λj=>?_) λj=>?_
         ·have F:=J4I h.h.1 x.2 j;refine .eq (λv=>?_) λv=>?_
          ·refine .bind (Jbj (B:=B) (S:=S) (⟨h.i,h.1⟩)) λL G=>.some trivial
          ·exact .some trivial
         ·exact .some trivial
        ·exact .some trivial
       ·exact .some trivial
      ·exact .some trivial
     ·exact .some trivial
    ·exact .some trivial
   ·exact .some trivial
  ·exact .some trivial
 ·exact .some trivial
theorem J1m{B S:Int}{x1:J5}(h:zFt B S J9 x1)(T:BC B S 0 0:=by omega):Tot (Jq x1) λy=>zFt 0 0 .b y:=by
 unfold Jq;refine .bind (JrX h) λy2 h1=>.not (λK=>?_) λK=>?_
 ·exact .some trivial
 ·have:J0 x1.2.2.2.2.2.1<=B:=h.g.1.1;have:=J4 (l:=x1.2.2.2.2.2.1);have:J0 x1.2.2.2.2.2.1=_:=Jk h.g.1;refine Jf (τ:=Int) (λq=>(q,x1)) (λq=>(zFt 0 0 zI q/\0<=q/\(q<=J0 x1.2.2.2.2.2.1\/q<=0))) (λq=>J0 x1.2.2.2.2.2.1-q) ?_ 0 rfl ?_
  ·rintro o ⟨L,w7,z8⟩;unfold JdK
   try dsimp only
   have:=J3.1 L;refine .lt (λJ=>?_) λJ=>?_
   ·refine .bind (Jh h.g.1) λy4 N=>.ge (λF=>?_) λF=>?_
    ·exact .some trivial
    ·have:=Jb o 1;exact .some ⟨J1 .i64 o 1,rfl,⟨J8,om,om⟩,om,om⟩
   ·refine .inr ?_;have:J0 x1.2.2.2.1.2.1<=B:=h.d.1.2.1.1;have:=J4 (l:=x1.2.2.2.1.2.1);have:J0 x1.2.2.2.1.2.1=_:=Jk h.d.1.2.1;refine Jf (τ:=Int) (λq=>(q,x1)) (λq=>(zFt 0 0 zI q/\0<=q/\(q<=J0 x1.2.2.2.1.2.1\/q<=0))) (λq=>J0 x1.2.2.2.1.2.1-q) ?_ 0 rfl ?_
    ·rintro k ⟨A,P,Z⟩;unfold Je0
     try dsimp only
     have:=J3.1 A;refine .lt (λv=>?_) λv=>?_
     ·refine .bind (Jh h.d.1.2.1) λy6 D=>.ge (λw=>?_) λw=>?_
      ·exact .some trivial
      ·refine .bind (J9b (B:=B) (S:=S) (⟨h,D.1.z.1.1⟩)) λy7 V=>.ite (λx=>?_) λx=>?_
       ·exact .some trivial
       ·have:=Jb k 1;exact .some ⟨J1 .i64 k 1,rfl,⟨J8,om,om⟩,om,om⟩
     ·refine .inr ?_;have:J0 x1.2.2.2.2.1.1<=B:=h.e.1.1.1;have:=J4 (l:=x1.2.2.2.2.1.1);have:J0 x1.2.2.2.2.1.1=_:=Jk h.e.1.1;refine Jf (τ:=Int) (λq=>(q,x1)) (λq=>(zFt 0 0 zI q/\0<=q/\(q<=J0 x1.2.2.2.2.1.1\/q<=0))) (λq=>J0 x1.2.2.2.2.1.1-q) ?_ 0 rfl ?_
      ·rintro n ⟨E,U,R⟩;unfold JdD
       try dsimp only
       have:=J3.1 E;refine .lt (λH=>?_) λH=>?_
       ·refine .bind (Jh h.e.1.1) λy9 O=>.ge (λr=>?_) λr=>?_
        ·exact .some trivial
        ·have:=Jb n 1;exact .some ⟨J1 .i64 n 1,rfl,⟨J8,om,om⟩,om,om⟩
       ·refine .inr ?_;have:J0 x1.2.2.2.2.1.2<=B:=h.e.1.2.1;have:=J4 (l:=x1.2.2.2.2.1.2);have:J0 x1.2.2.2.2.1.2=_:=Jk h.e.1.2;refine Jf (τ:=Int) (λq=>(q,x1)) (λq=>(zFt 0 0 zI q/\0<=q/\(q<=J0 x1.2.2.2.2.1.2\/q<=0))) (λq=>J0 x1.2.2.2.2.1.2-q) ?_ 0 rfl ?_
        ·rintro j ⟨I,Q,M⟩;unfold Jdg
         try dsimp only
         have:=J3.1 I;refine .lt (λG=>?_) λG=>?_
         ·refine .bind (Jh h.e.1.2) λY W=>.ge (λC=>?_) λC=>?_
          ·exact .some trivial
          ·have:=Jb j 1;exact .some ⟨J1 .i64 j 1,rfl,⟨J8,om,om⟩,om,om⟩
         ·exact .some trivial
        ·try dsimp only
         exact⟨fk0,oo,oo⟩
      ·try dsimp only
       exact⟨fk0,oo,oo⟩
    ·try dsimp only
     exact⟨fk0,oo,oo⟩
  ·try dsimp only
   exact⟨fk0,oo,oo⟩
section
variable {B S:Int}
def KOk(x:J5):Prop:=J02 x.2.2.1=some true/\JL x.2.2.2.1=some true/\J1z x.2.2.2.2.1=some true/\J18 x.2.2.2.2.2.1=some true/\J0P x.2.2.2.2.2.2.1=some true/\J0O (x.2.2.2.2.2.2.2,x.1)=some true/\1<=x.1/\x.1<=64/\1<=x.2.1/\x.2.1<=1073741825/\J0 x.2.2.2.2.2.2.1=x.1
theorem Jr9{x:J5}(e:J1Q x=some true):KOk x:=by
 have h:Par (J1Q x) λy=>y=true->KOk x:=by unfold J1Q;refine .ge (λr=>.le (λv=>.ge (λc3=>.le (λB=>.bind λa ha=>.ite (λo=>.bind λb hb=>.ite (λj=>.bind λc hc=>.ite (λk=>.bind λd hd=>.ite (λA=>.bind λf hf=>.ite (λw=>.eq (λz=>.bind λg n=>.some λq=>?_) λ_=>.some nofun) λ_=>.some nofun) λ_=>.some nofun) λ_=>.some nofun) λ_=>.some nofun) λ_=>.some nofun) λ_=>.some nofun) λ_=>.some nofun) λ_=>.some nofun) λ_=>.some nofun;subst o j k A w q;exact⟨ha,hb,hc,hd,hf,n,r,v,c3,B,z⟩
 exact h _ e rfl
theorem J4F{x:J5}(e:Jq x=some true):KOk x:=by
 have g:Par (Jq x) λy=>y=true->KOk x:=by unfold Jq;refine .bind λa ha=>.not (λ_=>.some nofun) λc=>?_;subst c;exact λ_ _ _=>Jr9 ha
 exact g _ e rfl
theorem KOk.fit{x:J5}(k:KOk x)(h:zFt B S J9 x)(y:BC B S 0 0:=by omega):zFt 4096 8192 J9 x:=by obtain⟨h1,h2,h3,h4,h5,v,j,o⟩:=h;obtain⟨k1,k2,g,w,n,r,e⟩:=k;refine⟨h1,h2,(J26 h3 k1 rfl).2,(J2Z h4 k2 rfl).2.u,(J3T h5 g rfl).2.u,(J2W v w rfl).2.u,(J4I j n rfl).2.u,?_,λa ha=>o.2 a ha⟩;have q:=(JhR r e.1 e.2.1).1;show J0 x.2.2.2.2.2.2.2<=4096;omega
theorem J1w{x:J5}{y:Bool}(h:zFt B S J9 x)(e:Jq x=some y)(c:y=true)(A:BC B S 0 0:=by omega):(1<=x.1/\x.1<=64/\J0 x.2.2.2.2.2.2.1=x.1/\1<=x.2.1/\x.2.1<=1073741825/\1<=x.2.2.1.1/\x.2.2.1.1<=1099511627776/\J0 x.2.2.1.2.1<=4096/\x.2.2.1.1-1<=x.2.2.1.2.2/\x.2.2.1.2.2<=x.2.2.1.1+J0 x.2.2.1.2.1-1/\1<=x.2.2.2.1.1/\x.2.2.2.1.1<=64/\J0 x.2.2.2.1.2.1<=x.2.2.2.1.1/\0<=x.2.2.2.1.2.2/\(x.2.2.2.1.2.2<J0 x.2.2.2.1.2.1\/x.2.2.2.1.2.2=0))/\zFt 4096 8192 J9 x:=by subst c;have k:=J4F e;obtain⟨k1,k2,C,F,D,E,r,o,v,g,j⟩:=id k;obtain⟨a1,a2,a3,a4,w⟩:=(J26 h.c.1 k1 rfl).1;obtain⟨b1,b2,q,z,n⟩:=(J2Z h.d.1 k2 rfl).1;exact⟨⟨r,o,j,v,g,a1,a2,a3,a4,w,b1,b2,q,z,n⟩,k.fit h⟩
end
theorem Jrs{B S:Int}{x1:J5}(h:zFt B S J9 x1)(v:BG B S:=by omega):Tot (J4K x1) λy=>zFt 8193 8192 Jks y:=by
 unfold J4K;refine .bind ((J1m h).eqn) λx h1=>.not (λn=>?_) λn=>?_
 ·exact .some (⟨fzr,fk0,fkn 15⟩)
 ·have v3:=J1w h h1.2 n;have j:zFt 4096 8192 J9 x1:=v3.2;refine .gt (λo=>?_) λo=>?_
  ·exact .some (⟨fzr,fk0,fkn 21⟩)
  ·have q:zFt 16384 1073741824 tq2 (x1.2.2.2.2.2.1,x1.2.1):=⟨j.g.1.u,j.2.1⟩;refine .bind (Jgp q) λw k=>.ne (λr=>?_) λr=>?_
   ·exact .some (⟨fzr,fk0,k.2⟩)
   ·exact .some (⟨⟨j.1,J8,j.c.1.u,j.d.1.u,j.e.1.u,k.1.u,j.h.u⟩,J2d,fk0⟩)
theorem JqW{B S:Int}{x1:Jt}(h:zFt B S Jl x1)(g:BG B S:=by omega):Tot (J4w x1) λy=>zFt B S JBy y:=by
 unfold J4w;refine .bind (Jrs h.1) λj h1=>.ne (λe=>?_) λe=>?_
 ·exact .some (⟨⟨fzr,Jc,fk0,Jc,trivial,Jc⟩,fk0,h1.c⟩)
 ·exact .some (⟨⟨h1.1.u,h.2⟩,h1.2.1,fk0⟩)
theorem J1R{B S:Int}{x1:J2}(h:zFt B S J6 x1)(g:BS B S 0 0:=by omega):Tot (Jz x1) λy=>zFt 0 0 .b y:=by
 unfold Jz;refine .eqf (λe=>?_) λe=>?_
 ·exact .some trivial
 ·exact .some trivial
theorem J8z{B S:Int}{x1:JO×J2}(h:zFt B S Jtj x1)(F:BG B S:=by omega):Tot (J0v x1) λy=>zFt 4097 8192 (.pr JT J0c) y/\(y.2.2=0->J0 y.1.2.1=J0 x1.1.2.1+1/\J0 x1.1.2.1<=4095/\0<=x1.2.2.2.2.2.2.2.1.1/\x1.2.2.2.2.2.2.2.1.1<64/\0<=x1.2.2.2.2.2.2.2.1.2.1/\x1.2.2.2.2.2.2.2.1.2.1<16):=by
 unfold J0v;refine .bind ((J2v h.1).eqn) λI h1=>.not (λr=>?_) λr=>?_
 ·have:J0 x1.1.2.1<=B:=h.1.2.1.1;exact .some ⟨(⟨fzr,fk0,fkn 26⟩),om⟩
 ·have D:=J26 h.1 h1.2 r;have:=J4 (l:=x1.1.2.1);have:J0 x1.1.2.1=_:=Jk h.1.2.1;have e:zFt 4096 8192 JT x1.1:=D.2;refine .eqf (λw=>?_) λw=>?_
  ·refine .bind (J6C e om om om) λG q=>?_;have:=J3.1 q.1;refine .eq (λA=>?_) λA=>?_
   ·have:=J3.1 h.2.z.2.2.2.2.2.2.1.1;exact .some ⟨(⟨fzr,fk0,fkn 21⟩),om⟩
   ·refine .bind (J6C e om om om) λg E=>.bind ((J2X (B:=0) (S:=S) (x1:=(J1 .i64 g 1,x1.2.2)) (⟨J8,h.2.z.2⟩)).eqn) λH v=>.not (λo=>?_) λo=>?_
    ·have:=J3.1 h.2.z.2.2.2.2.2.2.1.1;exact .some ⟨(⟨fzr,fk0,fkn 12⟩),om⟩
    ·have k:=J2s (x:=(J1 .i64 g 1,x1.2.2)) (⟨J8,h.2.z.2⟩) v.2 o;have:=Jb g 1;have:=J3.1 h.2.z.2.2.2.2.2.2.1.1;have:=J3.1 h.2.z.2.2.2.2.2.2.1.2.1;have:1<=(J1 .i64 g 1)/\(J1 .i64 g 1)<=1099511627776/\0<=x1.2.2.2.1/\x1.2.2.2.1<=1073741824/\0<=x1.2.2.2.2.1/\x1.2.2.2.2.1<(J1 .i64 g 1)/\0<=x1.2.2.2.2.2.1/\x1.2.2.2.2.2.1<(J1 .i64 g 1)/\0<=x1.2.2.2.2.2.2.1/\x1.2.2.2.2.2.2.1<(J1 .i64 g 1)/\0<=x1.2.2.2.2.2.2.2.1.1/\x1.2.2.2.2.2.2.2.1.1<64/\0<=x1.2.2.2.2.2.2.2.1.2.1/\x1.2.2.2.2.2.2.2.1.2.1<16/\J0 x1.2.2.2.2.2.2.2.1.2.2.1.2<=12/\J0 x1.2.2.2.2.2.2.2.1.2.2.2.2<=12/\J0 x1.2.2.2.2.2.2.2.2<=8192:=k.1;have j:zFt 0 8192 J6 (J1 .i64 g 1,x1.2.2):=k.2;refine .clo e.2.1 oo (by decide) ?_;refine .bind (J0u (B:=4097) (Bl:=4096) (Bm:=1) (S:=8192) (J0 x1.1.2.1) 1 e.2.1 (J0j (B:=1) (S:=8192) (t:=J6) oo (j.u))) λC n=>?_;have:J0 C=_:=Jk n.1;exact .some ⟨(⟨⟨e.1,n.1,e.c⟩,j.1,fk0⟩),om⟩
  ·have:=J3.1 h.2.z.2.2.2.2.2.2.1.1;exact .some ⟨(⟨fzr,fk0,fkn 21⟩),om⟩
theorem J4i{B S:Int}{x1:J6t}(h:zFt B S tq8 x1)(o:BC B S 0 0:=by omega):Tot (J0x x1) λy=>zFt 0 8192 JId y:=by
 unfold J0x;refine .bind ((J2v h.1).eqn) λr h1=>.not (λe=>?_) λe=>?_
 ·exact .some (⟨⟨fk0,fk0,fk0,fk0,fk0,fk0,⟨fk0,fk0,⟨trivial,Je⟩,trivial,Je⟩,Je⟩,fkn 26⟩)
 ·have v3:=J26 h.1 h1.2 e;have:=J4 (l:=x1.1.2.1);have:J0 x1.1.2.1=_:=Jk h.1.2.1;have h10:zFt 4096 8192 JT x1.1:=v3.2;refine .ltf (λg=>?_) λg=>?_
  ·refine .bind (J6C h10 om om om) λq n=>.gt (λj=>?_) λj=>?_
   ·exact .some (⟨⟨fk0,fk0,fk0,fk0,fk0,fk0,⟨fk0,fk0,⟨trivial,Je⟩,trivial,Je⟩,Je⟩,fkn 14⟩)
   ·have:=J0o x1.2 x1.1.1;refine .bind (Jh h10.2.1) λv k=>.some (⟨k.1.z,fk0⟩)
  ·exact .some (⟨⟨fk0,fk0,fk0,fk0,fk0,fk0,⟨fk0,fk0,⟨trivial,Je⟩,trivial,Je⟩,Je⟩,fkn 14⟩)
theorem Jy0{B S:Int}{x1:(List T_api_Row)×Int×T_api_Row}(h:zFt B S (.pr (.l Jd) (.pr zI Jd)) x1)(p0:0<=x1.2.1)(g:x1.2.1<J0 x1.1)(e:BS B S 0 0:=by omega)(k:B<=34359738368:=by omega):Tot (J7k x1) λy=>zFt B S (.l Jd) y/\(J0 y=J0 x1.1):=by unfold J7k;have:J0 x1.1=_:=Jk h.1;refine .clo h.1 oo (by decide) ?_;refine .bind (J6d (l:=x1.1)) λ_ _=>.bind (JbP h.1) λn j=>?_;have:J0 (J0z x1.1 (Int.toNat x1.2.1) x1.2.2)=J0 x1.1:=J6r;exact .some ⟨(J4x (t:=Jd) (i:=Int.toNat x1.2.1) (x:=x1.2.2) h.1 h.c),om⟩
theorem J5i{B S:Int}{x1:JAv}(h:zFt B S JoF x1)(E:BG B S:=by omega):Tot (J1q x1) λy=>zFt 64 0 JAK y:=by
 unfold J1q;refine .bind ((J5O h.1).eqn) λH h1=>.not (λr=>?_) λr=>?_
 ·exact .some (⟨Jc,fkn 28⟩)
 ·have v3:=J4I h.1 h1.2 r;have:J0 x1.1=_:=Jk h.1;have n:zFt 64 0 (.l Jd) x1.1:=v3.2;refine .bind ((J2X (B:=0) (S:=S) (x1:=x1.2) h.2.z).eqn) λF D=>.not (λj=>?_) λj=>?_
  ·exact .some (⟨Jc,fkn 12⟩)
  ·have A:=J2s (x:=x1.2) h.2.z D.2 j;have k:zFt 0 8192 J6 x1.2:=A.2;refine .ne (λv=>?_) λv=>?_
   ·exact .some (⟨n,fk0⟩)
   ·refine .ge (λo=>?_) λo=>?_
    ·exact .some (⟨Jc,fkn 1⟩)
    ·refine .bind (Jh n) λG e=>.bind (Jy0 (B:=64) (S:=0) (⟨n,k.h.1.1,J4q e.1.1 k.g.1,e.1.2⟩) om om) λC w=>?_;have q:zFt 64 0 (.l Jd) C:=w.1.u;exact .some (⟨q,fk0⟩)
theorem J3e{B S:Int}{x1:J2z}(h:zFt B S tq2 x1)(g:BS B S 0 0:=by omega)(j:B<=9223372036854775807:=by omega):Tot (J0V x1) λy=>zFt 0 0 zI y/\(-1<=y/\y<J0 x1.1):=by unfold J0V;refine .bind (J9J (B:=B) (S:=S) (h)) λe h1=>?_;have: -1<=e/\e<J0 x1.1:=h1.2;exact .some ⟨h1.1,om⟩
theorem JaE{B S:Int}{x1:J2z}(h:zFt B S tq2 x1)(A:BH B S:=by omega)(H:B<=34359738368:=by omega):Tot (J5e x1) λy=>zFt B S (.l Jm) y:=by
 unfold J5e;have:J0 x1.1<=B:=h.1.1;have:=J4 (l:=x1.1);have:J0 x1.1=_:=Jk h.1;refine Jf (τ:=Int×(List Jo)) (λq=>(x1.1,x1.2,q.1,q.2)) (λq=>(zFt 0 0 zI q.1/\0<=q.1/\(q.1<=J0 x1.1\/q.1<=0))/\(zFt B S (.l Jm) q.2/\J0 q.2<=1*q.1+0)) (λq=>J0 x1.1-q.1) ?_ (0,[]) rfl ?_
 ·rintro⟨g,e⟩ n;dsimp only at n;obtain⟨⟨x,C,G⟩,j,D⟩:=n;unfold JcT
  try dsimp only
  have:=J3.1 x;refine .lt (λw=>?_) λw=>?_
  ·refine .bind (Jh h.1) λE z=>.ne (λo=>?_) λo=>?_
   ·refine .bind (Jh h.1) λF v=>?_;have:J0 e<=B:=j.1;have:J0 e=_:=Jk j;refine .bind (J0u (B:=B) (Bl:=B) (Bm:=B) (S:=S) (J0 e) 1 j (J0j (B:=B) (S:=S) (t:=Jm) oo v.1)) λr k=>?_;have:=Jb g 1;have:J0 r=_:=Jk k.1;exact .some ⟨(J1 .i64 g 1,r),rfl,⟨⟨J8,om,om⟩,k.1,om⟩,om,om⟩
   ·have:=Jb g 1;have:J0 e=_:=Jk j;exact .some ⟨(J1 .i64 g 1,e),rfl,⟨⟨J8,om,om⟩,j,om⟩,om,om⟩
  ·exact .some j
 ·have:J0 ([]:List Jo)=0:=rfl
  try dsimp only
  exact⟨⟨fk0,oo,oo⟩,Jc,oo⟩
theorem J8Z{B S:Int}{x1:(List Jo)×Int×Jo}(h:zFt B S (.pr (.l Jm) (.pr zI Jm)) x1)(p0:0<=x1.2.1)(g:x1.2.1<J0 x1.1)(e:BS B S 0 0:=by omega)(k:B<=34359738368:=by omega):Tot (J3i x1) λy=>zFt B S (.l Jm) y/\(J0 y=J0 x1.1):=by unfold J3i;have:J0 x1.1=_:=Jk h.1;refine .clo h.1 oo (by decide) ?_;refine .bind (J6d (l:=x1.1)) λ_ _=>.bind (JbP h.1) λn j=>?_;have:J0 (J0z x1.1 (Int.toNat x1.2.1) x1.2.2)=J0 x1.1:=J6r;exact .some ⟨(J4x (t:=Jm) (i:=Int.toNat x1.2.1) (x:=x1.2.2) h.1 h.c),om⟩
theorem J8w{B S:Int}{x1:Jo}(h:zFt B S Jm x1)(k:BS B S 0 0:=by omega)(o:B<=9223372036854775807:=by omega):Tot (J2A x1) λy=>zFt B S Jm y:=by
 unfold J2A;refine .eq (λj=>?_) λj=>?_
 ·have:J0 x1.2.2.2.2.1<=B:=h.e.1.1;have:=J4 (l:=x1.2.2.2.2.1);refine .eqf (λc3=>?_) λc3=>?_
  ·have:=J0o (J0 x1.2.2.2.2.1) 1;refine .bind (Jh h.e.1) λq n=>.le (λg=>?_) λg=>?_
   ·exact .some (⟨h.1,fkn 1,h.c.1,fk0,h.e⟩)
   ·exact .some h
  ·exact .some (⟨h.1,fkn 1,h.c.1,fk0,h.e⟩)
 ·exact .some h
theorem J5B{B S:Int}{x1:(List Jo)×J2}(h:zFt B S JoC x1)(aq:BG B S:=by omega):Tot (J0A x1) λy=>zFt 16384 1073741824 tq2 y:=by
 unfold J0A;refine .bind ((J3R h.1).eqn) λy2 h1=>.not (λV=>?_) λV=>?_
 ·exact .some (⟨Jc,fkn 15⟩)
 ·have v3:=J2W h.1 h1.2 V;have:J0 x1.1=_:=Jk h.1;have w:zFt 4096 0 (.l Jm) x1.1:=v3.2;refine .bind ((J2X (B:=0) (S:=S) (x1:=x1.2) h.2.z).eqn) λy3 h9=>.not (λC=>?_) λC=>?_
  ·exact .some (⟨Jc,fkn 12⟩)
  ·have aa:=J2s (x:=x1.2) h.2.z h9.2 C;have o:zFt 0 8192 J6 x1.2:=aa.2;refine .eq (λa6=>?_) λa6=>?_
   ·exact .some (⟨w.u,fk0⟩)
   ·refine .bind (J9J (B:=4096) (S:=0) (⟨w,o.c.1⟩)) λF v=>?_;have:=J3.1 v.1;have: -1<=F/\F<J0 x1.1:=v.2;refine .lt (λI=>?_) λI=>?_
    ·exact .some (⟨Jc,fkn 16⟩)
    ·refine .bind (Jh w) λr j=>.ne (λa2=>?_) λa2=>?_
     ·exact .some (⟨Jc,fkn 13⟩)
     ·have:=J3.1 o.2.1;refine .eq (λK=>?_) λK=>?_
      ·refine .clo j.1.e.1 oo (by decide) ?_;have:J0 r.2.2.2.2.1<=4096:=j.1.e.1.1;have:=J4 (l:=r.2.2.2.2.1);refine .bind (J0u (B:=4097) (Bl:=4096) (Bm:=1) (S:=0) (J0 r.2.2.2.2.1) 1 j.1.e.1 (J0j (B:=1) (S:=0) (t:=zI) oo o.1)) λy7 af=>.bind (J8w (B:=4097) (S:=0) (⟨j.1.1,j.1.2.1,o.1,j.1.d.1,af.1,j.1.g.u⟩)) λy8 Z=>?_;have a4:zFt 4097 0 Jm y8:=Z.u;refine .bind (J8Z (B:=4097) (S:=0) (⟨w.u,v.1,a4⟩) om om) λy9 a8=>?_;have G:zFt 4097 0 (.l Jm) y9:=a8.1.u;exact .some (⟨G.u,fk0⟩)
      ·refine .eq (λY=>?_) λY=>?_
       ·have:J0 r.2.2.2.2.1<=4096:=j.1.e.1.1;have:=J4 (l:=r.2.2.2.2.1);refine Jf (τ:=JsD) (λq=>(x1.1,F,q.1,x1.2,(r.1,r.2.1,x1.2.1,r.2.2.2),q.2)) (λq=>(zFt 0 0 zI q.1/\0<=q.1/\(q.1<=J0 r.2.2.2.2.1\/q.1<=0))/\(zFt 4096 0 (.l zI) q.2/\J0 q.2<=1*q.1+0)) (λq=>J0 r.2.2.2.2.1-q.1) ?_ (0,[]) rfl ?_
        ·rintro⟨k,n⟩ D;dsimp only at D;obtain⟨⟨U,al,ap⟩,A,ak⟩:=D;unfold Jfq
         try dsimp only
         have:=J3.1 U;refine .lt (λW=>?_) λW=>?_
         ·refine .bind (Jh j.1.e.1) λao an=>.ne (λab=>?_) λab=>?_
          ·refine .bind (Jh j.1.e.1) λam ac=>?_;have:J0 n<=4096:=A.1;have:=J4 (l:=n);refine .bind (J0u (B:=4096) (Bl:=4096) (Bm:=1) (S:=0) (J0 n) 1 A (J0j (B:=1) (S:=0) (t:=zI) oo ac.1)) λO a9=>?_;have:=Jb k 1;exact .some ⟨(J1 .i64 k 1,O),rfl,⟨⟨J8,om,om⟩,a9.1,om⟩,om,om⟩
          ·have:=Jb k 1;exact .some ⟨(J1 .i64 k 1,n),rfl,⟨⟨J8,om,om⟩,A,om⟩,om,om⟩
         ·refine .inr ?_;refine .eq (λL=>?_) λL=>?_
          ·exact .some (⟨Jc,fkn 13⟩)
          ·refine .bind (J8w (B:=4096) (S:=0) (⟨j.1.1,j.1.2.1,o.1,j.1.d.1,A,j.1.g⟩)) λa3 a0=>?_;have H:zFt 4096 0 Jm a3:=a0.u;refine .bind (J8Z (B:=4096) (S:=0) (⟨w,v.1,H⟩) om om) λP ae=>?_;have ad:zFt 4096 0 (.l Jm) P:=ae.1.u;exact .some (⟨ad.u,fk0⟩)
        ·have:J0 ([]:List Int)=0:=rfl
         try dsimp only
         exact⟨⟨fk0,oo,oo⟩,Jc,oo⟩
       ·refine .eq (λQ=>?_) λQ=>?_
        ·refine .bind (J8w (B:=4096) (S:=0) (⟨j.1.1,fkn 3,o.1,fk0,j.1.e.1,Jc⟩)) λa5 a7=>?_;have J:zFt 4096 0 Jm a5:=a7.u;refine .bind (J8Z (B:=4096) (S:=0) (⟨w,v.1,J⟩) om om) λR M=>?_;have N:zFt 4096 0 (.l Jm) R:=M.1.u;exact .some (⟨N.u,fk0⟩)
        ·have ag:zFt 16384 1073741824 tq2 (x1.1,x1.2.2.2.1):=⟨w.u,o.c.1⟩;refine .bind (JaE ag) λT a1=>?_;have E:zFt 16384 1073741824 (.l Jm) T:=a1.u;exact .some (⟨E,fk0⟩)
theorem J5w{B S:Int}{x1:J6c}(h:zFt B S tq7 x1)(o:BS B S 0 0:=by omega)(w:B<=9223372036854775807:=by omega):Tot (J15 x1) λy=>zFt 0 0 zI y/\(-1<=y/\y<J0 x1.1.2.1):=by
 unfold J15;have:J0 x1.1.2.1<=B:=h.1.2.1.1;have:=J4 (l:=x1.1.2.1);have:J0 x1.1.2.1=_:=Jk h.1.2.1;refine Jf (τ:=Int) (λq=>(x1.2,q,x1.1)) (λq=>(zFt 0 0 zI q/\0<=q/\(q<=J0 x1.1.2.1\/q<=0))) (λq=>J0 x1.1.2.1-q) ?_ 0 rfl ?_
 ·rintro e ⟨g,x,v⟩;unfold J6y
  try dsimp only
  have:=J3.1 g;refine .lt (λk=>?_) λk=>?_
  ·refine .bind (Jh h.1.2.1) λr n=>.eq (λj=>?_) λj=>?_
   ·exact .some ⟨g,om⟩
   ·have:=Jb e 1;exact .some ⟨J1 .i64 e 1,rfl,⟨J8,om,om⟩,om,om⟩
  ·exact .some ⟨(fkn (-1)),om⟩
 ·try dsimp only
  exact⟨fk0,oo,oo⟩
theorem J5p{B S:Int}{x1:J6c}(h:zFt B S tq7 x1)(o:BC B S 0 0:=by omega):Tot (J0S x1) λy=>zFt 0 0 zI y/\(-1<=y/\y<J0 x1.1.2.1):=by
 unfold J0S;refine .bind ((J3Q h.1).eqn) λq h1=>.not (λg=>?_) λg=>?_
 ·have:J0 x1.1.2.1<=B:=h.1.2.1.1;have:=J4 (l:=x1.1.2.1);have:J0 x1.1.2.1=_:=Jk h.1.2.1;exact .some ⟨(fkn (-1)),om⟩
 ·have n:=J2Z h.1 h1.2 g;have j:zFt 64 12 JM x1.1:=n.2;refine .bind (J5w (B:=64) (S:=12) (⟨j,h.2⟩)) λk e=>?_;have: -1<=k/\k<J0 x1.1.2.1:=e.2;exact .some ⟨e.1,om⟩
theorem J90{B S:Int}{x1:J6c}(h:zFt B S tq7 x1)(k:BC B S 0 0:=by omega):Tot (J2j x1) λy=>zFt 0 S (.pr Ju .b) y:=by
 unfold J2j;refine .bind ((J5p (B:=B) (S:=S) (x1:=(x1.1,x1.2)) (h)).eqn) λe h1=>?_;have:=J3.1 h1.1.1;have:J0 x1.1.2.1=_:=Jk h.1.2.1;have: -1<=e/\e<J0 x1.1.2.1:=h1.1.2;refine .lt (λj=>?_) λj=>?_
 ·exact .some (⟨⟨fk0,fk0,J0i oo oo (.ar 16 JG)⟩,trivial⟩)
 ·refine .bind (Jh h.1.2.1) λn g=>.some (⟨g.1.z.1,trivial⟩)
theorem J7X{B S:Int}{x1:J1E}(h:zFt B S tq1 x1)(z:BG B S:=by omega):Tot (J2S x1) λy=>zFt 0 0 zI y:=by
 unfold J2S;refine .bind ((J1m h.1).eqn) λD h1=>.nof (λn=>?_) λn=>?_
 ·have v3:=J1w h.1 h1.2 n;have:J0 x1.1.2.2.2.2.2.2.1=_:=Jk h.1.h.1;have e:zFt 4096 8192 J9 x1.1:=v3.2;have:=J3.1 h.2;refine .ltf (λw=>?_) λw=>?_
  ·refine .ge (λv=>?_) λv=>?_
   ·exact .some fk0
   ·refine .bind (J90 (B:=4096) (S:=8192) (⟨e.d.1,h.2⟩)) λx r=>?_;have j:zFt 0 8192 (.pr Ju .b) x:=r.u;refine .ite (λg=>?_) λg=>?_
    ·exact .some j.1.2.1
    ·refine .bind (J9b (B:=4096) (S:=8192) (⟨e,h.2⟩)) λC k=>.ite (λq=>?_) λq=>?_
     ·exact .some k.1.c
     ·refine .bind (Jh e.h.1) λA o=>.some o.1.1
  ·exact .some fk0
 ·exact .some fk0
theorem J56{B S:Int}{x1:Jok}(h:zFt B S Jt3 x1)(b1:BG B S:=by omega):Tot (J0Q x1) λy=>zFt 16384 1073741824 Jks y/\(y.2.2=0->J0 y.1.2.2.1.2.1=J0 x1.1.2.2.1.2.1+1/\J0 x1.1.2.2.1.2.1<=4095/\0<=x1.2.2.2.2.2.2.2.1.1/\x1.2.2.2.2.2.2.2.1.1<64/\0<=x1.2.2.2.2.2.2.2.1.2.1/\x1.2.2.2.2.2.2.2.1.2.1<16):=by
 unfold J0Q;refine .bind ((J1m h.1).eqn) λy2 h1=>.not (λc2=>?_) λc2=>?_
 ·have:J0 x1.1.2.2.1.2.1<=B:=h.1.c.1.2.1.1;exact .some ⟨(⟨fzr,fk0,fkn 15⟩),om⟩
 ·have v8:=J1w h.1 h1.2 c2;have:=J4 (l:=x1.1.2.2.1.2.1);have:J0 x1.1.2.2.1.2.1=_:=Jk h.1.c.1.2.1;have j:zFt 4096 8192 J9 x1.1:=v8.2;refine .gt (λao=>?_) λao=>?_
  ·refine .bind ((J3e (B:=4096) (S:=8192) (x1:=(x1.1.2.2.2.2.2.1,x1.2.2.2.1)) (⟨j.g.1,h.2.z.2.2.1⟩)).eqn) λy3 K=>?_;have:=J3.1 K.1.1;have:J0 x1.1.2.2.2.2.2.1=_:=Jk j.g.1;have: -1<=y3/\y3<J0 x1.1.2.2.2.2.2.1:=K.1.2;refine .lt (λap=>?_) λap=>?_
   ·have:=J3.1 h.2.z.2.2.2.2.2.2.1.1;exact .some ⟨(⟨fzr,fk0,fkn 16⟩),om⟩
   ·refine .bind (Jh j.g.1) λy4 w=>.bind (J1R (B:=0) (S:=S) (⟨h.2.z.1,h.2.z.2.1,h.2.z.2.2.1,w.1.c.1,fk0,h.2.z.2.2.2.2.2⟩)) λy5 b2=>.ite (λag=>?_) λag=>?_
    ·have ad:zFt 16384 1073741824 tq1 (x1.1,x1.2.2.2.2.2.2.2.1.1):=⟨j.u,h.2.z.2.2.2.2.2.2.1.1⟩;refine .bind (J7X ad) λy6 aq=>?_;have a5:zFt 16384 S Jtj (x1.1.2.2.1,x1.2.1,x1.2.2.1,x1.2.2.2.1,y4.2.2.1,y6,x1.2.2.2.2.2.2):=⟨j.c.1.u,h.2.z.1,h.2.z.2.1,h.2.z.2.2.1,w.1.c.1,aq,h.2.z.2.2.2.2.2.u⟩;refine .bind (J8z a5) λZ q=>?_;have:J0 Z.1.2.1=_:=Jk q.1.1.2.1;have:=J3.1 h.2.z.2.2.2.2.2.2.1.1;have:=J3.1 h.2.z.2.2.2.2.2.2.1.2.1;have:Z.2.2=0->J0 Z.1.2.1=J0 x1.1.2.2.1.2.1+1/\J0 x1.1.2.2.1.2.1<=4095/\0<=x1.2.2.2.2.2.2.2.1.1/\x1.2.2.2.2.2.2.2.1.1<64/\0<=x1.2.2.2.2.2.2.2.1.2.1/\x1.2.2.2.2.2.2.2.1.2.1<16:=q.2;refine .ne (λa9=>?_) λa9=>?_
     ·exact .some ⟨(⟨fzr,fk0,q.1.c⟩),om⟩
     ·refine .bind (J4i (B:=4097) (S:=8192) (⟨q.1.1,q.1.2.1⟩)) λy8 L=>?_;have a8:zFt 16384 1073741824 JoC (x1.1.2.2.2.2.2.1,y8.1):=⟨j.g.1.u,L.1.u⟩;refine .bind (J5B a8) λy9 N=>.ne (λan=>?_) λan=>?_
      ·exact .some ⟨(⟨fzr,fk0,N.2⟩),om⟩
      ·have ae:zFt 16384 1073741824 JoF (x1.1.2.2.2.2.2.2.1,y8.1):=⟨j.h.1.u,L.1.u⟩;refine .bind (J5i ae) λb0 G=>.ne (λak=>?_) λak=>?_
       ·exact .some ⟨(⟨fzr,fk0,G.2⟩),om⟩
       ·exact .some ⟨(⟨⟨j.1,j.2.1,q.1.1.u,j.d.1.u,j.e.1.u,N.1,G.1.u,j.i.u⟩,q.1.2.1,fk0⟩),om⟩
    ·have a6:zFt 16384 S Jtj (x1.1.2.2.1,x1.2.1,x1.2.2.1,x1.2.2.2.1,y4.2.2.1,0,x1.2.2.2.2.2.2):=⟨j.c.1.u,h.2.z.1,h.2.z.2.1,h.2.z.2.2.1,w.1.c.1,fk0,h.2.z.2.2.2.2.2.u⟩;refine .bind (J8z a6) λr n=>?_;have:J0 r.1.2.1=_:=Jk n.1.1.2.1;have:=J3.1 h.2.z.2.2.2.2.2.2.1.1;have:=J3.1 h.2.z.2.2.2.2.2.2.1.2.1;have:r.2.2=0->J0 r.1.2.1=J0 x1.1.2.2.1.2.1+1/\J0 x1.1.2.2.1.2.1<=4095/\0<=x1.2.2.2.2.2.2.2.1.1/\x1.2.2.2.2.2.2.2.1.1<64/\0<=x1.2.2.2.2.2.2.2.1.2.1/\x1.2.2.2.2.2.2.2.1.2.1<16:=n.2;refine .ne (λa7=>?_) λa7=>?_
     ·exact .some ⟨(⟨fzr,fk0,n.1.c⟩),om⟩
     ·refine .bind (J4i (B:=4097) (S:=8192) (⟨n.1.1,n.1.2.1⟩)) λF I=>?_;have av:zFt 16384 1073741824 JoC (x1.1.2.2.2.2.2.1,F.1):=⟨j.g.1.u,I.1.u⟩;refine .bind (J5B av) λb8 P=>.ne (λah=>?_) λah=>?_
      ·exact .some ⟨(⟨fzr,fk0,P.2⟩),om⟩
      ·have ac:zFt 16384 1073741824 JoF (x1.1.2.2.2.2.2.2.1,F.1):=⟨j.h.1.u,I.1.u⟩;refine .bind (J5i ac) λb4 M=>.ne (λab=>?_) λab=>?_
       ·exact .some ⟨(⟨fzr,fk0,M.2⟩),om⟩
       ·exact .some ⟨(⟨⟨j.1,j.2.1,n.1.1.u,j.d.1.u,j.e.1.u,P.1,M.1.u,j.i.u⟩,n.1.2.1,fk0⟩),om⟩
  ·refine .bind (J1R (B:=0) (S:=S) (⟨h.2.z.1,h.2.z.2.1,h.2.z.2.2.1,fk0,fk0,h.2.z.2.2.2.2.2⟩)) λb6 b5=>.ite (λai=>?_) λai=>?_
   ·have aj:zFt 16384 1073741824 tq1 (x1.1,x1.2.2.2.2.2.2.2.1.1):=⟨j.u,h.2.z.2.2.2.2.2.2.1.1⟩;refine .bind (J7X aj) λaw am=>?_;have au:zFt 16384 S Jtj (x1.1.2.2.1,x1.2.1,x1.2.2.1,x1.2.2.2.1,0,aw,x1.2.2.2.2.2.2):=⟨j.c.1.u,h.2.z.1,h.2.z.2.1,h.2.z.2.2.1,fk0,am,h.2.z.2.2.2.2.2.u⟩;refine .bind (J8z au) λA o=>?_;have:J0 A.1.2.1=_:=Jk o.1.1.2.1;have:=J3.1 h.2.z.2.2.2.2.2.2.1.1;have:=J3.1 h.2.z.2.2.2.2.2.2.1.2.1;have:A.2.2=0->J0 A.1.2.1=J0 x1.1.2.2.1.2.1+1/\J0 x1.1.2.2.1.2.1<=4095/\0<=x1.2.2.2.2.2.2.2.1.1/\x1.2.2.2.2.2.2.2.1.1<64/\0<=x1.2.2.2.2.2.2.2.1.2.1/\x1.2.2.2.2.2.2.2.1.2.1<16:=o.2;refine .ne (λaa=>?_) λaa=>?_
    ·exact .some ⟨(⟨fzr,fk0,o.1.c⟩),om⟩
    ·refine .bind (J4i (B:=4097) (S:=8192) (⟨o.1.1,o.1.2.1⟩)) λH E=>?_;have af:zFt 16384 1073741824 JoC (x1.1.2.2.2.2.2.1,H.1):=⟨j.g.1.u,E.1.u⟩;refine .bind (J5B af) λb7 O=>.ne (λal=>?_) λal=>?_
     ·exact .some ⟨(⟨fzr,fk0,O.2⟩),om⟩
     ·have U:zFt 16384 1073741824 JoF (x1.1.2.2.2.2.2.2.1,H.1):=⟨j.h.1.u,E.1.u⟩;refine .bind (J5i U) λba Q=>.ne (λR=>?_) λR=>?_
      ·exact .some ⟨(⟨fzr,fk0,Q.2⟩),om⟩
      ·exact .some ⟨(⟨⟨j.1,j.2.1,o.1.1.u,j.d.1.u,j.e.1.u,O.1,Q.1.u,j.i.u⟩,o.1.2.1,fk0⟩),om⟩
   ·have a1:zFt 16384 S Jtj (x1.1.2.2.1,x1.2.1,x1.2.2.1,x1.2.2.2.1,0,0,x1.2.2.2.2.2.2):=⟨j.c.1.u,h.2.z.1,h.2.z.2.1,h.2.z.2.2.1,fk0,fk0,h.2.z.2.2.2.2.2.u⟩;refine .bind (J8z a1) λC k=>?_;have:J0 C.1.2.1=_:=Jk k.1.1.2.1;have:=J3.1 h.2.z.2.2.2.2.2.2.1.1;have:=J3.1 h.2.z.2.2.2.2.2.2.1.2.1;have:C.2.2=0->J0 C.1.2.1=J0 x1.1.2.2.1.2.1+1/\J0 x1.1.2.2.1.2.1<=4095/\0<=x1.2.2.2.2.2.2.2.1.1/\x1.2.2.2.2.2.2.2.1.1<64/\0<=x1.2.2.2.2.2.2.2.1.2.1/\x1.2.2.2.2.2.2.2.1.2.1<16:=k.2;refine .ne (λV=>?_) λV=>?_
    ·exact .some ⟨(⟨fzr,fk0,k.1.c⟩),om⟩
    ·refine .bind (J4i (B:=4097) (S:=8192) (⟨k.1.1,k.1.2.1⟩)) λJ D=>?_;have W:zFt 16384 1073741824 JoC (x1.1.2.2.2.2.2.1,J.1):=⟨j.g.1.u,D.1.u⟩;refine .bind (J5B W) λb9 x=>.ne (λa0=>?_) λa0=>?_
     ·exact .some ⟨(⟨fzr,fk0,x.2⟩),om⟩
     ·have Y:zFt 16384 1073741824 JoF (x1.1.2.2.2.2.2.2.1,J.1):=⟨j.h.1.u,D.1.u⟩;refine .bind (J5i Y) λb3 v=>.ne (λT=>?_) λT=>?_
      ·exact .some ⟨(⟨fzr,fk0,v.2⟩),om⟩
      ·exact .some ⟨(⟨⟨j.1,j.2.1,k.1.1.u,j.d.1.u,j.e.1.u,x.1,v.1.u,j.i.u⟩,k.1.2.1,fk0⟩),om⟩
section
variable {B S:Int}
theorem JBQ{l:List Jo}{i:Int}{x y:Jo}(hi:idx l i=some y)(hx:x.1=y.1)(id:Int):J0V (J0z l i.toNat x,id)=J0V (l,id):=by
 have e: ∀z:Jop,z.1=l-> ∀n r,J2g J29 n z=some r↔J2g J29 n (J0z l i.toNat x,z.2)=some r:=by
  intro z hz n
  induction n generalizing z with
  |zero=>intro r;simp[J2g]
  |succ n ih=>
   intro r;obtain⟨l',id,k⟩:=z;dsimp only at hz;subst hz;obtain⟨B,g⟩:=J0G hi;have A:i.toNat<l'.length:=(J2I.1 g).1;have step:J29 (J0z l' i.toNat x,id,k)=(match J29 (l',id,k)with|none=>none|some (.inl z)=>some (.inl (J0z l' i.toNat x,z.2))|some (.inr y)=>some (.inr y))/\(∀z,J29 (l',id,k)=some (.inl z)->z.1=l'):=by
    unfold J29;dsimp only;rw[show J0 (J0z l' i.toNat x)=J0 l' from J6r];by_cases hk:ltI k (J0 l')=true
    ·rw[if_pos hk,if_pos hk];have e1:(idx (J0z l' i.toNat x) k).bind (λq=>if eqI q.1 id=true then(some (.inr k):zOp ((Jop)⊕Int))else some (.inl (J0z l' i.toNat x,id,J1 .i64 k 1)))=(idx l' k).bind (λq=>if eqI q.1 id=true then some (.inr k)else some (.inl (J0z l' i.toNat x,id,J1 .i64 k 1))):=by
      unfold idx J0z;by_cases h:0<=k
      ·rw[if_pos h,if_pos h,List.getElem?_set];by_cases v:i.toNat=k.toNat
       ·rw[if_pos v,if_pos oo,<-v,g];show(if eqI x.1 id=true then _ else _)=(if eqI y.1 id=true then _ else _);rw[hx]
       ·rw[if_neg v]
      ·rw[if_neg h,if_neg h]
     rw[e1];cases hidx:idx l' k with
     |none=>exact⟨rfl,λz h=>by cases h⟩
     |some w=>
      show((if eqI w.1 id=true then _ else _)=_)/\_;by_cases hw:eqI w.1 id=true
      ·refine⟨by rw[if_pos hw,J06,if_pos hw],λz h=>?_⟩;rw[J06,if_pos hw]at h;injection h with h;cases h
      ·refine⟨by rw[if_neg hw,J06,if_neg hw],λz h=>?_⟩;rw[J06,if_neg hw]at h;injection h with h;injection h with h;subst h;rfl
    ·rw[if_neg hk,if_neg hk];exact⟨rfl,λz h=>by cases h⟩
   show J2g J29 (n+1) (l',id,k)=some r↔J2g J29 (n+1) (J0z l' i.toNat x,id,k)=some r;simp only[J2g];rw[step.1];cases hL:J29 (l',id,k)with
   |none=>exact Iff.rfl
   |some o=>
    cases o with
    |inl z=>exact ih z (step.2 z hL) r
    |inr y=>exact Iff.rfl
 have j: ∀r,J1B (J0z l i.toNat x,id)=some r↔J1B (l,id)=some r:=by intro r;unfold J1B;rw[J2G,J2G];exact⟨fun⟨n,h⟩=>⟨n,(e (l,id,0) rfl n r).2 h⟩,fun⟨n,h⟩=>⟨n,(e (l,id,0) rfl n r).1 h⟩⟩
 have e2:J1B (J0z l i.toNat x,id)=J1B (l,id):=by
  cases h:J1B (l,id)with
  |some r=>exact(j r).2 h
  |none=>
   cases h2:J1B (J0z l i.toNat x,id)with
   |none=>rfl
   |some r=>rw[(j r).1 h2]at h;cases h
 unfold J0V
 try dsimp only
 rw[e2]
theorem JnM{x y:Jo}(e:J2A x=some y):y.1=x.1:=by
 have g:Par (J2A x) λy=>y.1=x.1:=by unfold J2A;exact .eq (λ_=>.eqf (λ_=>.bind λ_ _=>.le (λ_=>.some rfl) λ_=>.some rfl) λ_=>.some rfl) λ_=>.some rfl
 exact g _ e
theorem Jxd{l r:List Jo}{i:Int}{x:Jo}(e:J3i (l,i,x)=some r):r=J0z l i.toNat x:=by
 have g:Par (J3i (l,i,x)) λr=>r=J0z l i.toNat x:=by
  unfold J3i;refine .bind λa ha=>.bind λ_ _=>.bind λ_ _=>.some ?_;dsimp only at ha;unfold J2l at ha;split at ha
  ·injection ha with ha;subst ha;rfl
  ·cases ha
 exact g _ e
theorem JwM{l:List Jo}{x:J2}{y:J2z}(e:J0A (l,x)=some y)(h4:x.2.1=4)(j: ¬x.2.2.1=0)(c:y.2=0):Has y.1 x.2.2.1:=by
 have h:Par (J0A (l,x)) λy=>y.2=0->Has y.1 x.2.2.1:=by
  unfold J0A;dsimp only;refine .bind λ_ _=>.not (λ_=>.some nofun) λ_=>.bind λ_ _=>.not (λ_=>.some nofun) λ_=>.eq (λc=>absurd c j) λ_=>.bind λi hi=>.lt (λ_=>.some nofun) λk=>.bind λt g=>.ne (λ_=>.some nofun) λ_=>.eq (λc=>by omega) λ_=>.eq (λc=>by omega) λ_=>.eq (λ_=>.bind λs hs=>.bind λr hr=>.some λ_=>?_) λc=>absurd h4 c;rw[Jxd hr];have hf:J0V (l,x.2.2.1)=some i:=by unfold J0V;rw[show J1B ((l,x.2.2.1).1,(l,x.2.2.1).2)=some i from hi];rfl
  exact⟨i,(JBQ g (JnM (x:=(t.1,3,x.1,0,t.2.2.2.2.1,[])) hs) _).trans hf,oo⟩
 exact h _ e c
theorem JeD{l:JO}(e:J02 l=some true):1<=l.1/\l.1<=1099511627776/\J0 l.2.1<=4096:=by
 have g:Par (J02 l) λy=>y=true->1<=l.1/\l.1<=1099511627776/\J0 l.2.1<=4096:=by unfold J02;exact .ltf (λ_=>.gtf (λ_=>.gtf (λ_=>λ_ _ _=>by omega) λ_=>.some nofun) λ_=>.some nofun) λ_=>.some nofun
 exact g _ e rfl
theorem JaZ{l:JO}{x:J2}{y:JfF}(e:J0v (l,x)=some y)(c:y.2.2=0):J02 l=some true/\J0 l.2.1<=4095/\y=((l.1,l.2.1++[(l.1+J0 l.2.1,x.2)],l.2.2),l.1+J0 l.2.1,0)/\Jx (l.1+J0 l.2.1,x.2)=some true:=by
 have j:Par (J0v (l,x)) λy=>y.2.2=0->J02 l=some true/\J0 l.2.1<=4095/\y=((l.1,l.2.1++[(l.1+J0 l.2.1,x.2)],l.2.2),l.1+J0 l.2.1,0)/\Jx (l.1+J0 l.2.1,x.2)=some true:=by
  unfold J0v;dsimp only;refine .bind λa ha=>.not (λ_=>.some nofun) λw=>.eqf (λC=>.bind λB h3=>.eq (λ_=>.some nofun) λ_=>.bind λk h4=>.bind λb hb=>.not (λ_=>.some nofun) λc3=>.bind λz h=>.bind λn g=>.some λ_=>?_) λ_=>.some nofun;subst w;subst c3;have q:=JeD ha;have:=J4 (l:=l.2.1);have:=Jb l.1 (J0 l.2.1);have:=J0o (J1 .i64 l.1 (J0 l.2.1)) 1;have:=Jb (JI .i64 (J1 .i64 l.1 (J0 l.2.1)) 1) 1;have A:k=JI .i64 (J1 .i64 l.1 (J0 l.2.1)) 1:=by unfold J1X at h4;injection h4 with h4;exact h4.symm
  have o:J1 .i64 k 1=l.1+J0 l.2.1:=by rw[A];omega
  rw[o]at hb g⊢;have v:z=l.2.1:=by
   unfold J2l at h;split at h
   ·injection h with h;exact h.symm
   ·cases h
  subst v;have r:n=l.2.1++[(l.1+J0 l.2.1,x.2)]:=by
   unfold JA at g;split at g
   ·injection g with g;exact g.symm
   ·cases g
  subst r;exact⟨ha,oo,rfl,hb⟩
 exact j _ e c
theorem Jj9{l:JO}{n:Int}{y:Jg1}(e:J0x (l,n)=some y):(y.2=0/\J02 l=some true/\l.1<=n/\n<l.1+J0 l.2.1/\l.2.1[(n-l.1).toNat]?=some y.1)\/(y.1.1=0/\ ¬y.2=0):=by
 have g:Par (J0x (l,n)) λy=>(y.2=0/\J02 l=some true/\l.1<=n/\n<l.1+J0 l.2.1/\l.2.1[(n-l.1).toNat]?=some y.1)\/(y.1.1=0/\ ¬y.2=0):=by
  unfold J0x;dsimp only;refine .bind λa ha=>.not (λ_=>.some (.inr ⟨rfl,by decide⟩)) λo=>.ltf (λv=>.bind λk h3=>.gt (λ_=>.some (.inr ⟨rfl,by decide⟩)) λc3=>.bind λz hz=>.some ?_) λ_=>.some (.inr ⟨rfl,by decide⟩);subst o;have q:=JeD ha;have:=J4 (l:=l.2.1);have:=Jb l.1 (J0 l.2.1);have:=J0o (J1 .i64 l.1 (J0 l.2.1)) 1;have:=J0o n l.1;have w:k=JI .i64 (J1 .i64 l.1 (J0 l.2.1)) 1:=by unfold J1X at h3;injection h3 with h3;exact h3.symm
  obtain⟨r,h⟩:=J0G hz;have j:JI .i64 n l.1=n-l.1:=by omega
  rw[j]at h;exact .inl ⟨rfl,ha,oo,oo,h⟩
 exact g _ e
theorem Jgu{x:J2}(e:Jx x=some true):1<=x.1/\(x.2.1=4->1<=x.2.2.1):=by
 have k1:Par (J27 x) λy=>y.2=true->x.2.1=4->1<=x.2.2.1:=by unfold J27;refine .eq (λc _ _ _ _=>by omega) λ_=>.eq (λc _ _ _ _=>by omega) λ_=>.eq (λc _ _ _ _=>by omega) λ_=>.eq (λ_=>.ge (λc _ _ _ _=>c) λ_=>.some nofun) λc _ _ _ d=>absurd d c
 have g:Par (Jx x) λy=>y=true->1<=x.1/\(x.2.1=4->1<=x.2.2.1):=by unfold Jx;exact .bind λa ha=>.ite (λj=>.ite (λ_=>.ge (λh _ _ _=>⟨h,k1 _ ha j⟩) λ_=>.some nofun) λ_=>.some nofun) λ_=>.some nofun
 exact g _ e rfl
theorem Jlc{l:List Jo}{x:J2}{y:J2z}(e:J0A (l,x)=some y)(c:y.2=0):Jx x=some true:=by
 have g:Par (J0A (l,x)) λy=>y.2=0->Jx x=some true:=by unfold J0A;dsimp only;refine .bind λ_ _=>.not (λ_=>.some nofun) λ_=>.bind λa ha=>.not (λ_=>.some nofun) λc=>?_;subst c;exact λ_ _ _=>ha
 exact g _ e c
theorem Jzp{l:JO}{x:J2}{e:JfF}{h:Jg1}{k:List Jo}{j:J2z}(w:J0v (l,x)=some e)(r:e.2.2=0)(q:J0x (e.1,e.2.1)=some h)(o:J0A (k,h.1)=some j)(n:j.2=0):h.1=(l.1+J0 l.2.1,x.2):=by
 obtain⟨a1,a2,a3,a4⟩:=JaZ w r;subst a3;have v:=Jgu (Jlc o n);rcases Jj9 q with⟨_,_,_,_,g⟩|⟨g,_⟩
 ·dsimp only at g;rw[show(l.1+J0 l.2.1-l.1).toNat=l.2.1.length by unfold J0;omega,Jd3 (zQ0 _)]at g;simp at g;exact g.symm
 ·omega
theorem Jj5{x:Jok}{y:J6Z}(h:zFt B S Jt3 x)(e:J0Q x=some y)(c:y.2.2=0)(h4:x.2.2.1=4:=by rfl):Has y.1.2.2.2.2.2.1 x.2.2.2.1:=by
 have I:Par (J0Q x) λy=>y.2.2=0->Has y.1.2.2.2.2.2.1 x.2.2.2.1:=by
  obtain⟨k,n,L,H,Q,O,r⟩:=x;dsimp only at h4;subst h4;unfold J0Q;dsimp only;have E: ∀{a b:Int} {g:JfF} {C:Jg1} {o:J2z},J0v (k.2.2.1,(n,4,H,a,b,r))=some g->g.2.2=0->J0x (g.1,g.2.1)=some C->J0A (k.2.2.2.2.2.1,C.1)=some o->o.2=0->Has o.1 H:=fun{a b g C o} A z F D q=>by have G:=Jzp A z F D q;have v:=Jgu (JaZ A z).2.2.2;have v2:=v.2 rfl;have w:=JwM D (by rw[G]) (by rw[G];show¬H=0;dsimp only at v2;omega) q;rw[G]at w;exact w
  refine .bind λ_ _=>.not (λ_=>.some nofun) λ_=>.gt (λ_=>.bind λj hj=>.lt (λ_=>.some nofun) λ_=>.bind λt P=>.bind λJ _=>.ite (λ_=>.bind λK _=>?_) λ_=>?_) λ_=>.bind λJ _=>.ite (λ_=>.bind λK _=>?_) λ_=>?_
  all_goals
   refine .bind λg A=>.ne (λc=>.some λd=>absurd d c) λz=>.bind λC F=>.bind λo D=>.ne (λc=>.some λd=>absurd d c) λq=>.bind λM _=>.ne (λc=>.some λd=>absurd d c) λN=>.some λ_=>E A z F D q
 exact I _ e c
end
theorem JW{B S:Int}{x1:J0I}(h:zFt B S JB x1)(E:BS B S 0 0:=by omega)(G:S<=4611686018427387895:=by omega):Tot (JN x1) λy=>zFt 0 (S+8) .s y/\(J0 y<=J0 x1.1+8/\(1<=x1.2.2->x1.2.2<=8->J0 y=J0 x1.1+x1.2.2)):=by
 unfold JN;have s0:zFt 0 S JB x1:=h;have:=J3.1 s0.2.2;refine .ltf (λx=>?_) λx=>?_
 ·refine .gt (λc3=>?_) λc3=>?_
  ·have:J0 x1.1<=S:=s0.1;exact .some ⟨(s0.1.u),om⟩
  ·refine Jf (τ:=J4h) (λq=>(q.1,x1.2.1,x1.2.2,q.2)) (λq=>zFt 0 (S+8) .s q.1/\zFt 0 0 zI q.2/\(0<=q.2)/\(q.2<=x1.2.2)/\(J0 q.1=J0 x1.1+q.2)) (λq=>x1.2.2-q.2) ?_ (x1.1,0) rfl ?_
   ·rintro⟨n,e⟩ j;dsimp only at j;obtain⟨r,w,F,z9,A⟩:=j;unfold Jbn
    try dsimp only
    have:=J3.1 w;have:J0 n<=(S+8):=r;have:J0 x1.1<=S:=s0.1;have:=J4 (l:=x1.1);refine .lt (λv=>?_) λv=>?_
    ·have:=cvu .u64 (J2r .i64 8 e);refine .bind (Jv5 (B:=0) (S:=0) (Jd5) oo) λk C=>?_;have:J0 (toStr [cvI .u8 k])=J0 [cvI .u8 k]:=J8f;have:J0 [cvI .u8 k]=1:=rfl;refine .bind (J6U) λg z=>?_;have D:zFt 0 (S+9) .s g:=(by omega:J0 g<=(S+9));have o:zFt 0 (S+8) .s g:=(by omega:J0 g<=(S+8));have:=Jb e 1;exact .some ⟨(g,J1 .i64 e 1),rfl,⟨o,J8,om,om,om⟩,om,om⟩
    ·exact .some ⟨r,om⟩
   ·have:J0 x1.1<=S:=s0.1
    try dsimp only
    exact⟨s0.1.u,fk0,om,om,om⟩
 ·have:J0 x1.1<=S:=s0.1;exact .some ⟨(s0.1.u),om⟩
theorem Jn4{B S:Int}{x1:List T_api_Row}(h:zFt B S (.l Jd) x1)(T:BC B S 0 0:=by omega):Tot (J4a x1) λy=>zFt 0 1544 Jbp y:=by
 unfold J4a;refine .bind ((J5O h).eqn) λY h1=>.not (λH=>?_) λH=>?_
 ·exact .some (⟨Je,fkn 28⟩)
 ·have v3:=J4I h h1.2 H;have:J0 x1=_:=Jk h;have v:zFt 64 0 (.l Jd) x1:=v3.2;refine .bind (JW (B:=0) (S:=0) (⟨Je,J4o v.1 oo,fkn 2⟩)) λn O=>?_;have h10:zFt 0 8 .s n:=O.1.u;have:J0 n<=8:=h10;have:=J4 (l:=n);refine Jf (τ:=J4h) (λq=>(q.1,q.2,x1)) (λq=>(zFt 0 0 zI q.2/\0<=q.2/\(q.2<=J0 x1\/q.2<=0))/\(zFt 0 1544 .s q.1/\J0 q.1<=24*q.2+J0 n)) (λq=>J0 x1-q.2) ?_ (n,0) rfl ?_
  ·rintro⟨k,r⟩ x;dsimp only at x;obtain⟨⟨D,R,Q⟩,o,P⟩:=x;unfold J9r
   try dsimp only
   have:=J3.1 D;refine .lt (λJ=>?_) λJ=>?_
   ·refine .bind (Jh v) λV G=>.bind (JW (B:=0) (S:=1544) (⟨o,G.1.1,fkn 8⟩)) λj w=>?_;have N:zFt 0 1552 .s j:=w.1.u;have:J0 j<=1552:=N;have:=J4 (l:=j);have:J0 k<=1544:=o;have:=J4 (l:=k);have:J0 j<=J0 k+8/\(1<=(8:Int)->(8:Int)<=8->J0 j=J0 k+(8:Int)):=w.2;have I:zFt 0 1544 .s j:=(by omega:J0 j<=1544);refine .bind (Jh v) λU F=>.bind (JW (B:=0) (S:=1544) (⟨I,F.1.2.1,fkn 8⟩)) λg z=>?_;have E:zFt 0 1552 .s g:=z.1.u;have:J0 g<=1552:=E;have:=J4 (l:=g);have:J0 g<=J0 j+8/\(1<=(8:Int)->(8:Int)<=8->J0 g=J0 j+(8:Int)):=z.2;have C:zFt 0 1544 .s g:=(by omega:J0 g<=1544);refine .bind (Jh v) λW M=>.bind (JW (B:=0) (S:=1544) (⟨C,M.1.c,fkn 8⟩)) λe A=>?_;have K:zFt 0 1552 .s e:=A.1.u;have:J0 e<=1552:=K;have:=J4 (l:=e);have:J0 e<=J0 g+8/\(1<=(8:Int)->(8:Int)<=8->J0 e=J0 g+(8:Int)):=A.2;have L:zFt 0 1544 .s e:=(by omega:J0 e<=1544);have:=Jb r 1;exact .some ⟨(e,J1 .i64 r 1),rfl,⟨⟨J8,om,om⟩,L,om⟩,om,om⟩
   ·exact .some (⟨o,fk0⟩)
  ·try dsimp only
   exact⟨⟨fk0,oo,oo⟩,h10.u,oo⟩
theorem Je3{B S:Int}{x1:(List UInt8)×(List Int)}(h:zFt B S (.pr .s (.l zI)) x1)(C:BS B S 0 0:=by omega)(H:B<=288230376151711743:=by omega)(G:S<=2305843009213693947:=by omega):Tot (J68 x1) λy=>zFt 0 (8*B+S) .s y/\(J0 y<=J0 x1.1+8*J0 x1.2):=by
 unfold J68;have:J0 x1.2<=B:=h.2.1;have:=J4 (l:=x1.2);have:J0 x1.1<=S:=h.1.z;refine Jf (τ:=J4h) (λq=>(q.1,x1.2,q.2)) (λq=>(zFt 0 0 zI q.2/\0<=q.2/\(q.2<=J0 x1.2\/q.2<=0))/\(zFt 0 (8*B+S) .s q.1/\J0 q.1<=8*q.2+J0 x1.1)) (λq=>J0 x1.2-q.2) ?_ (x1.1,0) rfl ?_
 ·rintro⟨g,j⟩ n;dsimp only at n;obtain⟨⟨A,E,D⟩,o,I⟩:=n;unfold JbI
  try dsimp only
  have:=J3.1 A;refine .lt (λx=>?_) λx=>?_
  ·refine .bind (Jh h.2) λF v=>.bind (JW (B:=0) (S:=(8*B+S)) (⟨o,v.1,fkn 8⟩)) λe k=>?_;have r:zFt 0 (8*B+S+8) .s e:=k.1.u;have:J0 e<=(8*B+S+8):=r;have:J0 e<=J0 g+8/\(1<=(8:Int)->(8:Int)<=8->J0 e=J0 g+(8:Int)):=k.2;have w:zFt 0 (8*B+S) .s e:=(by omega:J0 e<=(8*B+S));have:=Jb j 1;exact .some ⟨(e,J1 .i64 j 1),rfl,⟨⟨J8,om,om⟩,w,om⟩,om,om⟩
  ·have:J0 g<=(8*B+S):=o;exact .some ⟨o,om⟩
 ·try dsimp only
  exact⟨⟨fk0,oo,oo⟩,h.1.z.u,oo⟩
end Go.Am
end
section
namespace Go.Am
set_option linter.unusedVariables false
set_option maxRecDepth 20000
set_option maxHeartbeats 4000000
theorem Jnj{B S:Int}{x1:List Jo}(h:zFt B S (.l Jm) x1)(af:BC B S 0 0:=by omega):Tot (J8j x1) λy=>zFt 0 268632072 Jbp y:=by
 unfold J8j;refine .bind ((J3R h).eqn) λy2 h1=>.not (λW=>?_) λW=>?_
 ·exact .some (⟨Je,fkn 15⟩)
 ·have v3:=J2W h h1.2 W;have:=J4 (l:=x1);have:J0 x1=_:=Jk h;have h8:zFt 4096 0 (.l Jm) x1:=v3.2;refine .bind (JW (B:=0) (S:=0) (⟨Je,J4o h8.1 oo,fkn 2⟩)) λD h9=>?_;have h10:zFt 0 8 .s D:=h9.1.u;have:J0 D<=8:=h10;have:=J4 (l:=D);refine Jf (τ:=J4h) (λq=>(x1,q.1,q.2)) (λq=>(zFt 0 0 zI q.2/\0<=q.2/\(q.2<=J0 x1\/q.2<=0))/\(zFt 0 268632072 .s q.1/\J0 q.1<=65584*q.2+J0 D)) (λq=>J0 x1-q.2) ?_ (D,0) rfl ?_
  ·rintro⟨A,E⟩ L;dsimp only at L;obtain⟨⟨R,ae,ad⟩,F,ac⟩:=L;unfold JcR
   try dsimp only
   have:=J3.1 R;refine .lt (λa1=>?_) λa1=>?_
   ·refine .bind (Jh h8) λC j=>.bind (JW (B:=0) (S:=268632072) (⟨F,j.1.1,fkn 4⟩)) λx H=>?_;have aa:zFt 0 268632080 .s x:=H.1.u;have:J0 x<=268632080:=aa;have:=J4 (l:=x);have:J0 A<=268632072:=F;have:=J4 (l:=A);have:J0 x<=J0 A+8/\(1<=(4:Int)->(4:Int)<=8->J0 x=J0 A+(4:Int)):=H.2;have Y:zFt 0 268632072 .s x:=(by omega:J0 x<=268632072);refine .bind (JW (B:=0) (S:=268632072) (⟨Y,j.1.2.1,fkn 1⟩)) λv J=>?_;have a6:zFt 0 268632080 .s v:=J.1.u;have:J0 v<=268632080:=a6;have:=J4 (l:=v);have:J0 v<=J0 x+8/\(1<=(1:Int)->(1:Int)<=8->J0 v=J0 x+(1:Int)):=J.2;have P:zFt 0 268632072 .s v:=(by omega:J0 v<=268632072);refine .bind (JW (B:=0) (S:=268632072) (⟨P,j.1.c.1,fkn 8⟩)) λw G=>?_;have a7:zFt 0 268632080 .s w:=G.1.u;have:J0 w<=268632080:=a7;have:=J4 (l:=w);have:J0 w<=J0 v+8/\(1<=(8:Int)->(8:Int)<=8->J0 w=J0 v+(8:Int)):=G.2;have a5:zFt 0 268632072 .s w:=(by omega:J0 w<=268632072);refine .bind (JW (B:=0) (S:=268632072) (⟨a5,j.1.d.1,fkn 8⟩)) λz K=>?_;have a3:zFt 0 268632080 .s z:=K.1.u;have:J0 z<=268632080:=a3;have:=J4 (l:=z);have:J0 z<=J0 w+8/\(1<=(8:Int)->(8:Int)<=8->J0 z=J0 w+(8:Int)):=K.2;have a4:zFt 0 268632072 .s z:=(by omega:J0 z<=268632072);refine .bind (JW (B:=0) (S:=268632072) (⟨a4,J4o j.1.e.1.1 oo,fkn 2⟩)) λk I=>?_;have a8:zFt 0 268632080 .s k:=I.1.u;have:J0 k<=268632080:=a8;have:=J4 (l:=k);have:J0 k<=J0 z+8/\(1<=(2:Int)->(2:Int)<=8->J0 k=J0 z+(2:Int)):=I.2;have a2:zFt 0 268632072 .s k:=(by omega:J0 k<=268632072);refine .bind (Je3 (B:=4096) (S:=268632072) (⟨a2.u,j.1.e.1.u⟩)) λo O=>?_;have Z:zFt 0 268664840 .s o:=O.1.u;have:J0 o<=268664840:=Z;have:=J4 (l:=o);have:J0 C.2.2.2.2.1<=4096:=j.1.e.1.1;have:=J4 (l:=C.2.2.2.2.1);have:J0 o<=J0 k+8*J0 C.2.2.2.2.1:=O.2;have T:zFt 0 268632072 .s o:=(by omega:J0 o<=268632072);refine .bind (JW (B:=0) (S:=268632072) (⟨T,J4o j.1.g.1 oo,fkn 1⟩)) λn N=>?_;have V:zFt 0 268632080 .s n:=N.1.u;have:J0 n<=268632080:=V;have:=J4 (l:=n);have:J0 n<=J0 o+8/\(1<=(1:Int)->(1:Int)<=8->J0 n=J0 o+(1:Int)):=N.2;have U:zFt 0 268632072 .s n:=(by omega:J0 n<=268632072);refine .bind (Je3 (B:=4096) (S:=268632072) (⟨U.u,j.1.g.u⟩)) λr M=>?_;have a9:zFt 0 268664840 .s r:=M.1.u;have:J0 r<=268664840:=a9;have:=J4 (l:=r);have:J0 C.2.2.2.2.2<=4096:=j.1.g.1;have:=J4 (l:=C.2.2.2.2.2);have:J0 r<=J0 n+8*J0 C.2.2.2.2.2:=M.2;have Q:zFt 0 268632072 .s r:=(by omega:J0 r<=268632072);have:=Jb E 1;exact .some ⟨(r,J1 .i64 E 1),rfl,⟨⟨J8,om,om⟩,Q,om⟩,om,om⟩
   ·exact .some (⟨F,fk0⟩)
  ·try dsimp only
   exact⟨⟨fk0,oo,oo⟩,h10.u,oo⟩
theorem JgK{B S:Int}{x1:J0M}(h:zFt B S J1d x1)(K:BG B S:=by omega):Tot (J24 x1) λy=>zFt 0 0 .b y:=by
 unfold J24;refine .ltf (λC=>?_) λC=>?_
 ·refine .gtf (λc3=>?_) λc3=>?_
  ·have:=J3.1 h.2.1;refine .ltf (λE=>?_) λE=>?_
   ·refine .gtf (λD=>?_) λD=>?_
    ·refine .bind ((J3R h.c.1).eqn) λO A=>.nof (λr=>?_) λr=>?_
     ·have v9:=J2W h.c.1 A.2 r;have:=J4 (l:=x1.2.2.1);have:J0 x1.2.2.1=_:=Jk h.c.1;have n:zFt 4096 0 (.l Jm) x1.2.2.1:=v9.2;refine .bind (Jbj (B:=B) (S:=S) (⟨h.d.1,h.1⟩)) λL G=>.nof (λz=>?_) λz=>?_
      ·refine .bind ((J5O h.e).eqn) λN w=>.nof (λj=>?_) λj=>?_
       ·have H:=J4I h.e w.2 j;refine .ne (λo=>?_) λo=>?_
        ·exact .some trivial
        ·refine Jf (τ:=Int) (λq=>(q,x1)) (λq=>(zFt 0 0 zI q/\0<=q/\(q<=J0 x1.2.2.1\/q<=0))) (λq=>J0 x1.2.2.1-q) ?_ 0 rfl ?_
         ·rintro g ⟨x,F,I⟩;unfold JdF
          try dsimp only
          have:=J3.1 x;refine .lt (λk=>?_) λk=>?_
          ·refine .bind (Jh n) λM J=>.ge (λv=>?_) λv=>?_
           ·exact .some trivial
           ·have:=Jb g 1;exact .some ⟨J1 .i64 g 1,rfl,⟨J8,om,om⟩,om,om⟩
          ·exact .some trivial
         ·try dsimp only
          exact⟨fk0,oo,oo⟩
       ·exact .some trivial
      ·exact .some trivial
     ·exact .some trivial
    ·exact .some trivial
   ·exact .some trivial
  ·exact .some trivial
 ·exact .some trivial
theorem Jom{B S:Int}{x1:J0M}(h:zFt B S J1d x1)(ad:BH B S:=by omega)(hB:B<=192153584089948094:=by omega):Tot (J42 x1) λy=>zFt 0 (24*B+268633648) Jbp y:=by
 unfold J42;refine .bind (JgK h) λy2 h1=>.not (λc2=>?_) λc2=>?_
 ·exact .some (⟨Je,fkn 24⟩)
 ·refine .bind (Jnj h.c.1) λL h3=>.bind (JW (B:=0) (S:=0) (⟨Je,h.1,fkn 2⟩)) λy4 h4=>?_;have h5:zFt 0 8 .s y4:=h4.1.u;refine .bind (JW (B:=0) (S:=8) (⟨h5,h.2.1,fkn 4⟩)) λy5 h9=>?_;have h10:zFt 0 16 .s y5:=h9.1.u;refine .bind (JW (B:=0) (S:=16) (⟨h10,J4o h3.1 oo,fkn 4⟩)) λF J=>?_;have M:zFt 0 24 .s F:=J.1.u;have:J0 F<=24:=M;have:=J4 (l:=F);have:J0 L.1<=268632072:=h3.1;have:=J4 (l:=L.1);refine .bind (J6U) λG a5=>?_;have H:zFt 0 268632096 .s G:=(by omega:J0 G<=268632096);refine .bind (JW (B:=0) (S:=268632096) (⟨H,J4o h.d.1.1 oo,fkn 1⟩)) λo P=>?_;have v:zFt 0 268632104 .s o:=P.1.u;have:J0 o<=268632104:=v;have:=J4 (l:=o);have:J0 x1.2.2.2.1<=B:=h.d.1.1;have:=J4 (l:=x1.2.2.2.1);have:J0 x1.2.2.2.1=_:=Jk h.d.1;refine Jf (τ:=J4h) (λq=>(q.1,q.2,x1)) (λq=>(zFt 0 0 zI q.2/\0<=q.2/\(q.2<=J0 x1.2.2.2.1\/q.2<=0))/\(zFt 0 (24*B+268632104) .s q.1/\J0 q.1<=24*q.2+J0 o)) (λq=>J0 x1.2.2.2.1-q.2) ?_ (o,0) rfl ?_
  ·rintro⟨n,r⟩ C;dsimp only at C;obtain⟨⟨a0,a9,a7⟩,w,a8⟩:=C;unfold J9t
   try dsimp only
   have:=J3.1 a0;refine .lt (λY=>?_) λY=>?_
   ·refine .bind (Jh h.d.1) λa6 R=>.bind (JW (B:=0) (S:=(24*B+268632104)) (⟨w,R.1.1,fkn 1⟩)) λj z=>?_;have Q:zFt 0 (24*B+268632112) .s j:=z.1.u;have:J0 j<=(24*B+268632112):=Q;have:J0 j<=J0 n+8/\(1<=(1:Int)->(1:Int)<=8->J0 j=J0 n+(1:Int)):=z.2;have V:zFt 0 (24*B+268632104) .s j:=(by omega:J0 j<=(24*B+268632104));refine .bind (Jh h.d.1) λab U=>.bind (JW (B:=0) (S:=(24*B+268632104)) (⟨V,U.1.2.1,fkn 8⟩)) λg A=>?_;have Z:zFt 0 (24*B+268632112) .s g:=A.1.u;have:J0 g<=(24*B+268632112):=Z;have:J0 g<=J0 j+8/\(1<=(8:Int)->(8:Int)<=8->J0 g=J0 j+(8:Int)):=A.2;have O:zFt 0 (24*B+268632104) .s g:=(by omega:J0 g<=(24*B+268632104));refine .bind (Jh h.d.1) λaa I=>.bind (JW (B:=0) (S:=(24*B+268632104)) (⟨O,I.1.c,fkn 8⟩)) λk E=>?_;have K:zFt 0 (24*B+268632112) .s k:=E.1.u;have:J0 k<=(24*B+268632112):=K;have:J0 k<=J0 g+8/\(1<=(8:Int)->(8:Int)<=8->J0 k=J0 g+(8:Int)):=E.2;have N:zFt 0 (24*B+268632104) .s k:=(by omega:J0 k<=(24*B+268632104));have:=Jb r 1;exact .some ⟨(k,J1 .i64 r 1),rfl,⟨⟨J8,om,om⟩,N,om⟩,om,om⟩
   ·refine .inr ?_;refine .bind (Jn4 h.e) λD W=>?_;have:J0 n<=(24*B+268632104):=w;have:=J4 (l:=n);have:J0 D.1<=1544:=W.1;have:=J4 (l:=D.1);refine .bind (J6U) λx ac=>?_;have T:zFt 0 (24*B+268633648) .s x:=(by omega:J0 x<=(24*B+268633648));exact .some (⟨T,fk0⟩)
  ·try dsimp only
   exact⟨⟨fk0,oo,oo⟩,v.u,oo⟩
theorem Jgo{B S:Int}{x1:JF}(h:zFt B S JM x1)(K:BC B S 0 0:=by omega):Tot (J3q x1) λy=>zFt 64 0 (.l Jd) y:=by
 unfold J3q;refine .bind ((J3Q h).eqn) λO h1=>.not (λx=>?_) λx=>?_
 ·exact .some Jc
 ·have v3:=J2Z h h1.2 x;have:J0 x1.2.1=_:=Jk h.2.1;have h10:zFt 64 12 JM x1:=v3.2;refine Jf (τ:=Jeb) (λq=>(q.1,x1,q.2)) (λq=>(zFt 0 0 zI q.1/\0<=q.1/\(q.1<=64\/q.1<=0))/\(zFt 64 0 (.l Jd) q.2/\J0 q.2<=1*q.1+0)) (λq=>64-q.1) ?_ (0,[]) rfl ?_
  ·rintro⟨g,e⟩ n;dsimp only at n;obtain⟨⟨k,I,H⟩,j,J⟩:=n;unfold J9U
   try dsimp only
   have:=J3.1 k;refine .lt (λv=>?_) λv=>?_
   ·refine .bind (J5w (B:=64) (S:=12) (⟨h10,k⟩)) λD F=>?_;have: -1<=D/\D<J0 x1.2.1:=F.2;refine .ge (λE=>?_) λE=>?_
    ·refine .bind (Jh h10.2.1) λM G=>.ite (λC=>?_) λC=>?_
     ·refine .bind (Jh h10.2.1) λN A=>.bind (Jh h10.2.1) λL r=>?_;have:J0 e<=64:=j.1;have:=J4 (l:=e);have:J0 e=_:=Jk j;refine .bind (J0u (B:=64) (Bl:=64) (Bm:=1) (S:=0) (J0 e) 1 j (J0j (B:=1) (S:=0) (t:=Jd) oo (⟨k,A.1.z.2.2.1,r.1.z.1.2.1⟩))) λw o=>?_;have:=Jb g 1;have:J0 w=_:=Jk o.1;exact .some ⟨(J1 .i64 g 1,w),rfl,⟨⟨J8,om,om⟩,o.1,om⟩,om,om⟩
     ·have:=Jb g 1;have:J0 e=_:=Jk j;exact .some ⟨(J1 .i64 g 1,e),rfl,⟨⟨J8,om,om⟩,j,om⟩,om,om⟩
    ·have:=Jb g 1;have:J0 e=_:=Jk j;exact .some ⟨(J1 .i64 g 1,e),rfl,⟨⟨J8,om,om⟩,j,om⟩,om,om⟩
   ·exact .some j
  ·have:J0 ([]:List T_api_Row)=0:=rfl
   try dsimp only
   exact⟨⟨fk0,oo,oo⟩,Jc,oo⟩
theorem JAp{B S:Int}{x1:J5}(h:zFt B S J9 x1)(ac:BG B S:=by omega):Tot (J6W x1) λy=>zFt 4160 8192 (.pr J1d zI) y:=by
 unfold J6W;refine .bind ((J1m h).eqn) λy2 h1=>.not (λY=>?_) λY=>?_
 ·exact .some (⟨fzr,fkn 15⟩)
 ·have v3:=J1w h h1.2 Y;have:J0 x1.2.2.2.2.2.2.1=_:=Jk h.h.1;have x:zFt 4096 8192 J9 x1:=v3.2;refine Jf (τ:=Jeb) (λq=>(q.1,x1,[],0,0,[],[],q.2,[],x1.1,x1.2.1,x1.2.2.2.2.2.1,x1.2.2.2.2.2.2.1)) (λq=>(zFt 0 0 zI q.1/\0<=q.1/\(q.1<=x1.1\/q.1<=0))/\(zFt 4160 0 (.l Jd) q.2/\J0 q.2<=65*q.1+0)) (λq=>x1.1-q.1) ?_ (0,[]) rfl ?_
  ·rintro⟨n,k⟩ F;dsimp only at F;obtain⟨⟨J,a4,a9⟩,z,a3⟩:=F;unfold Jct
   try dsimp only
   have:=J3.1 J;refine .lt (λQ=>?_) λQ=>?_
   ·refine .bind (J9b (B:=4096) (S:=8192) (⟨x,J⟩)) λy4 V=>.ite (λO=>?_) λO=>?_
    ·have:J0 k<=4160:=z.1;have:=J4 (l:=k);have:J0 k=_:=Jk z;refine .bind (J0u (B:=4160) (Bl:=4160) (Bm:=1) (S:=0) (J0 k) 1 z (J0j (B:=1) (S:=0) (t:=Jd) oo V.1)) λN I=>.bind (Jgo x.d.1) λC E=>?_;have:J0 C<=64:=E.1;have:=J4 (l:=C);have:J0 C=_:=Jk E;have:J0 N=_:=Jk I.1;refine Jf (τ:=Jeb) (λq=>(n,C,J0 C,q.1,x1,[],0,0,[],[],q.2,[],x1.1,x1.2.1,x1.2.2.2.2.2.1,x1.2.2.2.2.2.2.1)) (λq=>(zFt 0 0 zI q.1/\0<=q.1/\(q.1<=J0 C\/q.1<=0))/\(zFt 4160 0 (.l Jd) q.2/\J0 q.2<=1*q.1+J0 N)) (λq=>J0 C-q.1) ?_ (0,N) rfl ?_
     ·rintro⟨A,j⟩ L;dsimp only at L;obtain⟨⟨W,a7,a5⟩,w,aa⟩:=L;unfold J87
      try dsimp only
      have:=J3.1 W;refine .lt (λR=>?_) λR=>?_
      ·refine .bind (Jh E) λy8 a1=>.eq (λZ=>?_) λZ=>?_
       ·have:J0 j<=4160:=w.1;have:=J4 (l:=j);have:J0 j=_:=Jk w;refine .bind (J0u (B:=4160) (Bl:=4160) (Bm:=1) (S:=0) (J0 j) 1 w (J0j (B:=1) (S:=0) (t:=Jd) oo a1.1)) λy9 M=>?_;have:=Jb A 1;have:J0 y9=_:=Jk M.1;exact .some ⟨(J1 .i64 A 1,y9),rfl,⟨⟨J8,om,om⟩,M.1,om⟩,om,om⟩
       ·have:=Jb A 1;have:J0 j=_:=Jk w;exact .some ⟨(J1 .i64 A 1,j),rfl,⟨⟨J8,om,om⟩,w,om⟩,om,om⟩
      ·have:=Jb n 1;have:J0 j=_:=Jk w;exact .some ⟨(J1 .i64 n 1,j),rfl,⟨⟨J8,om,om⟩,w,om⟩,om,om⟩
     ·try dsimp only
      exact⟨⟨fk0,oo,oo⟩,I.1,oo⟩
    ·refine .bind (Jgo x.d.1) λr D=>?_;have:J0 r<=64:=D.1;have:=J4 (l:=r);have:J0 r=_:=Jk D;have:J0 k=_:=Jk z;refine Jf (τ:=Jeb) (λq=>(n,r,J0 r,q.1,x1,[],0,0,[],[],q.2,[],x1.1,x1.2.1,x1.2.2.2.2.2.1,x1.2.2.2.2.2.2.1)) (λq=>(zFt 0 0 zI q.1/\0<=q.1/\(q.1<=J0 r\/q.1<=0))/\(zFt 4160 0 (.l Jd) q.2/\J0 q.2<=1*q.1+J0 k)) (λq=>J0 r-q.1) ?_ (0,k) rfl ?_
     ·rintro⟨o,e⟩ G;dsimp only at G;obtain⟨⟨a2,ad,a8⟩,v,ab⟩:=G;unfold JcD
      try dsimp only
      have:=J3.1 a2;refine .lt (λP=>?_) λP=>?_
      ·refine .bind (Jh D) λa6 U=>.eq (λT=>?_) λT=>?_
       ·have:J0 e<=4160:=v.1;have:=J4 (l:=e);have:J0 e=_:=Jk v;refine .bind (J0u (B:=4160) (Bl:=4160) (Bm:=1) (S:=0) (J0 e) 1 v (J0j (B:=1) (S:=0) (t:=Jd) oo U.1)) λH K=>?_;have:=Jb o 1;have:J0 H=_:=Jk K.1;exact .some ⟨(J1 .i64 o 1,H),rfl,⟨⟨J8,om,om⟩,K.1,om⟩,om,om⟩
       ·have:=Jb o 1;have:J0 e=_:=Jk v;exact .some ⟨(J1 .i64 o 1,e),rfl,⟨⟨J8,om,om⟩,v,om⟩,om,om⟩
      ·have:=Jb n 1;have:J0 e=_:=Jk v;exact .some ⟨(J1 .i64 n 1,e),rfl,⟨⟨J8,om,om⟩,v,om⟩,om,om⟩
     ·try dsimp only
      exact⟨⟨fk0,oo,oo⟩,z,oo⟩
   ·exact .some (⟨⟨x.1,x.2.1,x.g.1.u,z.u,x.h.1.u⟩,fk0⟩)
  ·have:J0 ([]:List T_api_Row)=0:=rfl
   try dsimp only
   exact⟨⟨fk0,oo,oo⟩,Jc,oo⟩
theorem JtC{B S:Int}{x1:J5}(h:zFt B S J9 x1)(r:BG B S:=by omega):Tot (J5C x1) λy=>zFt 16384 1073741824 Jks y:=by
 unfold J5C;refine .bind (JAp h) λq h1=>.ne (λn=>?_) λn=>?_
 ·exact .some (⟨fzr,fk0,h1.2⟩)
 ·have h5:zFt 16384 1073741824 J1d q.1:=h1.1.u;refine .bind (Jom h5) λe h4=>?_;have o:zFt 0 269026864 Jbp e:=h4.u;refine .gt (λk=>?_) λk=>?_
  ·exact .some (⟨fzr,fk0,fkn 21⟩)
  ·refine .bind ((J56 (B:=B) (S:=S) (x1:=(x1,0,6,0,0,0,0,(0,0,(false,[]),false,[]),e.1)) (⟨h,fk0,fkn 6,fk0,fk0,fk0,fk0,⟨fk0,fk0,⟨trivial,Je⟩,trivial,Je⟩,o.1.u⟩)).eqn) λw h10=>.ne (λj=>?_) λj=>?_
   ·exact .some (⟨fzr,fk0,h10.1.1.c⟩)
   ·refine .bind (J9e (B:=16384) (S:=1073741824) (⟨h10.1.1.1.c.1,h10.1.1.2.1⟩)) λv g=>.some (⟨⟨h10.1.1.1.1,h10.1.1.1.2.1,g.1.1.u,h10.1.1.1.d⟩,h10.1.1.2.1,fk0⟩)
theorem Jib{B S:Int}{x1:Jt}(h:zFt B S Jl x1)(g:BG B S:=by omega):Tot (J2R x1) λy=>zFt B S JBy y:=by
 unfold J2R;refine .bind (JtC h.1) λj h1=>.ne (λe=>?_) λe=>?_
 ·exact .some (⟨⟨fzr,Jc,fk0,Jc,trivial,Jc⟩,fk0,h1.c⟩)
 ·exact .some (⟨⟨h1.1.u,h.2⟩,h1.2.1,fk0⟩)
theorem J9g{B S:Int}{x1:J1E}(h:zFt B S tq1 x1)(j:BG B S:=by omega):Tot (J1v x1) λy=>zFt B S J9 y/\(J0 y.2.2.1.2.1=J0 x1.1.2.2.1.2.1):=by
 unfold J1v;refine .bind (J8g h.1.c.1) λk h1=>.bind (J9e (B:=B) (S:=S) (⟨h.1.c.1,JGD h.2 h1⟩)) λe h2=>?_;have:J0 e.1.2.1=_:=Jk h2.1.1.2.1;have:J0 x1.1.2.2.1.2.1=_:=Jk h.1.c.1.2.1;have:e.2=0->J0 e.1.2.1=J0 x1.1.2.2.1.2.1:=h2.2;refine .eq (λg=>?_) λg=>?_
 ·exact .some ⟨(⟨h.1.1,h.1.2.1,h2.1.1.u,h.1.d⟩),om⟩
 ·exact .some ⟨h.1,om⟩
theorem Jsa{B S:Int}{x1:J1E}(h:zFt B S tq1 x1)(z:BG B S:=by omega):Tot (J31 x1) λy=>zFt 16384 1073741824 (.pr J9 tq5) y/\(y.2.2=0->J0 y.1.2.2.1.2.1=J0 x1.1.2.2.1.2.1):=by
 unfold J31;refine .bind ((J1m h.1).eqn) λA h1=>.not (λv=>?_) λv=>?_
 ·have:J0 x1.1.2.2.1.2.1<=B:=h.1.c.1.2.1.1;exact .some ⟨(⟨fzr,⟨fk0,fk0,J0i oo oo (.ar 16 JG)⟩,fkn 15⟩),om⟩
 ·have x:=J1w h.1 h1.2 v;have:J0 x1.1.2.2.1.2.1=_:=Jk h.1.c.1.2.1;have k:zFt 4096 8192 J9 x1.1:=x.2;refine .bind (J90 (B:=4096) (S:=8192) (⟨k.d.1,h.2⟩)) λq w=>?_;have e:zFt 0 8192 (.pr Ju .b) q:=w.u;refine .not (λo=>?_) λo=>?_
  ·exact .some ⟨(⟨fzr,⟨fk0,fk0,J0i oo oo (.ar 16 JG)⟩,fkn 18⟩),om⟩
  ·have r:zFt 16384 1073741824 tq1 (x1.1,q.1.2.1):=⟨k.u,e.1.2.1⟩;refine .bind (J9g r) λn g=>?_;have j:zFt 16384 1073741824 J9 n:=g.1.u;have:J0 n.2.2.1.2.1=_:=Jk j.c.1.2.1;have:J0 n.2.2.1.2.1=J0 x1.1.2.2.1.2.1:=g.2;exact .some ⟨(⟨j,e.1.u,fk0⟩),om⟩
section
variable {B S:Int}
theorem JzX{x:J1E}{y:JFh}(h:zFt B S tq1 x)(e:J31 x=some y)(c:y.2.2=0):InP x.1.2.2.2.1 x.2:=by
 have g:Par (J31 x) λy=>y.2.2=0->InP x.1.2.2.2.1 x.2:=by unfold J31;refine .bind λa ha=>.not (λ_=>.some nofun) λ_=>.bind λb hb=>.not (λ_=>.some nofun) λc=>.bind λd hd=>.some λ_=>(Jem hb).1 c
 exact g _ e c
end
theorem Jb6{B S:Int}{x1:List UInt8}(h:zFt B S .s x1)(K:BS B S 0 0:=by omega)(P:S<=9223372036854775807:=by omega):Tot (J3m x1) λy=>zFt 0 0 (.i .u32) y:=by
 unfold J3m;have:J0 x1<=S:=h.z;have:=J4 (l:=x1);refine Jf (τ:=Int×Int) (λq=>(x1,q.1,q.2)) (λq=>(zFt 0 0 zI q.2/\0<=q.2/\(q.2<=J0 x1\/q.2<=0))/\zFt 0 0 (.i .u32) q.1) (λq=>J0 x1-q.2) ?_ (4294967295,0) rfl ?_
 ·rintro⟨r,g⟩ o;dsimp only at o;obtain⟨⟨G,N,M⟩,O⟩:=o;unfold JbG
  try dsimp only
  have:=J3.1 G;refine .lt (λC=>?_) λC=>?_
  ·refine .bind (JAA (l:=x1)) λD I=>Jf (τ:=Int×Int) (λq=>(x1,q.1,g,q.2)) (λq=>(zFt 0 0 zI q.2/\0<=q.2/\(q.2<=8\/q.2<=0))/\zFt 0 0 (.i .u32) q.1) (λq=>8-q.2) ?_ (Jeu .u32 r (cvI .u32 D),0) rfl ?_
   ·rintro⟨k,e⟩ n;dsimp only at n;obtain⟨⟨v,J,H⟩,j⟩:=n;unfold Jbx
    try dsimp only
    have:=J3.1 v;refine .lt (λx=>?_) λx=>?_
    ·have:=JKm k 1;refine .eq (λA=>?_) λA=>?_
     ·refine .bind (Jv5 j oo) λE L=>?_;have:=Jb e 1;exact .some ⟨(Jeu .u32 E 2197175160,J1 .i64 e 1),rfl,⟨⟨J8,om,om⟩,JyM⟩,om,om⟩
     ·refine .bind (Jv5 j oo) λF w=>?_;have:=Jb e 1;exact .some ⟨(F,J1 .i64 e 1),rfl,⟨⟨J8,om,om⟩,w⟩,om,om⟩
    ·have:=Jb g 1;exact .some ⟨(k,J1 .i64 g 1),rfl,⟨⟨J8,om,om⟩,j⟩,om,om⟩
   ·try dsimp only
    exact⟨⟨fk0,oo,oo⟩,JyM⟩
  ·exact .some JHq
 ·try dsimp only
  exact⟨⟨fk0,oo,oo⟩,J50 .u32 4294967295⟩
theorem J7c{B S:Int}{x1:JS}(h:zFt B S Ju x1)(j:BS B S 0 0:=by omega):Tot (J2u x1) λy=>zFt 0 0 zI y:=by
 unfold J2u;have s0:zFt 0 S Ju x1:=h;refine .bind (JdX (B:=0) (S:=S) s0) λn h1=>.not (λe=>?_) λe=>?_
 ·exact .some (fkn 1)
 ·refine .bind (JgC (B:=0) (S:=S) s0) λk h3=>.not (λg=>?_) λg=>?_
  ·exact .some (fkn 22)
  ·exact .some fk0
theorem J9c{B S x1:Int}(h:zFt B S zI x1)(p0:0<=x1)(j:x1<=1000000)(g:BS B S 0 0:=by omega):Tot (J4M x1) λy=>zFt 0 1000000 .s y/\(J0 y=x1):=by unfold J4M;refine .bind (JtP (t:=(.i .u8)) (B:=1000000) (S:=0) (J50 .u8 0)) λe h2=>?_;have:J0 (toStr e)=J0 e:=J8f;exact .some ⟨(Jed (B:=0) (S:=1000000) h2.1.1),om⟩
theorem JaO{B S:Int}{x1:JS}(h:zFt B S Ju x1)(aj:BS B S 0 0:=by omega):Tot (J58 x1) λy=>zFt 0 1000416 Jbp y:=by
 unfold J58;have s0:zFt 0 S Ju x1:=h;refine .bind ((J7c (B:=0) (S:=S) (x1:=x1) s0).eqn) λy2 h1=>.ne (λV=>?_) λV=>?_
 ·exact .some (⟨Je,h1.1⟩)
 ·have v4:=J7j (x:=x1) s0 h1.2 V;have F:zFt 0 12 Ju x1:=v4.2;refine .bind (JW (B:=0) (S:=0) (⟨Je,F.2.1,fkn 8⟩)) λv h9=>?_;have h10:zFt 0 8 .s v:=h9.1.u;have:J0 v<=8:=h10;have:=J4 (l:=v);have:J0 v<=0+8/\(1<=(8:Int)->(8:Int)<=8->J0 v=0+(8:Int)):=h9.2;refine .bind (JW (B:=0) (S:=8) (⟨h10,F.1,fkn 4⟩)) λC G=>?_;have I:zFt 0 16 .s C:=G.1.u;have:J0 C<=16:=I;have:=J4 (l:=C);have:J0 C<=J0 v+8/\(1<=(4:Int)->(4:Int)<=8->J0 C=J0 v+(4:Int)):=G.2;refine Jf (τ:=J4h) (λq=>(q.1,q.2,x1)) (λq=>zFt 0 400 .s q.1/\zFt 0 0 zI q.2/\(0<=q.2)/\(q.2<=16)/\(J0 q.1=12+13*q.2)) (λq=>16-q.2) ?_ (C,0) rfl ?_
  ·rintro⟨e,n⟩ D;dsimp only at D;obtain⟨E,ad,ah,z22,ae⟩:=D;unfold Jd2
   try dsimp only
   have:J0 e<=400:=E;have:=J4 (l:=e);refine .lt (λa4=>?_) λa4=>?_
   ·refine .bind (J77) λ_ _=>.bind ((JbR F.c).eqn) λA g=>.ite (λU=>?_) λU=>?_
    ·refine .bind (J77) λ_ _=>.same g.2 ?_;refine .bind (JW (B:=0) (S:=400) (⟨E,J4o g.1.2 oo,fkn 1⟩)) λo M=>?_;have a6:zFt 0 408 .s o:=M.1.u;have:J0 o<=408:=a6;have:=J4 (l:=o);have:J0 o<=J0 e+8/\(1<=(1:Int)->(1:Int)<=8->J0 o=J0 e+(1:Int)):=M.2;refine .bind (J77) λ_ _=>.same g.2 ?_;refine .bind (J77) λ_ _=>.same g.2 ?_;have:J0 A.2<=12:=g.1.2;have:=J4 (l:=A.2);have:=Jn6 12 (J0 A.2);refine .bind (J9c J2d om om) λJ Y=>?_;have:J0 J<=1000000:=Y.1;have:=J4 (l:=J);refine .bind (J6U) λz ak=>?_;have a8:zFt 0 1000012 .s z:=(by omega:J0 z<=1000012);have:J0 z<=1000012:=a8;have:=J4 (l:=z);refine .bind (J6U) λk al=>?_;have W:zFt 0 1000420 .s k:=(by omega:J0 k<=1000420);have:J0 k<=1000420:=W;have:=J4 (l:=k);have T:zFt 0 400 .s k:=(by omega:J0 k<=400);have:=Jd7 n 1;exact .some ⟨(k,J1 .i64 n 1),rfl,⟨T,J8,om,om,om⟩,om,om⟩
    ·refine .bind (JW (B:=0) (S:=400) (⟨E,fkn 255,fkn 1⟩)) λr H=>?_;have a9:zFt 0 408 .s r:=H.1.u;have:J0 r<=408:=a9;have:=J4 (l:=r);have:J0 r<=J0 e+8/\(1<=(1:Int)->(1:Int)<=8->J0 r=J0 e+(1:Int)):=H.2;refine .bind (J77) λ_ _=>.same g.2 ?_;refine .bind (J77) λ_ _=>.same g.2 ?_;have:J0 A.2<=12:=g.1.2;have:=J4 (l:=A.2);have:=Jn6 12 (J0 A.2);refine .bind (J9c J2d om om) λK R=>?_;have:J0 K<=1000000:=R.1;have:=J4 (l:=K);refine .bind (J6U) λw ai=>?_;have a1:zFt 0 1000012 .s w:=(by omega:J0 w<=1000012);have:J0 w<=1000012:=a1;have:=J4 (l:=w);refine .bind (J6U) λj ac=>?_;have a2:zFt 0 1000420 .s j:=(by omega:J0 j<=1000420);have:J0 j<=1000420:=a2;have:=J4 (l:=j);have a3:zFt 0 400 .s j:=(by omega:J0 j<=400);have:=Jd7 n 1;exact .some ⟨(j,J1 .i64 n 1),rfl,⟨a3,J8,om,om,om⟩,om,om⟩
   ·refine .inr ?_;have:=Jn6 244 (J0 e);refine .bind (J9c J2d om om) λL a0=>?_;have:J0 L<=1000000:=a0.1;have:=J4 (l:=L);refine .bind (J6U) λO ag=>?_;have N:zFt 0 1000400 .s O:=(by omega:J0 O<=1000400);refine .bind (Jb6 N) λam af=>.bind (JW (B:=0) (S:=1000400) (⟨N,Jd5,fkn 4⟩)) λaa Z=>?_;have ab:zFt 0 1000408 .s aa:=Z.1.u;refine .bind (JW (B:=0) (S:=1000408) (⟨ab,F.2.1,fkn 8⟩)) λa5 Q=>?_;have P:zFt 0 1000416 .s a5:=Q.1.u;exact .some (⟨P,fk0⟩)
  ·try dsimp only
   exact⟨I.u,fk0,om,om,om⟩
theorem Jls{B S:Int}{x1:Jae}(h:zFt B S JFf x1)(A:BS B S 0 0:=by omega)(G:B<=34359738367:=by omega):Tot (J5W x1) λy=>zFt (B+1) 0 (.l zI) y:=by
 unfold J5W;have:J0 x1.1<=B:=h.1.1;have:=J4 (l:=x1.1);refine Jf (τ:=JsD) (λq=>(x1.1,x1.2,q.1,q.2)) (λq=>(zFt 0 0 zI q.1/\0<=q.1/\(q.1<=J0 x1.1\/q.1<=0))/\(zFt (B+1) 0 (.l zI) q.2/\J0 q.2<=1*q.1+0)) (λq=>J0 x1.1-q.1) ?_ (0,[]) rfl ?_
 ·rintro⟨e,g⟩ k;dsimp only at k;obtain⟨⟨x,H,C⟩,j,D⟩:=k;unfold JbJ
  try dsimp only
  have:=J3.1 x;refine .lt (λv=>?_) λv=>?_
  ·refine .bind (Jh h.1) λE z=>.ne (λr=>?_) λr=>?_
   ·refine .bind (Jh h.1) λF o=>?_;have:J0 g<=(B+1):=j.1;refine .bind (J0u (B:=(B+1)) (Bl:=(B+1)) (Bm:=1) (S:=0) (J0 g) 1 j (J0j (B:=1) (S:=0) (t:=zI) oo o.1)) λw n=>?_;have:=Jb e 1;exact .some ⟨(J1 .i64 e 1,w),rfl,⟨⟨J8,om,om⟩,n.1,om⟩,om,om⟩
   ·have:=Jb e 1;exact .some ⟨(J1 .i64 e 1,g),rfl,⟨⟨J8,om,om⟩,j,om⟩,om,om⟩
  ·exact .some j
 ·have:J0 ([]:List Int)=0:=rfl
  try dsimp only
  exact⟨⟨fk0,oo,oo⟩,Jc,oo⟩
theorem Jru{B S:Int}{x1:J0g×JQ}(h:zFt B S (.pr JV JP) x1)(G:BS B S 0 0:=by omega):Tot (J3o x1) λy=>zFt 0 0 .b y:=by
 unfold J3o;refine .lef (λD=>?_) λD=>?_
 ·refine .gtf (λF=>?_) λF=>?_
  ·have:=J3.1 h.d.1;refine .ltf (λE=>?_) λE=>?_
   ·have:J0 x1.1.1<=B:=h.1.1.1;refine .gef (λC=>?_) λC=>?_
    ·have:=J3.1 h.e.1;refine .ltf (λo=>?_) λo=>?_
     ·refine .gef (λr=>?_) λr=>?_
      ·have:=J3.1 h.g.1;refine .ltf (λn=>?_) λn=>?_
       ·refine .ge (λz=>?_) λz=>?_
        ·exact .some trivial
        ·have:=J3.1 h.2.1;refine .eq (λk=>?_) λk=>?_
         ·exact .some trivial
         ·refine .eq (λq=>?_) λq=>?_
          ·exact .some trivial
          ·refine .eq (λA=>?_) λA=>?_
           ·exact .some trivial
           ·refine .eq (λw=>?_) λw=>?_
            ·exact .some trivial
            ·refine .eq (λx=>?_) λx=>?_
             ·have:=JlK.1 h.h;refine .eq (λv=>?_) λv=>?_
              ·exact .some trivial
              ·exact .some trivial
             ·refine .eq (λj=>?_) λj=>?_
              ·exact .some trivial
              ·exact .some trivial
       ·exact .some trivial
      ·exact .some trivial
     ·exact .some trivial
    ·exact .some trivial
   ·exact .some trivial
  ·exact .some trivial
 ·exact .some trivial
theorem Jqc{B S:Int}{x1:J0g}(h:zFt B S JV x1)(Z:BS B S 0 0:=by omega)(hB:B<=9223372036854775807:=by omega):Tot (J3p x1) λy=>zFt 0 0 .b y:=by
 unfold J3p;refine .ltf (λJ=>?_) λJ=>?_
 ·refine .gtf (λK=>?_) λK=>?_
  ·have:=J3.1 h.2.1;refine .ltf (λL=>?_) λL=>?_
   ·refine .gtf (λH=>?_) λH=>?_
    ·have:J0 x1.2.2.2.2<=B:=h.e.1;have:=J4 (l:=x1.2.2.2.2);have:J0 x1.2.2.2.2=_:=Jk h.e;refine .gt (λI=>?_) λI=>?_
     ·exact .some trivial
     ·refine Jf (τ:=Int) (λq=>(J0 x1.1,q,x1)) (λq=>(zFt 0 0 zI q/\0<=q/\(q<=J0 x1.1\/q<=0))) (λq=>J0 x1.1-q) ?_ 0 rfl ?_
      ·rintro k ⟨x,Y,R⟩;unfold J9I
       try dsimp only
       have:=J3.1 x;refine .lt (λw=>?_) λw=>?_
       ·refine .bind (Jh h.1) λy3 a1=>.ne (λC=>?_) λC=>?_
        ·exact .some trivial
        ·have:=Jb k 1;exact .some ⟨J1 .i64 k 1,rfl,⟨J8,om,om⟩,om,om⟩
       ·refine .inr ?_;have:J0 x1.2.2.1<=B:=h.c.1.1;have:=J4 (l:=x1.2.2.1);refine Jf (τ:=Int) (λq=>(J0 x1.1,q,x1)) (λq=>(zFt 0 0 zI q/\0<=q/\(q<=J0 x1.2.2.1\/q<=0))) (λq=>J0 x1.2.2.1-q) ?_ 0 rfl ?_
        ·rintro g ⟨r,U,P⟩;unfold Ja6
         try dsimp only
         have:=J3.1 r;refine .lt (λA=>?_) λA=>?_
         ·refine .bind (Jh h.c.1) λy5 T=>.ltf (λD=>?_) λD=>?_
          ·refine .bind (Jh h.c.1) λy6 M=>.gef (λo=>?_) λo=>?_
           ·refine .gt (λE=>?_) λE=>?_
            ·have:=J0o g 1;refine .bind (Jh h.c.1) λy7 W=>.bind (Jh h.c.1) λy8 a0=>.ge (λF=>?_) λF=>?_
             ·exact .some trivial
             ·have:=Jb g 1;exact .some ⟨J1 .i64 g 1,rfl,⟨J8,om,om⟩,om,om⟩
            ·have:=Jb g 1;exact .some ⟨J1 .i64 g 1,rfl,⟨J8,om,om⟩,om,om⟩
           ·exact .some trivial
          ·exact .some trivial
         ·refine .inr ?_;refine Jf (τ:=Int) (λq=>(q,x1)) (λq=>(zFt 0 0 zI q/\0<=q/\(q<=J0 x1.2.2.2.2\/q<=0))) (λq=>J0 x1.2.2.2.2-q) ?_ 0 rfl ?_
          ·rintro j ⟨n,N,Q⟩;unfold J9P
           try dsimp only
           have:=J3.1 n;refine .lt (λz=>?_) λz=>?_
           ·refine .bind (Jh h.e) λO G=>.bind (Jru (B:=B) (S:=S) (⟨h,G.1⟩)) λa2 V=>.not (λv=>?_) λv=>?_
            ·exact .some trivial
            ·have:=Jb j 1;exact .some ⟨J1 .i64 j 1,rfl,⟨J8,om,om⟩,om,om⟩
           ·exact .some trivial
          ·try dsimp only
           exact⟨fk0,oo,oo⟩
        ·try dsimp only
         exact⟨fk0,oo,oo⟩
      ·try dsimp only
       exact⟨fk0,oo,oo⟩
    ·exact .some trivial
   ·exact .some trivial
  ·exact .some trivial
 ·exact .some trivial
theorem JaG{B S:Int}{x1:J6u}(h:zFt B S Jki x1)(k:BS B S 0 0:=by omega)(n:B<=9223372036854775807:=by omega):Tot (J2E x1) λy=>zFt 0 0 zI y:=by
 unfold J2E;refine .bind (Jqc h.1) λo h1=>.not (λe=>?_) λe=>?_
 ·exact .some (fkn 15)
 ·refine .ite (λc3=>?_) λc3=>?_
  ·exact .some (fkn 10)
  ·have:=J3.1 h.2;refine .ltf (λj=>?_) λj=>?_
   ·have:J0 x1.1.1<=B:=h.1.1.1;refine .ge (λg=>?_) λg=>?_
    ·exact .some (fkn 1)
    ·exact .some fk0
   ·exact .some (fkn 1)
section
variable {B S:Int}
def DOk(x:J0g):Prop:=1<=J0 x.1/\J0 x.1<=64/\0<=x.2.1/\x.2.1<=1099511627776/\J0 x.2.2.2.2<=64/\(∀(j:Nat) (s:List UInt8),x.1[j]?=some s->J0 s=256)/\J0 x.2.2.1<=64/\ ∀(j:Nat) (f:JQ),x.2.2.2.2[j]?=some f->J3o (x,f)=some true
theorem Js6{d:J0g}{f:JQ}(e:J3o (d,f)=some true):0<=f.2.2.1/\f.2.2.1<J0 d.1/\0<=f.2.2.2.1/\f.2.2.2.1<J0 d.1/\0<=f.2.2.2.2.1/\f.2.2.2.2.1<256:=by
 have g:Par (J3o (d,f)) λy=>y=true->0<=f.2.2.1/\f.2.2.1<J0 d.1/\0<=f.2.2.2.1/\f.2.2.2.1<J0 d.1/\0<=f.2.2.2.2.1/\f.2.2.2.2.1<256:=by unfold J3o;dsimp only;refine .lef (λ_=>.gtf (λ_=>.ltf (λ_=>.gef (λ_=>.ltf (λ_=>.gef (λ_=>.ltf (λ_=>.ge (λ_=>.some nofun) λ_=>?_) λ_=>.some nofun) λ_=>.some nofun) λ_=>.some nofun) λ_=>.some nofun) λ_=>.some nofun) λ_=>.some nofun) λ_=>.some nofun;intro _ _ _;omega
 exact g _ e rfl
theorem Jbt{x:J0g}(e:J3p x=some true):DOk x:=by
 have w:Par (J3p x) λy=>y=true->DOk x:=by
  unfold J3p;refine .ltf (λr=>.gtf (λv=>.ltf (λc3=>.gtf (λC=>.gt (λ_=>.some nofun) λB=>?_) λ_=>.some nofun) λ_=>.some nofun) λ_=>.some nofun) λ_=>.some nofun;refine .while (λz=>z.1=J0 x.1/\z.2.2=x/\0<=z.2.1/\ ∀(j:Nat) (s:List UInt8),(j:Int)<z.2.1->x.1[j]?=some s->J0 s=256) ⟨rfl,rfl,J0C _,λj e h1=>by dsimp only at h1;omega⟩ ?_;rintro⟨n,i,z⟩ ⟨hn,hz,k,h⟩;dsimp only at hn hz;subst hz;subst hn;dsimp only at k h r v c3 C B;unfold J9I;dsimp only;refine .lt (λc=>?_) λc=>.map ?_
  ·have A:=Jb i 1;refine .bind λs hs=>.ne (λ_=>.some nofun) λo=>.some ⟨rfl,rfl,?_,λj t hj he=>?_⟩
   ·show 0<=J1 .i64 i 1;omega
   have hj:(j:Int)<J1 .i64 i 1:=hj;by_cases hl:(j:Int)<i
   ·exact h j t hl he
   ·have:j=i.toNat:=by omega
    subst this;rw[(J0G hs).2]at he;injection he with he;subst he
    exact o
  have hp: ∀(j:Nat) (s:List UInt8),z.1[j]?=some s->J0 s=256:=λj s he=>h j s (by have:=J4R he;omega) he;refine .while (λy=>y.1=J0 z.1/\y.2.2=z/\0<=y.2.1/\y.2.1<=J0 z.1/\ ∀(j:Nat) (f:Int),(j:Int)<y.2.1->z.2.2.1[j]?=some f->(j:Int)<=f/\f<J0 z.1) ⟨rfl,rfl,J0C _,by dsimp only;omega,λj e h1=>by dsimp only at h1;omega⟩ ?_;rintro⟨n,i,z⟩ ⟨hn,hz,k,q,h⟩;dsimp only at hn hz;subst hz;subst hn;dsimp only at k h q;unfold Ja6;dsimp only;have A:=Jb i 1;have:=J0o i 1;refine .lt (λc=>?_) λc=>.map ?_
  ·refine .bind λs hs=>.ltf (λo=>.bind λs' hs'=>.gef (λH=>?_) λ_=>.some nofun) λ_=>.some nofun;rw[hs]at hs';injection hs' with hs';subst hs'
   have D:i<=s->(J0 z.1=J0 z.1/\z=z/\0<=J1 .i64 i 1/\J1 .i64 i 1<=J0 z.1/\ ∀(j:Nat) (f:Int),(j:Int)<J1 .i64 i 1->z.2.2.1[j]?=some f->(j:Int)<=f/\f<J0 z.1):=by
    intro G;refine⟨rfl,rfl,oo,oo,λj g hj he=>?_⟩;by_cases hl:(j:Int)<i
    ·exact h j g hl he
    ·have:j=i.toNat:=by omega
     subst this;rw[(J0G hs).2]at he;injection he with he;subst he
     omega
   refine .gt (λI=>.bind λE h4=>.bind λJ h5=>.ge (λ_=>.some nofun) λK=>.some (D ?_)) λ_=>.some (D oo);obtain⟨_,F⟩:=J0G h4;rw[hs]at h5;injection h5 with h5;subst h5
   have:=h _ E oo F;omega
  have hu:J0 z.2.2.1<=64:=by omega
  refine .while (λy=>y.2=z/\0<=y.1/\ ∀(j:Nat) (f:JQ),(j:Int)<y.1->z.2.2.2.2[j]?=some f->J3o (z,f)=some true) ⟨rfl,J0C _,λj e h1=>by dsimp only at h1;omega⟩ ?_;rintro⟨i,z⟩ ⟨rfl,k,h⟩;dsimp only at k h r v c3 C B hu hp;unfold J9P;dsimp only;refine .lt (λc=>?_) λc=>.some λ_=>⟨oo,oo,oo,oo,oo,hp,hu,λj f he=>h j f (by have:=J4R he;omega) he⟩;have A:=Jb i 1;refine .bind λs hs=>.bind λb hb=>.not (λ_=>.some nofun) λo=>.some ⟨rfl,?_,λj t hj he=>?_⟩
  ·show 0<=J1 .i64 i 1;omega
  subst o;have hj:(j:Int)<J1 .i64 i 1:=hj;by_cases hl:(j:Int)<i
  ·exact h j t hl he
  ·have:j=i.toNat:=by omega
   subst this;rw[(J0G hs).2]at he;injection he with he;subst he
   exact hb
 exact w _ e rfl
theorem DOk.fit{x:J0g}(k:DOk x)(h:zFt B S JV x):zFt 64 256 JV x:=by
 obtain⟨h1,h2,h3,h4,h5⟩:=h;obtain⟨k1,k2,o,r,q,e,n,g⟩:=k;refine⟨⟨?_,λs hs=>?_⟩,h2,⟨?_,h3.2⟩,trivial,?_,λf hf=>h5.2 f hf⟩
 ·show J0 x.1<=64;omega
 ·obtain⟨j,hj⟩:=J4V.1 hs;show J0 s<=256;have:=e j s hj;omega
 ·show J0 x.2.2.1<=64;omega
 ·show J0 x.2.2.2.2<=64;omega
theorem JaH{x:J6u}(e:J2E x=some 0):J3p x.1=some true/\0<=x.2/\x.2<J0 x.1.1:=by
 have g:Par (J2E x) λy=>y=0->J3p x.1=some true/\0<=x.2/\x.2<J0 x.1.1:=by unfold J2E;refine .bind λb hb=>.not (λ_=>.some nofun) λc=>.ite (λ_=>.some nofun) λ_=>.ltf (λ_=>.ge (λ_=>.some nofun) λ_=>.some λ_=>⟨c▸hb,oo,oo⟩) λ_=>.some nofun
 exact g _ e rfl
theorem Jn1{x:J6u}{y:Int}(h:zFt B S Jki x)(e:J2E x=some y)(c:y=0):(0<=x.2/\x.2<J0 x.1.1/\J0 x.1.1<=64)/\zFt 64 256 JV x.1:=by subst c;obtain⟨h1,h2,h3⟩:=JaH e;have k:=Jbt h1;exact⟨⟨h2,h3,k.2.1⟩,k.fit h.1⟩
theorem JyP{w:Int}{un:List Int}{dead:Bool}{e k:Int}{s:List UInt8}{ps:List (List UInt8)}{fs:List JQ}(hu:zFt B 0 (.l zI) un)(hw:zFt 0 0 zI e)(C:0<=e)(h1:e<J0 ps)(hk:0<=k)(z:k<=256)(hs:J0 s=256)(hp: ∀x∈ps,J0 x=256)(G:B<=1000)(A:0<=B):Tot (J1K (w,un,dead,e,s,k,ps,fs)) λy=> ∃n g,y=(w,n,dead,g,fs)/\zFt (B+1) 0 (.l zI) n/\J0 g=J0 ps/\ ∀x∈g,J0 x=256:=by
 unfold J1K;dsimp only;have j:e.toNat<ps.length:=by unfold J0 at h1;omega
 have o:=hp _ (J8L j);refine .bind (JnU oo oo) λH h2=>.bind (J6d (l:=ps)) λ_ _=>?_;have v:lat ps e.toNat=some ps[e.toNat]:=by unfold lat;rw[zQ9 j]
 rw[v];show Tot ((J0D ps[e.toNat] (some k) none).bind _) _;refine .bind (JcA oo oo) λD h5=>.bind (J6U) λE F=>.bind (J6d (l:=ps)) λ_ _=>?_;show Tot ((J5W (un,e)).bind _) _;refine .bind (Jls (B:=B) (S:=0) ⟨hu,hw.u⟩) λq r=>.some ⟨q,_,rfl,r,J6r,λx hx=>?_⟩;rcases JEi hx with h|rfl
 ·exact hp x h
 ·have:=h2.2;have:=h5.2;omega
theorem JDg{b n:Int}{un:List Int}(h:zFt b 0 (.l zI) un)(hn:zFt 0 0 zI n)(hb:b<=17179869183:=by omega):Tot (J5x (un,n)) λy=>zFt (b+1) 0 (.l zI) y:=by
 unfold J5x;have hl:J0 un<=b:=h.1;have A:=J4 (l:=un);refine Jf (τ:=Bool×Int×List Int) (λq=>(un,n,q.1,q.2.1,q.2.2)) (λq=>0<=q.2.1/\q.2.1<=J0 un/\zFt (b+1) 0 (.l zI) q.2.2/\J0 q.2.2<=q.2.1+1/\(q.1=false->J0 q.2.2<=q.2.1)) (λq=>J0 un-q.2.1) ?_ (false,0,[]) rfl ⟨J0C _,A,Jc,by show(0:Int)<=0+1;omega,λ_=>J0C _⟩;rintro⟨done,i,out⟩ ⟨w,h1,h2,h3,h4⟩;dsimp only at w h1 h2 h3 h4;unfold Jfj;dsimp only;have:=Jb i 1;have app: ∀{x:Int} {l:List Int},zFt (b+1) 0 (.l zI) l->zFt (b+1) 0 zI x->J0 l+1<=b+1->Tot (JA 8 l [x]) λr=>zFt (b+1) 0 (.l zI) r/\J0 r=J0 l+1:=λhl hx C=>
  (J0u (B:=b+1) (Bl:=b+1) (Bm:=b+1) (S:=0) _ 1 hl (J0j oo hx) rfl rfl (J0C _) (J0C _) C oo (by decide)).mono λ_ h=>⟨h.1,h.2.1⟩
 have v:zFt (b+1) 0 zI n:=hn;refine .lt (λc=>?_) λc=>Tot.map (P:=λy=>zFt (b+1) 0 (.l zI) y) ?_ λ_ h=>h
 ·have j:Tot (idx un i) λr=>zFt (b+1) 0 zI r:=(Jh h w c).mono λ_ h=>h.1;refine .not (λd=>?_) λd=>?_
  ·have h4:=h4 d;refine .bind j λD H=>.ge (λ_=>.bind (app h2 v oo) λG f4=>.bind j λE F=>.ne (λ_=>.bind j λz o=>.bind (app f4.1 o oo) λk g=>?_) λ_=>?_) λ_=>.bind j λE F=>.ne (λ_=>.bind j λz o=>.bind (app h2 o oo) λk g=>?_) λ_=>?_
   ·have:=g.2;have:=f4.2;exact .some ⟨(_,_,_),rfl,⟨by show 0<=J1 .i64 i 1;omega,by show J1 .i64 i 1<=_;omega,g.1,by show J0 k<=J1 .i64 i 1+1;omega,nofun⟩,by show J0 un-J1 .i64 i 1<J0 un-i;omega,by show 0<=J0 un-i;omega⟩
   ·have:=f4.2;exact .some ⟨(_,_,_),rfl,⟨by show 0<=J1 .i64 i 1;omega,by show J1 .i64 i 1<=_;omega,f4.1,by show J0 G<=J1 .i64 i 1+1;omega,nofun⟩,by show J0 un-J1 .i64 i 1<J0 un-i;omega,by show 0<=J0 un-i;omega⟩
   ·have:=g.2;exact .some ⟨(_,_,_),rfl,⟨by show 0<=J1 .i64 i 1;omega,by show J1 .i64 i 1<=_;omega,g.1,by show J0 k<=J1 .i64 i 1+1;omega,λ_=>by show J0 k<=J1 .i64 i 1;omega⟩,by show J0 un-J1 .i64 i 1<J0 un-i;omega,by show 0<=J0 un-i;omega⟩
   ·exact .some ⟨(_,_,_),rfl,⟨by show 0<=J1 .i64 i 1;omega,by show J1 .i64 i 1<=_;omega,h2,by show J0 out<=J1 .i64 i 1+1;omega,λ_=>by show J0 out<=J1 .i64 i 1;omega⟩,by show J0 un-J1 .i64 i 1<J0 un-i;omega,by show 0<=J0 un-i;omega⟩
  ·refine .bind j λD H=>.ne (λ_=>.bind j λz o=>.bind (app h2 o oo) λk g=>?_) λ_=>?_
   ·have:=g.2;exact .some ⟨(_,_,_),rfl,⟨by show 0<=J1 .i64 i 1;omega,by show J1 .i64 i 1<=_;omega,g.1,by show J0 k<=J1 .i64 i 1+1;omega,λe=>by rw[d]at e;cases e⟩,by show J0 un-J1 .i64 i 1<J0 un-i;omega,by show 0<=J0 un-i;omega⟩
   ·exact .some ⟨(_,_,_),rfl,⟨by show 0<=J1 .i64 i 1;omega,by show J1 .i64 i 1<=_;omega,h2,by show J0 out<=J1 .i64 i 1+1;omega,λe=>by rw[d]at e;cases e⟩,by show J0 un-J1 .i64 i 1<J0 un-i;omega,by show 0<=J0 un-i;omega⟩
 ·exact .not (λd=>.bind (app h2 v (by have:=h4 d;omega)) λy f=>.some f.1) λ_=>.some h2
def FOk(n:Int)(f:JQ):Prop:=0<=f.2.2.1/\f.2.2.1<n/\0<=f.2.2.2.1/\f.2.2.2.1<n/\0<=f.2.2.2.2.1/\f.2.2.2.2.1<256/\zFt 0 0 JP f
def JtX(n:Int)(ps:List (List UInt8)):Prop:=J0 ps=n/\ ∀x∈ps,J0 x=256
def WOk(n:Int)(y:J6u):Prop:=zFt 256 256 Jki y
theorem JdB{n:Int}(d:J0g)(A:List JQ)(I:List (List UInt8))(C:Int)(E:List Int)(z:Bool){ps:List (List UInt8)}(D J:List JQ){w:Int}{un:List Int}{dead:Bool}{e rest:List JQ}
  (hn:n<=64) (hp:JtX n ps) (hw:zFt 0 0 zI w) (hu:zFt 65 0 (.l zI) un) (N:J0 e<=64) (hf: ∀f∈e,FOk n f) (hr:zFt 64 0 (.l JP) rest):
  Tot (Jg J6e (0,d,A,I,C,E,z,ps,D,J,w,un,dead,e,rest)) (WOk n):=by
 refine Jf (τ:=Int×List (List UInt8)×List Int×Bool) (λq=>(q.1,d,A,I,C,E,z,q.2.1,D,J,w,q.2.2.1,q.2.2.2,e,rest)) (λq=>0<=q.1/\q.1<=J0 e/\JtX n q.2.1/\ ∃b:Int,b<=65+2*q.1/\zFt b 0 (.l zI) q.2.2.1) (λq=>J0 e-q.1) ?_ (0,ps,un,dead) rfl ⟨J0C _,J4,hp,65,oo,hu⟩;rintro⟨i,ps,un,dead⟩ ⟨B,h1,⟨j,g⟩,b,hb,hu⟩;dsimp only at B h1 j g hb hu;unfold J6e;dsimp only;have:=Jb i 1;refine .lt (λc=>?_) λc=>.some ?_
 ·have k:i.toNat<e.length:=by unfold J0 at c;omega
  refine .bind (J6d (l:=e) B c) λ_ _=>?_;have T:lat e i.toNat=some e[i.toNat]:=by unfold lat;rw[zQ9 k]
  rw[T];show Tot (if eqI e[i.toNat].1 4=true then _ else _) _;obtain⟨v,R,S,f4,y,Q,F⟩:=hf _ (J8L k);generalize e[i.toNat]=f at v R S f4 y Q F;refine .eq (λO=>?_) λO=>.eq (λP=>?_) λP=>.eq (λc3=>?_) λc3=>?_
  ·have o:f.2.2.1.toNat<ps.length:=by unfold J0 at j;omega
   have r:=g _ (J8L o);refine .bind (J6d (l:=ps) v oo) λ_ _=>?_;have L:lat ps f.2.2.1.toNat=some ps[f.2.2.1.toNat]:=by unfold lat;rw[zQ9 o]
   rw[L];show Tot ((inb (toByt ps[f.2.2.1.toNat]).length f.2.2.2.2.1).bind _) _;have G:J0 (toByt ps[f.2.2.1.toNat])=256:=by rw[JCc];exact r
   have K:f.2.2.2.2.1.toNat<(toByt ps[f.2.2.1.toNat]).length:=by unfold J0 at G;omega
   refine .bind (J6d (l:=toByt ps[f.2.2.1.toNat]) y oo) λ_ _=>?_;have M:lat (toByt ps[f.2.2.1.toNat]) f.2.2.2.2.1.toNat=some (toByt ps[f.2.2.1.toNat])[f.2.2.2.2.1.toNat]:=by unfold lat;rw[zQ9 K]
   rw[M];show Tot ((inb (toByt ps[f.2.2.1.toNat]).length f.2.2.2.2.1).bind _) _;refine .bind (J6d (l:=toByt ps[f.2.2.1.toNat]) y oo) λ_ _=>?_;show Tot ((inb ps.length f.2.2.1).bind _) _;refine .bind (J6d (l:=ps) v oo) λ_ _=>.some ⟨(_,_,_,_),rfl,⟨?_,?_,⟨?_,λx hx=>?_⟩,b,?_,hu⟩,?_,?_⟩
   ·show 0<=J1 .i64 i 1;omega
   ·show J1 .i64 i 1<=J0 e;omega
   ·exact J6r.trans j
   ·rcases JEi hx with h|rfl
    ·exact g x h
    ·rw[J8f,J6r];exact G
   ·show b<=65+2*J1 .i64 i 1;omega
   ·show J0 e-J1 .i64 i 1<J0 e-i;omega
   ·show 0<=J0 e-i;omega
  ·refine .bind (JDg hu F.2.2.1) λU H=>.some ⟨(_,_,_,_),rfl,⟨?_,?_,⟨j,g⟩,b+2,?_,H.u⟩,?_,?_⟩
   ·show 0<=J1 .i64 i 1;omega
   ·show J1 .i64 i 1<=J0 e;omega
   ·show b+2<=65+2*J1 .i64 i 1;omega
   ·show J0 e-J1 .i64 i 1<J0 e-i;omega
   ·show 0<=J0 e-i;omega
  all_goals
   refine .some ⟨(_,_,_,_),rfl,⟨?_,?_,⟨j,g⟩,b,?_,hu⟩,?_,?_⟩
   ·show 0<=J1 .i64 i 1;omega
   ·show J1 .i64 i 1<=J0 e;omega
   ·show b<=65+2*J1 .i64 i 1;omega
   ·show J0 e-J1 .i64 i 1<J0 e-i;omega
   ·show 0<=J0 e-i;omega
 ·refine⟨⟨⟨?_,λx hx=>?_⟩,hw.u,hu.u,trivial,hr.u⟩,fk0⟩
  ·show J0 ps<=256;omega
  ·show J0 x<=256;have:=g x hx;omega
end
section
variable {B S:Int}
theorem JlR{n h:Int}{s:List UInt8}(d:J0g)(C:List JQ)(G:List (List UInt8))(D:Int)(F:List Int)(B:Bool){ps:List (List UInt8)}(E H:List JQ){w:Int}{un:List Int}{dead:Bool}{g rest:List JQ}
  (hn:n<=64) (hp:JtX n ps) (hw:zFt 0 0 zI w) (hu:zFt 64 0 (.l zI) un) (z:J0 g<=64) (hf: ∀f∈g,FOk n f) (hr:zFt 64 0 (.l JP) rest)
  (hs:J0 s=256) (N:0<=h) (g1:h<n) (J:zFt 0 0 zI h):
  Tot (Jg J9X (h,s,false,0,d,C,G,D,F,B,ps,E,H,w,un,dead,g,rest)) (WOk n):=by
 refine Jf (τ:=Bool×Int×List (List UInt8)×List Int) (λq=>(h,s,q.1,q.2.1,d,C,G,D,F,B,q.2.2.1,E,H,w,q.2.2.2,dead,g,rest)) (λq=>0<=q.2.1/\q.2.1<=J0 g/\JtX n q.2.2.1/\zFt 65 0 (.l zI) q.2.2.2/\(q.1=false->zFt 64 0 (.l zI) q.2.2.2)) (λq=>J0 g-q.2.1) ?_ (false,0,ps,un) rfl ⟨J0C _,J4,hp,hu.u,λ_=>hu⟩;rintro⟨done,i,ps,un⟩ ⟨K,h1,⟨r,v⟩,hu,hd⟩;dsimp only at K h1 r v hu hd;unfold J9X;dsimp only;have:=Jb i 1;have A: ∀{h k:Int},done=false->0<=h->h<n->zFt 0 0 zI h->0<=k->k<=256->Tot (J1K (w,un,dead,h,s,k,ps,rest)) λy=> ∃j o,y=(w,j,dead,o,rest)/\zFt 65 0 (.l zI) j/\JtX n o:=λe a1 a2 a3 a4 R=>
  (JyP (hd e) a3 a1 oo a4 R hs v oo oo).mono λy ⟨j,o,h1,h2,h3,h4⟩=>⟨j,o,h1,h2,h3.trans r,h4⟩
 have fin:Tot (if Js done=true then(J1K (w,un,dead,h,s,256,ps,rest)).bind λx=>Jg J6e (0,d,C,G,D,F,B,x.2.2.2.1,E,H,x.1,x.2.1,x.2.2.1,g,x.2.2.2.2)else Jg J6e (0,d,C,G,D,F,B,ps,E,H,w,un,dead,g,rest)) (WOk n):=by refine .not (λe=>.bind (A e N g1 J oo oo) λy ⟨j,o,hy,h2,h3⟩=>?_) λ_=>JdB _ _ _ _ _ _ _ _ hn ⟨r,v⟩ hw hu z hf hr;subst hy;exact JdB _ _ _ _ _ _ _ _ hn h3 hw h2 z hf hr
 refine .lt (λc=>.not (λe=>?_) λe=>.inr fin) λc=>.inr fin;have I:i.toNat<g.length:=by unfold J0 at c;omega
 refine .bind (J6d (l:=g) K c) λ_ _=>?_;have W:lat g i.toNat=some g[i.toNat]:=by unfold lat;rw[zQ9 I]
 have L:inb g.length i=some ():=by unfold inb;rw[if_pos ⟨K,by unfold J0 at c;exact c⟩]
 rw[W];obtain⟨Q,V,P,f4,O,U,M⟩:=hf _ (J8L I);generalize g[i.toNat]=f at Q V P f4 O U M;show Tot (if eqI f.1 1=true then _ else _) _;refine .eq (λS=>?_) λS=>.eq (λT=>?_) λT=>.eq (λc3=>?_) λc3=>?_
 ·exact .some ⟨(_,_,_,_),rfl,⟨by show 0<=J1 .i64 i 1;omega,by show J1 .i64 i 1<=J0 g;omega,⟨r,v⟩,hu,nofun⟩,by show J0 g-J1 .i64 i 1<J0 g-i;omega,by show 0<=J0 g-i;omega⟩
 ·rw[L];show Tot ((J1K _).bind _) _;refine .bind (A e P f4 M.2.2.2.1 oo oo) λy ⟨j,o,hy,h2,h3⟩=>?_;subst hy;exact .some ⟨(_,_,_,_),rfl,⟨by show 0<=J1 .i64 i 1;omega,by show J1 .i64 i 1<=J0 g;omega,h3,h2,nofun⟩,by show J0 g-J1 .i64 i 1<J0 g-i;omega,by show 0<=J0 g-i;omega⟩
 ·rw[L];show Tot ((J1K _).bind _) _;refine .bind (A e N g1 J O oo) λy ⟨j,o,hy,h2,h3⟩=>?_;subst hy;exact .some ⟨(_,_,_,_),rfl,⟨by show 0<=J1 .i64 i 1;omega,by show J1 .i64 i 1<=J0 g;omega,h3,h2,nofun⟩,by show J0 g-J1 .i64 i 1<J0 g-i;omega,by show 0<=J0 g-i;omega⟩
 ·exact .some ⟨(_,_,_,_),rfl,⟨by show 0<=J1 .i64 i 1;omega,by show J1 .i64 i 1<=J0 g;omega,⟨r,v⟩,hu,hd⟩,by show J0 g-J1 .i64 i 1<J0 g-i;omega,by show 0<=J0 g-i;omega⟩
theorem JBV{x:J0g}(g:zFt 64 256 JV x):J7Q x=some (x.2.1,x.2.2.1,x.2.2.2.1,x.1,x.2.2.2.2):=by obtain⟨r,hr,e⟩:=(Jmo (bytes:=16) g.1 oo (by decide));obtain⟨n,j,e2⟩:=(Jmo (bytes:=8) g.2.2.1 oo (by decide));obtain⟨o,h,k⟩:=(Jmo (bytes:=48) g.2.2.2.2 oo (by decide));subst e e2 k;unfold J7Q;have q3:J2l (α:=JQ) 48 x.2.2.2.2=some x.2.2.2.2:=h;rw[hr,j,q3];rfl
theorem Jrt{x1:J0g×Int×List UInt8}(h:zFt B S (.pr JV (.pr zI .s)) x1)(T:BC B S 0 0:=by omega):Tot (J9i x1) λy=>zFt 256 256 Jki y:=by
 obtain⟨x,g,s⟩:=x1;obtain⟨hx,z,hs⟩:=h;unfold J9i;dsimp only;have z0:zFt 256 256 JV ([],0,[],false,[]):=⟨Jc,fk0,Jc,trivial,Jc⟩;refine .bind ((JaG (x1:=(x,g)) ⟨hx,z⟩).eqn) λV h2=>.ne (λ_=>.some ⟨z0,h2.1⟩) λP=>.ne (λ_=>.some ⟨z0,fkn 2⟩) λU=>.eq (λ_=>.some ⟨z0,fkn 21⟩) λc3=>?_;subst P;obtain⟨k,I,g1⟩:=JaH h2.2;have k:=Jbt k;have e:zFt 64 256 JV x:=k.fit hx;obtain⟨k1,k2,N,R,O,K,H,G⟩:=k;dsimp only at k1 k2 N R O K H G I g1;rw[JBV e];show Tot (Jg J9Z _) _;dsimp only;have hw:zFt 0 0 zI (J1 .i64 x.2.1 1):=J8;have L: ∀{i:Int} {f:JQ},idx x.2.2.2.2 i=some f->FOk (J0 x.1) f:=fun{i f} hf=>by obtain⟨a1,a2⟩:=J0G hf;have w:=Js6 (G _ _ a2);exact⟨w.1,w.2.1,w.2.2.1,w.2.2.2.1,w.2.2.2.2.1,w.2.2.2.2.2,e.2.2.2.2.2 f (zQ5 a2)⟩
 refine Jf (τ:=Int×List JQ×List JQ) (λq=>(g,s,q.1,x,[],[],0,[],false,x.1,x.2.2.2.2,[],J1 .i64 x.2.1 1,x.2.2.1,x.2.2.2.1,q.2.1,q.2.2)) (λq=>0<=q.1/\q.1<=J0 x.2.2.2.2/\J0 q.2.1<=q.1/\J0 q.2.2<=q.1/\zFt 64 0 (.l JP) q.2.1/\zFt 64 0 (.l JP) q.2.2/\ ∀f∈q.2.1,FOk (J0 x.1) f) (λq=>J0 x.2.2.2.2-q.1) ?_ (0,[],[]) rfl ⟨J0C _,J4,J0C _,J0C _,Jc,Jc,nofun⟩;rintro⟨i,A,rest⟩ ⟨F,h1,h3,h4,h5,v,o⟩;dsimp only at F h1 h3 h4 h5 v o;unfold J9Z;dsimp only;have:=Jb i 1;have app: ∀{f:JQ} {l:List JQ},zFt 64 0 (.l JP) l->FOk (J0 x.1) f->J0 l+1<=64->Tot (JA 48 l [f]) λr=>zFt 64 0 (.l JP) r/\J0 r=J0 l+1/\r=l++[f]:=λhl hx M=>
  (J0u (B:=64) (Bl:=64) (Bm:=64) (S:=0) _ 1 hl (J0j oo hx.2.2.2.2.2.2.u) rfl rfl (J0C _) (J0C _) M oo (by decide))
 refine .lt (λc=>?_) λc=>.inr (JlR _ _ _ _ _ _ _ _ k2 ⟨rfl,λs hs=>by obtain⟨j,hj⟩:=J4V.1 hs;exact K j s hj⟩ hw ⟨H,e.2.2.1.2⟩ oo o v oo I g1 z);have D:i.toNat<x.2.2.2.2.length:=by unfold J0 at c;omega
 have J:idx x.2.2.2.2 i=some x.2.2.2.2[i.toNat]:=by unfold idx;rw[if_pos F,zQ9 D]
 have n:=L J;rw[J];show Tot (if eqI _ _=true then _ else _) _;refine .eq (λ_=>?_) λ_=>?_
 ·show Tot ((JA 48 A [_]).bind _) _;refine .bind (app h5 n oo) λr ⟨C,Q,E⟩=>.some ⟨(_,_,_),rfl,⟨by show 0<=J1 .i64 i 1;omega,by show J1 .i64 i 1<=_;omega,by show J0 r<=J1 .i64 i 1;omega,by show J0 rest<=J1 .i64 i 1;omega,C,v,λf hf=>?_⟩,by show _-J1 .i64 i 1<_-i;omega,by show 0<=_-i;omega⟩;subst E;rcases J1U.1 hf with hf|hf
  ·exact o f hf
  ·simp at hf;subst hf;exact n
 ·show Tot ((JA 48 rest [_]).bind _) _;exact .bind (app v n oo) λr ⟨C,Q,E⟩=>.some ⟨(_,_,_),rfl,⟨by show 0<=J1 .i64 i 1;omega,by show J1 .i64 i 1<=_;omega,by show J0 A<=J1 .i64 i 1;omega,by show J0 r<=J1 .i64 i 1;omega,h5,C,o⟩,by show _-J1 .i64 i 1<_-i;omega,by show 0<=_-i;omega⟩
theorem JvJ{x1:J0g×Int×List UInt8×Int}(h:zFt B S (.pr JV (.pr zI Jbp)) x1)(H:BC B S 0 0:=by omega):Tot (J9S x1) λy=>zFt 256 256 Jki y:=by
 obtain⟨x,n,s,I⟩:=x1;obtain⟨hx,g,hs,E⟩:=h;unfold J9S;dsimp only;have z0:zFt 256 256 JV ([],0,[],false,[]):=⟨Jc,fk0,Jc,trivial,Jc⟩;refine .bind ((JaG (x1:=(x,n)) ⟨hx,g⟩).eqn) λL h2=>.ne (λ_=>.some ⟨z0,h2.1⟩) λC=>.ltf (λJ=>.gt (λ_=>.some ⟨z0,fkn 1⟩) λK=>.ne (λ_=>.some ⟨z0,fkn 2⟩) λD=>?_) λ_=>.some ⟨z0,fkn 1⟩;subst C;obtain⟨k,q,g1⟩:=JaH h2.2;have k:=Jbt k;have e:zFt 64 256 JV x:=k.fit hx;obtain⟨k1,k2,z,F,A,r,o,w⟩:=k;dsimp only at k1 k2 z F A r o w q g1;rw[JBV e];show Tot ((J1K _).bind _) _;dsimp only;refine .bind (JyP (B:=64) ⟨o,e.2.2.1.2⟩ g q g1 oo oo D (λs hs=>by obtain⟨j,hj⟩:=J4V.1 hs;exact r j s hj) oo oo) λy ⟨G,v,hy,h2,h3,h4⟩=>?_;subst hy;refine .some ⟨⟨⟨?_,λx hx=>?_⟩,hx.2.1,h2.u,trivial,e.2.2.2.2.u⟩,fk0⟩
 ·show J0 v<=256;omega
 ·show J0 x<=256;have:=h4 x hx;omega
end
theorem J7q{B S:Int}{x1:JF×Int×T_api_Frame}(h:zFt B S (.pr JM (.pr zI J07)) x1)(p0:0<=x1.2.1)(g:x1.2.1<J0 x1.1.2.1)(e:BS B S 0 0:=by omega)(k:B<=34359738368:=by omega):Tot (J1s x1) λy=>zFt B S JM y/\(J0 y.2.1=J0 x1.1.2.1/\y.2.2=x1.1.2.2):=by unfold J1s;have:J0 x1.1.2.1=_:=Jk h.1.2.1;refine .clo h.1.2.1 oo (by decide) ?_;refine .bind (J6d (l:=x1.1.2.1)) λ_ _=>.bind (JbP h.1.2.1) λn j=>?_;have:J0 (J0z x1.1.2.1 (Int.toNat x1.2.1) x1.2.2)=_:=Jk (J4x (t:=J07) (i:=Int.toNat x1.2.1) (x:=x1.2.2) h.1.2.1 (h.2.z.2.u));have:J0 (J0z x1.1.2.1 (Int.toNat x1.2.1) x1.2.2)=J0 x1.1.2.1:=J6r;exact .some ⟨(⟨h.1.1,J4x (t:=J07) (i:=Int.toNat x1.2.1) (x:=x1.2.2) h.1.2.1 (h.2.z.2.u),h.1.c⟩),om⟩
theorem Jqw{B S:Int}{x1:JlQ}(h:zFt B S JF8 x1)(I:BG B S:=by omega):Tot (J4L x1) λy=>zFt 64 12 tq7 y:=by
 unfold J4L;refine .bind ((J3Q h.1).eqn) λK h1=>.not (λr=>?_) λr=>?_
 ·exact .some (⟨fzr,fkn 15⟩)
 ·have v3:=J2Z h.1 h1.2 r;have:J0 x1.1.2.1=_:=Jk h.1.2.1;have h10:zFt 64 12 JM x1.1:=v3.2;refine .bind (J5w (B:=64) (S:=12) (⟨h10,h.2.1⟩)) λn e=>?_;have:=J3.1 e.1;have: -1<=n/\n<J0 x1.1.2.1:=e.2;refine .lt (λk=>?_) λk=>?_
  ·exact .some (⟨fzr,fkn 18⟩)
  ·refine .bind (Jh h10.2.1) λJ g=>.gt (λD=>?_) λD=>?_
   ·exact .some (⟨fzr,fkn 9⟩)
   ·refine .not (λw=>?_) λw=>?_
    ·exact .some (⟨h10,fk0⟩)
    ·refine .eq (λE=>?_) λE=>?_
     ·refine .bind (J7q (B:=64) (S:=12) (⟨h10,e.1,g.1.z.1.u,trivial,fk0,trivial⟩) om om) λG q=>?_;have j:zFt 64 12 JM G:=q.1.u;exact .some (⟨j,fk0⟩)
     ·have:=J3.1 g.1.z.2.2.1;refine .le (λv=>?_) λv=>?_
      ·refine .bind (J7q (B:=64) (S:=12) (⟨h10,e.1,g.1.z.1.u,trivial,J8,trivial⟩) om om) λH o=>?_;have x:zFt 64 12 JM H:=o.1.u;exact .some (⟨x,fk0⟩)
      ·refine .bind (J7q (B:=64) (S:=12) (⟨h10,e.1,g.1.z.u⟩) om om) λF A=>?_;have C:zFt 64 12 JM F:=A.1.u;exact .some (⟨C,fk0⟩)
theorem Jm8{B S:Int}{x1:J6Z}(h:zFt B S Jks x1)(L:BG B S:=by omega):Tot (J2i x1) λy=>zFt 16384 1073741824 tq1 y/\(y.2=0->J0 y.1.2.2.1.2.1=J0 x1.1.2.2.1.2.1+1):=by
 unfold J2i;refine .bind ((J1m h.1).eqn) λP h1=>.not (λz=>?_) λz=>?_
 ·have:J0 x1.1.2.2.1.2.1<=B:=h.1.c.1.2.1.1;exact .some ⟨(⟨fzr,fkn 15⟩),om⟩
 ·have I:=J1w h.1 h1.2 z;have:J0 x1.1.2.2.1.2.1=_:=Jk h.1.c.1.2.1;have k:zFt 4096 8192 J9 x1.1:=I.2;refine .ltf (λC=>?_) λC=>?_
  ·refine .gef (λr=>?_) λr=>?_
   ·have:=J3.1 h.c;refine .ltf (λA=>?_) λA=>?_
    ·refine .bind (J8g k.c.1) λM K=>.gt (λx=>?_) λx=>?_
     ·exact .some ⟨(⟨fzr,fkn 1⟩),om⟩
     ·refine .bind ((J5p (B:=4096) (S:=8192) (x1:=(x1.1.2.2.2.1,x1.2.1)) (⟨k.d.1,h.2.1⟩)).eqn) λO J=>.ge (λv=>?_) λv=>?_
      ·have E:zFt 16384 1073741824 JF8 (x1.1.2.2.2.1,x1.2.1,x1.2.2):=⟨k.d.1.u,h.2⟩;refine .bind (Jqw E) λN n=>.ne (λG=>?_) λG=>?_
       ·exact .some ⟨(⟨fzr,n.2⟩),om⟩
       ·have D:zFt 16384 1073741824 Jt3 (x1.1,0,7,0,0,0,x1.2.2,(x1.2.1,0,(false,[]),false,[]),[]):=⟨k.u,fk0,fkn 7,fk0,fk0,fk0,h.c,⟨h.2.1,fk0,⟨trivial,Je⟩,trivial,Je⟩,Je⟩;refine .bind ((J56 D).eqn) λq j=>?_;have:J0 q.1.2.2.1.2.1=_:=Jk j.1.1.1.c.1.2.1;have:q.2.2=0->J0 q.1.2.2.1.2.1=J0 x1.1.2.2.1.2.1+1/\J0 x1.1.2.2.1.2.1<=4095/\0<=x1.2.1/\x1.2.1<64/\0<=(0:Int)/\(0:Int)<16:=j.1.2;refine .ne (λw=>?_) λw=>?_
        ·exact .some ⟨(⟨fzr,j.1.1.c⟩),om⟩
        ·exact .some ⟨(⟨⟨j.1.1.1.1,j.1.1.1.2.1,j.1.1.1.c.1,n.1.u,j.1.1.1.e⟩,fk0⟩),om⟩
      ·have F:zFt 16384 1073741824 Jt3 (x1.1,0,7,0,0,0,x1.2.2,(x1.2.1,0,(false,[]),false,[]),[]):=⟨k.u,fk0,fkn 7,fk0,fk0,fk0,h.c,⟨h.2.1,fk0,⟨trivial,Je⟩,trivial,Je⟩,Je⟩;refine .bind ((J56 F).eqn) λo g=>?_;have:J0 o.1.2.2.1.2.1=_:=Jk g.1.1.1.c.1.2.1;have:o.2.2=0->J0 o.1.2.2.1.2.1=J0 x1.1.2.2.1.2.1+1/\J0 x1.1.2.2.1.2.1<=4095/\0<=x1.2.1/\x1.2.1<64/\0<=(0:Int)/\(0:Int)<16:=g.1.2;refine .ne (λH=>?_) λH=>?_
       ·exact .some ⟨(⟨fzr,g.1.1.c⟩),om⟩
       ·exact .some ⟨(⟨⟨g.1.1.1.1,g.1.1.1.2.1,g.1.1.1.c.1,k.d.1.u,g.1.1.1.e⟩,fk0⟩),om⟩
    ·exact .some ⟨(⟨fzr,fkn 1⟩),om⟩
   ·exact .some ⟨(⟨fzr,fkn 1⟩),om⟩
  ·exact .some ⟨(⟨fzr,fkn 1⟩),om⟩
theorem Jgw{B S:Int}{x1:JFB}(h:zFt B S (.pr Jl (.pr J9 Ju)) x1)(k:BG B S:=by omega):Tot (J2t x1) λy=>zFt 16384 1073741824 tq3 y/\(y.2=0->J0 y.1.1.2.2.1.2.1=J0 x1.2.1.2.2.1.2.1+1):=by
 unfold J2t;refine .bind (JaO (B:=0) (S:=S) h.c.z) λo h1=>.bind (Jrt (B:=B) (S:=S) (⟨h.1.2,h.c.z.1,h1.1.u⟩)) λn h2=>.ne (λc3=>?_) λc3=>?_
 ·have:J0 x1.2.1.2.2.1.2.1<=B:=h.2.1.c.1.2.1.1;exact .some ⟨(⟨⟨fzr,Jc,fk0,Jc,trivial,Jc⟩,h2.2⟩),om⟩
 ·refine .bind (Jm8 (B:=B) (S:=S) (⟨h.2.1,h.c.z.1,h.c.z.2.1⟩)) λg e=>?_;have:J0 g.1.2.2.1.2.1=_:=Jk e.1.1.c.1.2.1;have:J0 x1.2.1.2.2.1.2.1=_:=Jk h.2.1.c.1.2.1;have:g.2=0->J0 g.1.2.2.1.2.1=J0 x1.2.1.2.2.1.2.1+1:=e.2;refine .ne (λj=>?_) λj=>?_
  ·exact .some ⟨(⟨⟨fzr,Jc,fk0,Jc,trivial,Jc⟩,e.1.2⟩),om⟩
  ·exact .some ⟨(⟨⟨e.1.1,h2.1.u⟩,fk0⟩),om⟩
theorem Jqd{B S:Int}{x1:J2M}(h:zFt B S tq3 x1)(r:BG B S:=by omega):Tot (J4B x1) λy=>zFt B S tq3 y:=by
 unfold J4B;refine .bind ((Jsa (B:=B) (S:=S) (x1:=(x1.1.1,x1.2)) (⟨h.1.1,h.2⟩)).eqn) λv h1=>.ne (λe=>?_) λe=>?_
 ·exact .some (⟨⟨fzr,Jc,fk0,Jc,trivial,Jc⟩,h1.1.1.2.z.2⟩)
 ·have o:InP x1.1.1.2.2.2.1 x1.2:=JzX (⟨h.1.1,h.2⟩) h1.2 e;refine .bind ((J5p (B:=B) (S:=S) (x1:=(x1.1.1.2.2.2.1,x1.2)) (⟨h.1.1.d.1,h.2⟩)).eqn) λj g=>?_;have:0<=j:=JjS o g.2;have:J0 x1.1.1.2.2.2.1.2.1=_:=Jk h.1.1.d.1.2.1;have: -1<=j/\j<J0 x1.1.1.2.2.2.1.2.1:=g.1.2;refine .bind (Jh h.1.1.d.1.2.1) λw q=>.not (λn=>?_) λn=>?_
  ·exact .some (⟨h.1,fk0⟩)
  ·refine .bind (Jgw (B:=B) (S:=S) (⟨h.1,h1.1.1.1.u,h1.1.1.2.z.1.u⟩)) λx k=>.some (k.1.u)
theorem Jao{B S:Int}{x1:JI7}(h:zFt B S (.pr (.l Ja) (.pr zI (.pr .b J0c))) x1)(I:BS B S 0 0:=by omega)(Q:B<=34359738367:=by omega):Tot (J5H x1) λy=>zFt (B+1) 0 (.l Ja) y:=by
 unfold J5H;have:J0 x1.1<=B:=h.1.1;have:=J4 (l:=x1.1);have:J0 x1.1=_:=Jk h.1;refine Jf (τ:=Int×(List T_api_Grant)) (λq=>(x1.1,x1.2.1,x1.2.2.1,q.1,x1.2.2.2,q.2)) (λq=>(zFt 0 0 zI q.1/\0<=q.1/\(q.1<=J0 x1.1\/q.1<=0))/\(zFt (B+1) 0 (.l Ja) q.2/\J0 q.2<=1*q.1+0)) (λq=>J0 x1.1-q.1) ?_ (0,[]) rfl ?_
 ·rintro⟨g,e⟩ o;dsimp only at o;obtain⟨⟨E,K,P⟩,j,L⟩:=o;unfold Jfr
  try dsimp only
  have:=J3.1 E;refine .lt (λD=>?_) λD=>?_
  ·refine .bind (Jh h.1) λM G=>.nef (λx=>?_) λx=>?_
   ·refine .ite (λC=>?_) λC=>?_
    ·refine .bind (Jh h.1) λO F=>.not (λr=>?_) λr=>?_
     ·refine .bind (Jh h.1) λN z=>?_;have:J0 e<=(B+1):=j.1;have:J0 e=_:=Jk j;refine .bind (J0u (B:=(B+1)) (Bl:=(B+1)) (Bm:=1) (S:=0) (J0 e) 1 j (J0j (B:=1) (S:=0) (t:=Ja) oo z.1)) λA k=>?_;have:=Jb g 1;have:J0 A=_:=Jk k.1;exact .some ⟨(J1 .i64 g 1,A),rfl,⟨⟨J8,om,om⟩,k.1,om⟩,om,om⟩
     ·have H:=J1J.1 r;have:=Jb g 1;have:J0 e=_:=Jk j;exact .some ⟨(J1 .i64 g 1,e),rfl,⟨⟨J8,om,om⟩,j,om⟩,om,om⟩
    ·have:=Jb g 1;have:J0 e=_:=Jk j;exact .some ⟨(J1 .i64 g 1,e),rfl,⟨⟨J8,om,om⟩,j,om⟩,om,om⟩
   ·refine .bind (Jh h.1) λJ v=>?_;have:J0 e<=(B+1):=j.1;have:J0 e=_:=Jk j;refine .bind (J0u (B:=(B+1)) (Bl:=(B+1)) (Bm:=1) (S:=0) (J0 e) 1 j (J0j (B:=1) (S:=0) (t:=Ja) oo v.1)) λw n=>?_;have:=Jb g 1;have:J0 w=_:=Jk n.1;exact .some ⟨(J1 .i64 g 1,w),rfl,⟨⟨J8,om,om⟩,n.1,om⟩,om,om⟩
  ·exact .some j
 ·have:J0 ([]:List T_api_Grant)=0:=rfl
  try dsimp only
  exact⟨⟨fk0,oo,oo⟩,Jc,oo⟩
theorem Juw{B S:Int}{x1:J9n}(h:zFt B S Jnk x1)(p0:0<=x1.2)(M:x1.2<J0 x1.1.2)(F:BS B S 0 0:=by omega)(Q:B<=9223372036854775807:=by omega):Tot (J9L x1) λy=>zFt 0 0 .b y:=by
 unfold J9L;have:=J3.1 h.2;have:J0 x1.1.2<=B:=h.1.2.1;have:J0 x1.1.2=_:=Jk h.1.2;have:J0 x1.1.1<=B:=h.1.1.1;have:=J4 (l:=x1.1.1);have:J0 x1.1.1=_:=Jk h.1.1;refine Jf (τ:=Int) (λq=>(x1.2,q,x1.1)) (λq=>(zFt 0 0 zI q/\0<=q/\(q<=J0 x1.1.1\/q<=0))) (λq=>J0 x1.1.1-q) ?_ 0 rfl ?_
 ·rintro g ⟨A,P,C⟩;unfold Jfz
  try dsimp only
  have:=J3.1 A;refine .lt (λn=>?_) λn=>?_
  ·refine .bind (Jh h.1.1) λJ v=>.bind (Jh h.1.2) λO k=>.bind (J4b (B:=0) (S:=0) (⟨v.1,k.1⟩)) λL H=>.ite (λw=>?_) λw=>?_
   ·exact .some trivial
   ·have:=Jb g 1;exact .some ⟨J1 .i64 g 1,rfl,⟨J8,om,om⟩,om,om⟩
  ·refine .inr ?_;refine Jf (τ:=Int) (λq=>(x1.2,q,x1.1)) (λq=>(zFt 0 0 zI q/\0<=q/\(q<=x1.2\/q<=0))) (λq=>x1.2-q) ?_ 0 rfl ?_
   ·rintro e ⟨r,G,E⟩;unfold Jfu
    try dsimp only
    have:=J3.1 r;refine .lt (λx=>?_) λx=>?_
    ·refine .bind (Jh h.1.2) λI z=>.bind (Jh h.1.2) λK o=>.bind (J4b (B:=0) (S:=0) (⟨z.1,o.1⟩)) λN D=>.ite (λj=>?_) λj=>?_
     ·exact .some trivial
     ·have:=Jb e 1;exact .some ⟨J1 .i64 e 1,rfl,⟨J8,om,om⟩,om,om⟩
    ·exact .some trivial
   ·try dsimp only
    exact⟨fk0,oo,oo⟩
 ·try dsimp only
  exact⟨fk0,oo,oo⟩
section
variable {B S:Int}
theorem JvZ{x1:JAk}(h:zFt B S (.pr (.l Ja) Ja) x1)(R:BS B S 0 0:=by omega)(W:B<=17179869183:=by omega):Tot (Jan x1) λy=>zFt (B+1) S (.l Ja) y/\J0 y<=J0 x1.1+1:=by
 obtain⟨un,n⟩:=x1;obtain⟨h,hn⟩:=h;unfold Jan;dsimp only;dsimp only at h hn;have hl:J0 un<=B:=h.1;have K:=J4 (l:=un);refine Jf (τ:=Bool×Int×List T_api_Grant) (λq=>(un,q.1,q.2.1,n,q.2.2)) (λq=>0<=q.2.1/\q.2.1<=J0 un/\zFt (B+1) S (.l Ja) q.2.2/\J0 q.2.2<=q.2.1+1/\(q.1=false->J0 q.2.2<=q.2.1)) (λq=>J0 un-q.2.1) ?_ (false,0,[]) rfl ⟨J0C _,K,Jc,by show(0:Int)<=0+1;omega,λ_=>J0C _⟩;rintro⟨done,i,out⟩ ⟨H,h1,h2,h3,h4⟩;dsimp only at H h1 h2 h3 h4;unfold Jf1;dsimp only;have:=Jb i 1;have app: ∀{x:T_api_Grant} {l:List T_api_Grant},zFt (B+1) S (.l Ja) l->zFt (B+1) S Ja x->J0 l+1<=B+1->Tot (JA 32 l [x]) λr=>zFt (B+1) S (.l Ja) r/\J0 r=J0 l+1:=λhl hx M=>
  (J0u (B:=B+1) (Bl:=B+1) (Bm:=B+1) (S:=S) _ 1 hl (J0j oo hx) rfl rfl (J0C _) (J0C _) M oo (by decide)).mono λ_ h=>⟨h.1,h.2.1⟩
 have j:zFt (B+1) S Ja n:=hn.u;have G: ∀{d:Bool} {l:List T_api_Grant},i<J0 un->zFt (B+1) S (.l Ja) l->J0 l<=i+2->(d=false->J0 l<=i+1)->(∃c':Bool×Int×List T_api_Grant,(un,d,J1 .i64 i 1,n,l)=(un,c'.1,c'.2.1,n,c'.2.2)/\(0<=c'.2.1/\c'.2.1<=J0 un/\zFt (B+1) S (.l Ja) c'.2.2/\J0 c'.2.2<=c'.2.1+1/\(c'.1=false->J0 c'.2.2<=c'.2.1))/\J0 un-c'.2.1<J0 un-i/\0<=J0 un-i):=fun{d l} a1 a2 a3 a4=>
  ⟨(d,J1 .i64 i 1,l),rfl,⟨by show 0<=J1 .i64 i 1;omega,by show J1 .i64 i 1<=_;omega,a2,by show J0 l<=J1 .i64 i 1+1;omega,λe=>by show J0 l<=J1 .i64 i 1;have:=a4 e;omega⟩,by show J0 un-J1 .i64 i 1<J0 un-i;omega,oo⟩
 refine .lt (λc=>?_) λc=>Tot.map (P:=λy:List T_api_Grant=>zFt (B+1) S (.l Ja) y/\J0 y<=J0 un+1) ?_ λ_ h=>h
 ·have o:Tot (idx un i) λr=>zFt (B+1) S Ja r:=(Jh h H c).mono λ_ h=>h.1.u
  have body: ∀{d:Bool} {l:List T_api_Grant},zFt (B+1) S (.l Ja) l->J0 l<=i+1->(d=false->J0 l<=i)->Tot (ρ:=(JF4)⊕(List T_api_Grant)) ((idx un i).bind λE=>
    if neI E.1 n.1=false then
     (idx un i).bind λv=>
     if Js (eqT J0c v.2.1 n.2.1)then
      (idx un i).bind λC=>
      (JA 32 l [C]).bind λw=>
      some (.inl (un,d,J1 .i64 i 1,n,w))
     else
      some (.inl (un,d,J1 .i64 i 1,n,l))
    else
     (idx un i).bind λD=>
     (JA 32 l [D]).bind λA=>
     some (.inl (un,d,J1 .i64 i 1,n,A))) λr=>match r with
      | .inl z=> ∃c':Bool×Int×List T_api_Grant,z=(un,c'.1,c'.2.1,n,c'.2.2)/\(0<=c'.2.1/\c'.2.1<=J0 un/\zFt (B+1) S (.l Ja) c'.2.2/\J0 c'.2.2<=c'.2.1+1/\(c'.1=false->J0 c'.2.2<=c'.2.1))/\J0 un-c'.2.1<J0 un-i/\0<=J0 un-i
      | .inr y=>zFt (B+1) S (.l Ja) y/\J0 y<=J0 un+1:=fun{d l} b1 b2 F=>
   .bind o λE Q=>.nef (λ_=>.bind o λv T=>.ite (λ_=>.bind o λC I=>.bind (app b1 I oo) λw g=>.some (G c g.1 (by have:=g.2;omega) λe=>by have:=F e;have:=g.2;omega)) λ_=>.some (G c b1 oo λe=>by have:=F e;omega)) λ_=>.bind o λD J=>.bind (app b1 J oo) λA k=>.some (G c k.1 (by have:=k.2;omega) λe=>by have:=F e;have:=k.2;omega)
  refine .not (λd=>?_) λd=>(body h2 h3 h4).mono λr h=>by cases r<;>exact h
  have h4:=h4 d;refine .bind o λN O=>.bind (JhU (x1:=(N,n)) ⟨O,j⟩) λV f4=>.not (λ_=>.bind (app h2 j oo) λU L=>?_) λ_=>(body h2 h3 λ_=>h4).mono λr h=>by cases r<;>exact h
  exact(body (d:=true) L.1 (by have:=L.2;omega) λe=>by cases e).mono λr h=>by cases r<;>exact h
 ·exact .not (λd=>.bind (app h2 j (by have:=h4 d;omega)) λy f=>.some ⟨f.1,by have:=f.2;have:=h4 d;omega⟩) λ_=>.some ⟨h2,oo⟩
theorem J6H{x1:J01}(h:zFt B S JD x1)(D:BS B S 0 0:=by omega)(H:B<=1000000:=by omega):Tot (J3u x1) λy=>zFt (2*B) S JD y/\J0 y.1+J0 y.2<=J0 x1.1+J0 x1.2:=by
 unfold J3u;obtain⟨ha,hb⟩:=h;have:J0 x1.1<=B:=ha.1;have:J0 x1.2<=B:=hb.1;refine Jf (τ:=Je7) (λq=>(q.1,q.2,[],[])) (λq=>0<=q.1/\q.1<=J0 q.2.2/\zFt (2*B) S JD q.2/\J0 q.2.1+J0 q.2.2<=J0 x1.1+J0 x1.2) (λq=>3000000*J0 q.2.2+(J0 q.2.2-q.1)) ?_ (0,x1) rfl ⟨J0C _,J4,⟨ha.u,hb.u⟩,J0C _⟩;rintro⟨i,z⟩ ⟨g,h1,h2,h3⟩;dsimp only at g h1 h2 h3;unfold JcS;dsimp only;have a1:=Jb i 1;have a2:=Jb (-1) 1;have:=J4 (l:=z.1);have:=J4 (l:=z.2);refine .lt (λc=>?_) λc=>.some ⟨h2,h3⟩;refine .bind (Juw (x1:=(z,i)) ⟨h2,J3.2 oo⟩ g c) λF _=>.ite (λ_=>?_) λ_=>?_
 ·refine .bind (Jh h2.2 g c) λC f4=>.bind (JvZ (x1:=(z.1,C)) ⟨h2.1,f4.1⟩) λk r=>.bind (J6g h2.2 g (by show i<=J0 z.2;omega)) λA n=>.clo n.1 oo (by decide) (.bind (J3G h2.2 oo (by show _<=J0 z.2;omega)) λj o=>?_);have x:J0 A=i:=n.2;have G:J0 j=J0 z.2-J1 .i64 i 1:=o.2;refine .bind (J0u (B:=2*B) (Bl:=2*B) (Bm:=2*B) (S:=S) i (J0 j) n.1 o.1 x rfl oo oo oo oo (by decide)) λe v=>?_;have E:J0 e=i+J0 j:=v.2.1;have w:=r.2;dsimp only at w;refine .some ⟨(J1 .i64 (-1) 1,(k,e)),rfl,⟨by show 0<=J1 .i64 (-1) 1;omega,by show J1 .i64 (-1) 1<=J0 e;omega,⟨⟨by show J0 k<=2*B;omega,r.1.2⟩,v.1⟩,by show J0 k+J0 e<=_;omega⟩,?_,?_⟩
  ·show 3000000*J0 e+(J0 e-J1 .i64 (-1) 1)<3000000*J0 z.2+(J0 z.2-i);omega
  ·show 0<=3000000*J0 z.2+(J0 z.2-i);omega
 ·refine .some ⟨(J1 .i64 i 1,z),rfl,⟨by show 0<=J1 .i64 i 1;omega,by show J1 .i64 i 1<=J0 z.2;omega,h2,h3⟩,?_,?_⟩
  ·show 3000000*J0 z.2+(J0 z.2-J1 .i64 i 1)<3000000*J0 z.2+(J0 z.2-i);omega
  ·show 0<=3000000*J0 z.2+(J0 z.2-i);omega
end
end Go.Am
end
section
namespace Go.Am
set_option linter.unusedVariables false
set_option maxRecDepth 20000
set_option maxHeartbeats 4000000
theorem J7K{B S:Int}{x1:J9n}(h:zFt B S Jnk x1)(z:BG B S:=by omega):Tot (J3N x1) λy=>zFt B S JD y:=by
 unfold J3N;refine .bind ((J4E h.1).eqn) λA h1=>.not (λr=>?_) λr=>?_
 ·exact .some h.1
 ·have v3:=J3T h.1 h1.2 r;have e:zFt 1024 0 JD x1.1:=v3.2;refine .bind (Jao (B:=1024) (S:=0) (⟨e.1,h.2,trivial,fzr⟩)) λv n=>?_;have g:zFt 1025 0 (.l Ja) v:=n.u;refine .bind (Jao (B:=1024) (S:=0) (⟨e.2,h.2,trivial,fzr⟩)) λx j=>?_;have o:zFt 1025 0 (.l Ja) x:=j.u;refine .bind (J6H (B:=1025) (S:=0) (⟨g,o⟩)) λw q=>?_;have k:zFt 2050 0 JD w:=q.1.u;exact .some k.u
theorem J7F{B S:Int}{x1:J1E}(h:zFt B S tq1 x1)(w:BG B S:=by omega):Tot (J1j x1) λy=>zFt 4096 8192 (.pr Jm zI) y:=by
 unfold J1j;refine .bind ((J1m h.1).eqn) λA h1=>.not (λo=>?_) λo=>?_
 ·exact .some (⟨fzr,fkn 15⟩)
 ·have v3:=J1w h.1 h1.2 o;have e:zFt 4096 8192 J9 x1.1:=v3.2;refine .bind ((J3e (B:=4096) (S:=8192) (x1:=(x1.1.2.2.2.2.2.1,x1.2)) (⟨e.g.1,h.2⟩)).eqn) λn j=>?_;have:=J3.1 j.1.1;have:J0 x1.1.2.2.2.2.2.1=_:=Jk e.g.1;have: -1<=n/\n<J0 x1.1.2.2.2.2.2.1:=j.1.2;refine .lt (λq=>?_) λq=>?_
  ·exact .some (⟨fzr,fkn 16⟩)
  ·refine .bind (Jh e.g.1) λz v=>.eq (λk=>?_) λk=>?_
   ·exact .some (⟨fzr,fkn 15⟩)
   ·refine .bind (Jh e.g.1) λx r=>.some (⟨r.1,fk0⟩)
theorem Jh8{B S:Int}{x1:J1E}(h:zFt B S tq1 x1)(r:BG B S:=by omega):Tot (J2T x1) λy=>zFt 0 8192 JzM y:=by
 unfold J2T;refine .bind (J7F (B:=B) (S:=S) (h)) λg h1=>.nef (λn=>?_) λn=>?_
 ·have:J0 g.1.2.2.2.2.1<=4096:=h1.1.e.1.1;have:=J4 (l:=g.1.2.2.2.2.1);refine .eqf (λq=>?_) λq=>?_
  ·have:=J0o (J0 g.1.2.2.2.2.1) 1;refine .bind (Jh h1.1.e.1) λv w=>.le (λo=>?_) λo=>?_
   ·exact .some (⟨⟨fk0,fk0,fk0,fk0,fk0,fk0,⟨fk0,fk0,⟨trivial,Je⟩,trivial,Je⟩,Je⟩,trivial⟩)
   ·refine .bind (Jh h1.1.e.1) λx k=>.bind (J4i (B:=B) (S:=S) (⟨h.1.c.1,k.1⟩)) λz j=>.some (⟨j.1,trivial⟩)
  ·exact .some (⟨⟨fk0,fk0,fk0,fk0,fk0,fk0,⟨fk0,fk0,⟨trivial,Je⟩,trivial,Je⟩,Je⟩,trivial⟩)
 ·exact .some (⟨⟨fk0,fk0,fk0,fk0,fk0,fk0,⟨fk0,fk0,⟨trivial,Je⟩,trivial,Je⟩,Je⟩,trivial⟩)
theorem Jgx{B S:Int}{x1:JS×T_api_Change}(h:zFt B S (.pr Ju J14) x1)(o:BS B S 0 0:=by omega):Tot (J3S x1) λy=>zFt 0 S tq5 y:=by
 unfold J3S;have s0:zFt 0 S (.pr Ju J14) x1:=h;refine .bind (JbB (B:=0) (S:=S) s0.2) λv h1=>.not (λg=>?_) λg=>?_
 ·exact .some (⟨⟨fk0,fk0,J0i oo oo (.ar 16 JG)⟩,fkn 22⟩)
 ·have:=J3.1 s0.2.1;have:=J3.1 s0.2.2.1;have:0<=x1.2.1/\x1.2.1<64/\0<=x1.2.2.1/\x1.2.2.1<16/\J0 x1.2.2.2.1.2<=12/\J0 x1.2.2.2.2.2<=12:=h1.2 g;refine .ne (λj=>?_) λj=>?_
  ·exact .some (⟨⟨fk0,fk0,J0i oo oo (.ar 16 JG)⟩,fkn 6⟩)
  ·refine .bind (J77) λ_ _=>.bind (JbR s0.1.2.2) λw k=>.not (λe=>?_) λe=>?_
   ·exact .some (⟨⟨fk0,fk0,J0i oo oo (.ar 16 JG)⟩,fkn 20⟩)
   ·have n:=J1J.1 e;refine .bind (J77) λ_ _=>.bind (JbR s0.1.2.2) λr q=>.some (⟨⟨s0.1.1,s0.1.2.1,Jk3 s0.1.2.2 s0.2.2.2.2⟩,fk0⟩)
theorem Jli{B S:Int}{x1:T_api_Change}(h:zFt B S J14 x1)(e:BS B S 0 0:=by omega):Tot (J65 x1) λy=>zFt 0 S J14 y:=by unfold J65;have s0:zFt 0 S J14 x1:=h;exact .some (⟨s0.1,s0.2.1,s0.2.2.2,s0.2.2.1⟩)
theorem Jh1{B S:Int}{x1:JAW}(h:zFt B S (.pr JD Jd) x1)(v:BG B S:=by omega):Tot (J83 x1) λy=>zFt B S JD y:=by
 unfold J83;refine .bind ((J4E h.1).eqn) λw h1=>.not (λg=>?_) λg=>?_
 ·exact .some h.1
 ·have v3:=J3T h.1 h1.2 g;have e:zFt 1024 0 JD x1.1:=v3.2;refine .bind (Jao (B:=1024) (S:=0) (⟨e.1,h.2.1,trivial,h.c⟩)) λq k=>?_;have j:zFt 1025 0 (.l Ja) q:=k.u;refine .bind (J6H (B:=1025) (S:=0) (⟨j,e.2.u⟩)) λr n=>?_;have o:zFt 2050 0 JD r:=n.1.u;exact .some o.u
theorem Jmz{B S:Int}{x1:Jsw}(h:zFt B S JDR x1)(I:BG B S:=by omega):Tot (J4c x1) λy=>zFt 64 12 tq7 y:=by
 unfold J4c;refine .bind ((J3Q h.1).eqn) λL h1=>.not (λv=>?_) λv=>?_
 ·exact .some (⟨fzr,fkn 15⟩)
 ·have v3:=J2Z h.1 h1.2 v;have:J0 x1.1.2.1=_:=Jk h.1.2.1;have h10:zFt 64 12 JM x1.1:=v3.2;refine .bind ((J7c (B:=0) (S:=S) (x1:=x1.2) h.2.z).eqn) λJ k=>.ne (λj=>?_) λj=>?_
  ·exact .some (⟨fzr,k.1⟩)
  ·have D:=J7j (x:=x1.2) h.2.z k.2 j;have g:zFt 0 12 Ju x1.2:=D.2;refine .bind (J5w (B:=64) (S:=12) (⟨h10,g.1⟩)) λA e=>?_;have:=J3.1 e.1;have: -1<=A/\A<J0 x1.1.2.1:=e.2;refine .lt (λw=>?_) λw=>?_
   ·exact .some (⟨fzr,fkn 18⟩)
   ·refine .bind (Jh h10.2.1) λK F=>.le (λC=>?_) λC=>?_
    ·exact .some (⟨fzr,fkn 8⟩)
    ·refine .not (λo=>?_) λo=>?_
     ·refine .bind (J7q (B:=64) (S:=12) (⟨h10,e.1,g.u,trivial,g.2.1,trivial⟩) om om) λH q=>?_;have r:zFt 64 12 JM H:=q.1.u;exact .some (⟨r,fk0⟩)
     ·refine .bind (J7q (B:=64) (S:=12) (⟨h10,e.1,g.u,trivial,F.1.z.2.2.1,trivial⟩) om om) λG E=>?_;have n:zFt 64 12 JM G:=E.1.u;exact .some (⟨n,fk0⟩)
theorem Jer{B S:Int}{x1:Jok}(h:zFt B S Jt3 x1)(r:BG B S:=by omega):Tot (J4f x1) λy=>zFt B S tq1 y/\(y.2=0->J0 y.1.2.2.1.2.1=J0 x1.1.2.2.1.2.1+1):=by
 unfold J4f;refine .bind ((J56 (B:=B) (S:=S) (x1:=(x1.1,x1.2)) (⟨h.1,h.2.z.u⟩)).eqn) λk h1=>?_;have:J0 k.1.2.2.1.2.1=_:=Jk h1.1.1.1.c.1.2.1;have:J0 x1.1.2.2.1.2.1=_:=Jk h.1.c.1.2.1;have:=J3.1 h.2.z.2.2.2.2.2.2.1.2.1;have:k.2.2=0->J0 k.1.2.2.1.2.1=J0 x1.1.2.2.1.2.1+1/\J0 x1.1.2.2.1.2.1<=4095/\0<=x1.2.2.2.2.2.2.2.1.1/\x1.2.2.2.2.2.2.2.1.1<64/\0<=x1.2.2.2.2.2.2.2.1.2.1/\x1.2.2.2.2.2.2.2.1.2.1<16:=h1.1.2;refine .ne (λn=>?_) λn=>?_
 ·exact .some ⟨(⟨h.1,h1.1.1.c⟩),om⟩
 ·refine .bind (J90 (B:=B) (S:=S) (⟨h.1.d.1,h.2.z.2.2.2.2.2.2.1.1⟩)) λw g=>.bind (J77) λ_ _=>.bind (JbR g.1.c) λx q=>.bind (Jmz (B:=B) (S:=S) (⟨h.1.d.1,g.1.1,h1.1.1.2.1,(Jk3 g.1.c h.2.z.2.2.2.2.2.2.1.2.2.2).u⟩)) λv j=>.ne (λo=>?_) λo=>?_
  ·exact .some ⟨(⟨h.1,j.2⟩),om⟩
  ·exact .some ⟨(⟨⟨h1.1.1.1.1,h1.1.1.1.2.1,h1.1.1.1.c.1.u,j.1.u,h1.1.1.1.e.u⟩,fk0⟩),om⟩
theorem JzS{B S:Int}{x1:JIP}(h:zFt B S (.pr J9 (.pr Jm (.pr J0c zI))) x1)(p0:x1.2.2.2<=J0 x1.2.1.2.2.2.2.1)(A:0<=x1.2.2.2)(w:BC B S 0 0:=by omega):Tot (J6T x1) λy=>zFt 0 8192 JzM y:=by
 unfold J6T;have:=J3.1 h.d;have:J0 x1.2.1.2.2.2.2.1<=B:=h.2.1.e.1.1;have:=J0o x1.2.2.2 1;refine Jf (τ:=Int) (λq=>(q,x1.1,x1.2.1,x1.2.2.1,0,0,0,0,0,0,(0,0,(false,[]),false,[]),[])) (λq=>(zFt 0 0 zI q/\q<=JI .i64 x1.2.2.2 1)) (λq=>q-0) ?_ (JI .i64 x1.2.2.2 1) rfl ?_
 ·rintro g ⟨v,x⟩;unfold Jcm
  try dsimp only
  have:=J3.1 v;refine .ge (λr=>?_) λr=>?_
  ·refine .bind (Jh h.2.1.e.1) λz h10=>.bind (J4i (B:=B) (S:=S) (⟨h.1.c.1,h10.1⟩)) λC j=>.eq (λk=>?_) λk=>?_
   ·have:=J3.1 j.1.h.1.1;refine .eq (λo=>?_) λo=>?_
    ·have:=J3.1 j.1.h.1.2.1;refine .eq (λn=>?_) λn=>?_
     ·exact .some (⟨j.1,trivial⟩)
     ·have:=J0o g 1;exact .some ⟨JI .i64 g 1,rfl,⟨J2d,om⟩,om,om⟩
    ·have:=J0o g 1;exact .some ⟨JI .i64 g 1,rfl,⟨J2d,om⟩,om,om⟩
   ·have:=J0o g 1;exact .some ⟨JI .i64 g 1,rfl,⟨J2d,om⟩,om,om⟩
  ·exact .some (⟨⟨fk0,fk0,fk0,fk0,fk0,fk0,⟨fk0,fk0,⟨trivial,Je⟩,trivial,Je⟩,Je⟩,trivial⟩)
 ·try dsimp only
  exact⟨J2d,oo⟩
theorem JeK{B S:Int}{x1:Jn0}(h:zFt B S JFF x1)(o:BG B S:=by omega):Tot (J38 x1) λy=>zFt 0 8192 JzM y:=by
 unfold J38;refine .bind (J7F (B:=B) (S:=S) (⟨h.1,h.2.1⟩)) λg h1=>.nef (λj=>?_) λj=>?_
 ·have:=J3.1 h1.1.2.1;refine .ne (λn=>?_) λn=>?_
  ·exact .some (⟨⟨fk0,fk0,fk0,fk0,fk0,fk0,⟨fk0,fk0,⟨trivial,Je⟩,trivial,Je⟩,Je⟩,trivial⟩)
  ·have:J0 g.1.2.2.2.2.1<=4096:=h1.1.e.1.1;have:=J4 (l:=g.1.2.2.2.2.1);refine .bind (JzS (B:=B) (S:=S) (⟨h.1,h1.1.u,h.c,J4o h1.1.e.1.1 oo⟩) om om) λq k=>.some (⟨k.1,trivial⟩)
 ·exact .some (⟨⟨fk0,fk0,fk0,fk0,fk0,fk0,⟨fk0,fk0,⟨trivial,Je⟩,trivial,Je⟩,Je⟩,trivial⟩)
theorem Jcr{B S:Int}{x1:JzG}(h:zFt B S (.pr J9 (.pr Jm J6)) x1)(E:BG B S:=by omega):Tot (J0U x1) λy=>zFt B S tq4 y/\((y.2.1=1/\J0 y.1.2.2.1.2.1=J0 x1.1.2.2.1.2.1+1)\/y.2.1=3\/y.2.1=5):=by
 unfold J0U;refine .bind (J90 (B:=B) (S:=S) (⟨h.1.d.1,h.c.z.2.2.2.2.2.2.1.1⟩)) λL h1=>.not (λC=>?_) λC=>?_
 ·have:J0 x1.1.2.2.1.2.1<=B:=h.1.c.1.2.1.1;exact .some ⟨(⟨h.1,fkn 3,fk0,h.c.z.2.2.2.2.2.2.1.1,⟨trivial,Je⟩,fk0⟩),om⟩
 ·refine .bind (Jli (B:=0) (S:=S) h.c.z.2.2.2.2.2.2.1) λG k=>.bind (Jgx (B:=0) (S:=S) (⟨h1.1,k⟩)) λK A=>.ne (λx=>?_) λx=>?_
  ·refine .bind (J09 A.2) λI h10=>.some ⟨(⟨h.1,h10.1.u⟩),om⟩
  ·refine .bind (Jer (B:=B) (S:=S) (⟨h.1,fk0,fkn 2,h.2.1.1,fk0,fk0,h.c.z.1,k.u,Je⟩)) λn j=>?_;have:J0 n.1.2.2.1.2.1=_:=Jk j.1.1.c.1.2.1;have:J0 x1.1.2.2.1.2.1=_:=Jk h.1.c.1.2.1;have:n.2=0->J0 n.1.2.2.1.2.1=J0 x1.1.2.2.1.2.1+1:=j.2;refine .ne (λq=>?_) λq=>?_
   ·refine .bind (J09 j.1.2) λF w=>.some ⟨(⟨h.1,w.1.u⟩),om⟩
   ·have:=J3.1 h.2.1.2.1;refine .eq (λo=>?_) λo=>?_
    ·refine .bind (JeK (B:=B) (S:=S) (⟨j.1.1,h.2.1.1,k.1,k.2.1⟩)) λH D=>.not (λr=>?_) λr=>?_
     ·refine .bind (Jh1 (B:=B) (S:=S) (⟨j.1.1.e.1,h.2.1.1,k.1,k.2.1⟩)) λJ v=>.some ⟨(⟨⟨j.1.1.1,j.1.1.2.1,j.1.1.c.1,j.1.1.d.1,v,j.1.1.g⟩,fkn 1,h.2.1.1,fk0,⟨trivial,Je⟩,fk0⟩),om⟩
     ·exact .some ⟨(⟨j.1.1,fkn 1,h.2.1.1,fk0,⟨trivial,Je⟩,fk0⟩),om⟩
    ·exact .some ⟨(⟨j.1.1,fkn 1,h.2.1.1,fk0,⟨trivial,Je⟩,fk0⟩),om⟩
theorem Jha{B S:Int}{x1:J1E}(h:zFt B S tq1 x1)(P:BG B S:=by omega):Tot (J0L x1) λy=>zFt B S tq4 y/\((y.2.1=1/\J0 y.1.2.2.1.2.1=J0 x1.1.2.2.1.2.1+1)\/y.2.1=3\/y.2.1=5):=by
 unfold J0L;refine .bind (J7F (B:=B) (S:=S) (h)) λM h1=>.ne (λK=>?_) λK=>?_
 ·refine .bind (J09 h1.2) λR h4=>.some ⟨(⟨h.1,h4.1.u⟩),om⟩
 ·have:=J3.1 h1.1.2.1;refine .eq (λF=>?_) λF=>?_
  ·have:J0 M.1.2.2.2.2.1<=4096:=h1.1.e.1.1;refine .eq (λv=>?_) λv=>?_
   ·refine .bind ((J56 (B:=B) (S:=S) (x1:=(x1.1,0,5,x1.2,0,0,0,(0,0,(false,[]),false,[]),[])) (⟨h.1,fk0,fkn 5,h.2,fk0,fk0,fk0,⟨fk0,fk0,⟨trivial,Je⟩,trivial,Je⟩,Je⟩)).eqn) λr j=>?_;have:J0 r.1.2.2.1.2.1=_:=Jk j.1.1.1.c.1.2.1;have:J0 x1.1.2.2.1.2.1=_:=Jk h.1.c.1.2.1;have:r.2.2=0->J0 r.1.2.2.1.2.1=J0 x1.1.2.2.1.2.1+1/\J0 x1.1.2.2.1.2.1<=4095/\0<=(0:Int)/\(0:Int)<64/\0<=(0:Int)/\(0:Int)<16:=j.1.2;refine .ne (λH=>?_) λH=>?_
    ·refine .bind (J09 j.1.1.c) λU x=>.some ⟨(⟨h.1,x.1.u⟩),om⟩
    ·refine .bind (J7K (B:=16384) (S:=1073741824) (⟨j.1.1.1.e.1,h.2⟩)) λL A=>?_;have E:zFt 16384 1073741824 JD L:=A.u;exact .some ⟨(⟨⟨j.1.1.1.1,j.1.1.1.2.1,j.1.1.1.c.1.u,j.1.1.1.d.1.u,E.u,j.1.1.1.g.u⟩,fkn 1,fk0,fk0,⟨trivial,Je⟩,fk0⟩),om⟩
   ·refine .bind (Jh8 (B:=B) (S:=S) (h)) λQ D=>.not (λw=>?_) λw=>?_
    ·refine .bind (J09 (B:=0) (S:=0) (fkn 14)) λT C=>.some ⟨(⟨h.1,C.1.u⟩),om⟩
    ·refine .bind (Jcr (B:=B) (S:=S) (⟨h.1,h1.1.u,D.1.u⟩)) λq o=>?_;have:(q.2.1=1/\J0 q.1.2.2.1.2.1=J0 x1.1.2.2.1.2.1+1)\/q.2.1=3\/q.2.1=5:=o.2;exact .some ⟨(⟨o.1.1,o.1.2.z.u⟩),om⟩
  ·refine .bind (Jh8 (B:=B) (S:=S) (h)) λN G=>.not (λI=>?_) λI=>?_
   ·refine .bind (J09 (B:=0) (S:=0) (fkn 14)) λO J=>.some ⟨(⟨h.1,J.1.u⟩),om⟩
   ·refine .bind (Jcr (B:=B) (S:=S) (⟨h.1,h1.1.u,G.1.u⟩)) λk n=>?_;have:(k.2.1=1/\J0 k.1.2.2.1.2.1=J0 x1.1.2.2.1.2.1+1)\/k.2.1=3\/k.2.1=5:=n.2;exact .some ⟨(⟨n.1.1,n.1.2.z.u⟩),om⟩
theorem JeG{B S:Int}{x1:J1E}(h:zFt B S tq1 x1)(w:BG B S:=by omega):Tot (J6B x1) λy=>zFt 4096 8192 (.pr Jm .b) y:=by
 unfold J6B;refine .bind ((J1m h.1).eqn) λA h1=>.ite (λo=>?_) λo=>?_
 ·have v3:=J1w h.1 h1.2 o;have e:zFt 4096 8192 J9 x1.1:=v3.2;refine .bind ((J3e (B:=4096) (S:=8192) (x1:=(x1.1.2.2.2.2.2.1,x1.2)) (⟨e.g.1,h.2⟩)).eqn) λk n=>?_;have:J0 x1.1.2.2.2.2.2.1=_:=Jk e.g.1;have: -1<=k/\k<J0 x1.1.2.2.2.2.2.1:=n.1.2;refine .ge (λq=>?_) λq=>?_
  ·refine .bind (Jh e.g.1) λz v=>.eq (λj=>?_) λj=>?_
   ·refine .bind (Jh e.g.1) λx r=>.some (⟨r.1,trivial⟩)
   ·exact .some (⟨fzr,trivial⟩)
  ·exact .some (⟨fzr,trivial⟩)
 ·exact .some (⟨fzr,trivial⟩)
theorem Jtk{B S:Int}{x1:J5}(h:zFt B S J9 x1)(D:BH B S:=by omega)(K:B<=34359738368:=by omega):Tot (Ja7 x1) λy=>zFt B 0 (.l zI) y:=by
 unfold Ja7;have:J0 x1.2.2.2.2.2.1<=B:=h.g.1.1;have:=J4 (l:=x1.2.2.2.2.2.1);have:J0 x1.2.2.2.2.2.1=_:=Jk h.g.1;refine Jf (τ:=JsD) (λq=>(q.1,x1,q.2)) (λq=>(zFt 0 0 zI q.1/\0<=q.1/\(q.1<=J0 x1.2.2.2.2.2.1\/q.1<=0))/\(zFt B 0 (.l zI) q.2/\J0 q.2<=1*q.1+0)) (λq=>J0 x1.2.2.2.2.2.1-q.1) ?_ (0,[]) rfl ?_
 ·rintro⟨e,j⟩ n;dsimp only at n;obtain⟨⟨A,E,J⟩,k,F⟩:=n;unfold Jfx
  try dsimp only
  have:=J3.1 A;refine .lt (λx=>?_) λx=>?_
  ·refine .bind (Jh h.g.1) λG o=>.bind (JeG (B:=B) (S:=S) (⟨h,o.1.1⟩)) λI C=>.ite (λw=>?_) λw=>?_
   ·refine .bind (Jh h.g.1) λH r=>?_;have:J0 j<=B:=k.1;refine .bind (J0u (B:=B) (Bl:=B) (Bm:=1) (S:=0) (J0 j) 1 k (J0j (B:=1) (S:=0) (t:=zI) oo r.1.1)) λz v=>?_;have:=Jb e 1;exact .some ⟨(J1 .i64 e 1,z),rfl,⟨⟨J8,om,om⟩,v.1,om⟩,om,om⟩
   ·have:=Jb e 1;exact .some ⟨(J1 .i64 e 1,j),rfl,⟨⟨J8,om,om⟩,k,om⟩,om,om⟩
  ·exact .some k
 ·have:J0 ([]:List Int)=0:=rfl
  try dsimp only
  exact⟨⟨fk0,oo,oo⟩,Jc,oo⟩
theorem Jxj{B S:Int}{x1:Jae}(h:zFt B S JFf x1)(n:BS B S 0 0:=by omega)(w:B<=9223372036854775807:=by omega):Tot (Jb3 x1) λy=>zFt 0 0 .b y:=by
 unfold Jb3;have:J0 x1.1<=B:=h.1.1;have:=J4 (l:=x1.1);refine Jf (τ:=Int) (λq=>(x1.1,x1.2,q)) (λq=>(zFt 0 0 zI q/\0<=q/\(q<=J0 x1.1\/q<=0))) (λq=>J0 x1.1-q) ?_ 0 rfl ?_
 ·rintro e ⟨j,o,v⟩;unfold Jgt
  try dsimp only
  have:=J3.1 j;refine .lt (λk=>?_) λk=>?_
  ·refine .bind (Jh h.1) λr h10=>.eq (λg=>?_) λg=>?_
   ·exact .some trivial
   ·have:=Jb e 1;exact .some ⟨J1 .i64 e 1,rfl,⟨J8,om,om⟩,om,om⟩
  ·exact .some trivial
 ·try dsimp only
  exact⟨fk0,oo,oo⟩
theorem Jux{B S:Int}{x1:J6u}(h:zFt B S Jki x1)(k:BC B S 0 0:=by omega):Tot (Jal x1) λy=>zFt 0 256 Jbp y:=by
 unfold Jal;refine .bind ((JaG (B:=B) (S:=S) (x1:=(x1.1,x1.2)) (h)).eqn) λq h1=>.ne (λe=>?_) λe=>?_
 ·exact .some (⟨Je,h1.1⟩)
 ·have v4:=Jn1 (x:=(x1.1,x1.2)) (h) h1.2 e;have:=J3.1 h.2;have:0<=x1.2/\x1.2<J0 x1.1.1/\J0 x1.1.1<=64:=v4.1;have h10:zFt 64 256 JV x1.1:=v4.2;refine .bind (Jxj (B:=64) (S:=256) (⟨h10.c.1,h.2⟩)) λo n=>.ite (λj=>?_) λj=>?_
  ·exact .some (⟨Je,fkn 11⟩)
  ·refine .bind (Jh h10.1) λr g=>.some (⟨g.1.z,fk0⟩)
theorem J1h{B S:Int}{x1:J0I}(h:zFt B S JB x1)(D:BS B S 0 0:=by omega)(H:S<=9223372036854775807:=by omega):Tot (J08 x1) λy=>zFt 0 0 J0c y:=by
 unfold J08;have s0:zFt 0 S JB x1:=h;have:=J3.1 s0.2.2;refine .ltf (λr=>?_) λr=>?_
 ·refine .gtf (λc3=>?_) λc3=>?_
  ·have:=J3.1 s0.2.1;refine .lt (λx=>?_) λx=>?_
   ·exact .some (⟨fk0,fkn 1⟩)
   ·have:J0 x1.1<=S:=s0.1;have:=J4 (l:=x1.1);refine .gtf (λw=>?_) λw=>?_
    ·have:=J0o (J0 x1.1) x1.2.1;refine .lt (λo=>?_) λo=>?_
     ·exact .some (⟨fk0,fkn 5⟩)
     ·refine Jf (τ:=Int×Int) (λq=>(x1.1,x1.2.1,x1.2.2,q.1,q.2)) (λq=>(zFt 0 0 zI q.2/\0<=q.2/\(q.2<=x1.2.2\/q.2<=0))/\zFt 0 0 (.i .u64) q.1) (λq=>x1.2.2-q.2) ?_ (0,0) rfl ?_
      ·rintro⟨j,e⟩ g;dsimp only at g;obtain⟨⟨k,C,z⟩,F⟩:=g;unfold J96
       try dsimp only
       have:=J3.1 k;refine .lt (λn=>?_) λn=>?_
       ·have:=Jb x1.2.1 e;refine .bind (JAA (l:=x1.1)) λG E=>?_;have:=cvu .u64 (J2r .i64 8 e);refine .bind (JJ3 (B:=0) (S:=0) oo) λv A=>?_;have:=Jb e 1;exact .some ⟨(orI .u64 j v,J1 .i64 e 1),rfl,⟨⟨J8,om,om⟩,JHK⟩,om,om⟩
       ·exact .some (⟨Jd5,fk0⟩)
      ·try dsimp only
       exact⟨⟨fk0,oo,oo⟩,J50 .u64 0⟩
    ·exact .some (⟨fk0,fkn 5⟩)
  ·exact .some (⟨fk0,fkn 1⟩)
 ·exact .some (⟨fk0,fkn 1⟩)
theorem Jrh{B S:Int}{x1:Unit}(h:zFt B S .u x1)(e:BS B S 0 0:=by omega):Tot (J9j x1) λy=>zFt 0 1000000 .s y:=by unfold J9j;refine .bind (J9c (B:=0) (S:=0) (fkn 256) om om) λg h1=>.some h1.1
theorem Jp1{B S:Int}{x1:List UInt8}(h:zFt B S .s x1)(Y:BS B S 0 0:=by omega)(hS:S<=9223372036854775807:=by omega):Tot (J8k x1) λy=>zFt 0 S tq5 y:=by
 unfold J8k;have s0:zFt 0 S .s x1:=h;have:=J4 (l:=x1);refine .ne (λL=>?_) λL=>?_
 ·exact .some (⟨⟨fk0,fk0,J0i oo oo (.ar 16 JG)⟩,fkn 2⟩)
 ·refine .bind (Jrh trivial) λy2 h4=>.ite (λN=>?_) λN=>?_
  ·exact .some (⟨⟨fk0,fk0,J0i oo oo (.ar 16 JG)⟩,fkn 7⟩)
  ·refine .bind (Jcs s0) λy3 h6=>.bind (Jw8 s0) λy4 h9=>.ite (λr=>?_) λr=>?_
   ·exact .some (⟨⟨fk0,fk0,J0i oo oo (.ar 16 JG)⟩,fkn 27⟩)
   ·refine .bind ((J1h (B:=0) (S:=S) (x1:=(x1,244,4)) (⟨s0,fkn 244,fkn 4⟩)).eqn) λy5 P=>.bind (Jcs s0) λM w=>?_;have A:zFt 0 S .s M:=w.1;refine .bind (Jb6 A) λy7 R=>.ne (λI=>?_) λI=>?_
    ·exact .some (⟨⟨fk0,fk0,J0i oo oo (.ar 16 JG)⟩,fkn 3⟩)
    ·refine .bind ((J1h (B:=0) (S:=S) (x1:=(x1,0,8)) (⟨s0,fk0,fkn 8⟩)).eqn) λK D=>.bind ((J1h (B:=0) (S:=S) (x1:=(x1,8,4)) (⟨s0,fkn 8,fkn 4⟩)).eqn) λO C=>Jf (τ:=Jsx) (λq=>(x1,q.1,(0,0,Vector.replicate 16 (false,[])),q.2)) (λq=>(zFt 0 0 zI q.1/\0<=q.1/\(q.1<=16\/q.1<=0))/\zFt 0 S Ju q.2) (λq=>16-q.1) ?_ (0,(O.1,K.1,Vector.replicate 16 (false,[]))) rfl ?_
     ·rintro⟨e,g⟩ n;dsimp only at n;obtain⟨⟨z,Q,a0⟩,j⟩:=n;unfold JcZ
      try dsimp only
      have:=J3.1 z;refine .lt (λG=>?_) λG=>?_
      ·have:=JEN e 13;have:=Jd7 12 (J2r .i64 e 13);refine .bind (JAA (l:=x1)) λo U=>?_;have:=JzO o;refine .eq (λF=>?_) λF=>?_
       ·have:=Jd7 e 1;exact .some ⟨(J1 .i64 e 1,g),rfl,⟨⟨J8,om,om⟩,j⟩,om,om⟩
       ·refine .gt (λE=>?_) λE=>?_
        ·exact .some (⟨⟨fk0,fk0,J0i oo oo (.ar 16 JG)⟩,fkn 4⟩)
        ·have:=Jd7 (J1 .i64 12 (J2r .i64 e 13)) 1;have:=Jd7 (J1 .i64 (J1 .i64 12 (J2r .i64 e 13)) 1) (cvI .i64 o);refine .bind (Jcy s0) λk J=>?_;have H:zFt 0 S .s k:=J.1;refine .bind (J77) λ_ _=>.bind (JbR j.2.2) λW Z=>?_;have:=Jd7 e 1;exact .some ⟨(J1 .i64 e 1,(g.1,g.2.1,Jgc g.2.2 (Int.toNat e) (true,k))),rfl,⟨⟨J8,om,om⟩,j.1,j.2.1,Jk3 j.2.2 (⟨trivial,H⟩)⟩,om,om⟩
      ·refine .inr ?_;refine .bind (JaO j) λT V=>.nef (λx=>?_) λx=>?_
       ·refine .ite (λv=>?_) λv=>?_
        ·exact .some (⟨⟨fk0,fk0,J0i oo oo (.ar 16 JG)⟩,fkn 4⟩)
        ·exact .some (⟨j,fk0⟩)
       ·exact .some (⟨⟨fk0,fk0,J0i oo oo (.ar 16 JG)⟩,fkn 4⟩)
     ·try dsimp only
      exact⟨⟨fk0,oo,oo⟩,C.1.1,D.1.1,J0i oo oo (.ar 16 JG)⟩
theorem Jy6{B S x1:Int}(h:zFt B S zI x1)(e:BS B S 0 0:=by omega):Tot (J8X x1) λy=>zFt 0 0 Ju y:=by unfold J8X;exact .some (⟨h,fk0,J0i oo oo (.ar 16 JG)⟩)
theorem JjI{B S:Int}{x1:J4h}(h:zFt B S Jbp x1)(o:BS B S 0 0:=by omega)(r:S<=9223372036854775807:=by omega):Tot (J3r x1) λy=>zFt 0 S tq5 y:=by
 unfold J3r;have s0:zFt 0 S Jbp x1:=h;refine .ltf (λn=>?_) λn=>?_
 ·refine .ge (λc3=>?_) λc3=>?_
  ·exact .some (⟨⟨fk0,fk0,J0i oo oo (.ar 16 JG)⟩,fkn 1⟩)
  ·refine .bind (Jp1 (B:=0) (S:=S) s0.1) λv h4=>.eq (λk=>?_) λk=>?_
   ·refine .bind (Jy6 (B:=0) (S:=0) s0.2) λq g=>.some (⟨g.u,fk0⟩)
   ·refine .eq (λj=>?_) λj=>?_
    ·have:=J3.1 h4.1.1;refine .ne (λe=>?_) λe=>?_
     ·exact .some (⟨⟨fk0,fk0,J0i oo oo (.ar 16 JG)⟩,fkn 6⟩)
     ·exact .some (h4)
    ·exact .some (h4)
 ·exact .some (⟨⟨fk0,fk0,J0i oo oo (.ar 16 JG)⟩,fkn 1⟩)
theorem Jrr{B S:Int}{x1:JIi}(h:zFt B S (.pr (.l Jd) (.pr zI (.pr zI .s))) x1)(E:BC B S 0 0:=by omega)(J:S<=9223372036854775807:=by omega):Tot (J4C x1) λy=>zFt 0 S tq5 y:=by
 unfold J4C;refine .bind ((J5O h.1).eqn) λK h1=>.not (λr=>?_) λr=>?_
 ·exact .some (⟨⟨fk0,fk0,J0i oo oo (.ar 16 JG)⟩,fkn 28⟩)
 ·have v3:=J4I h.1 h1.2 r;have:J0 x1.1=_:=Jk h.1;have g:zFt 64 0 (.l Jd) x1.1:=v3.2;have:=J3.1 h.2.z.1;refine .ltf (λx=>?_) λx=>?_
  ·refine .gef (λo=>?_) λo=>?_
   ·have:=J3.1 h.2.z.2.1;refine .lt (λj=>?_) λj=>?_
    ·exact .some (⟨⟨fk0,fk0,J0i oo oo (.ar 16 JG)⟩,fkn 1⟩)
    ·refine .bind (JjI (B:=0) (S:=S) (⟨h.2.z.2.2,h.2.z.1⟩)) λF e=>.ne (λq=>?_) λq=>?_
     ·exact .some (⟨⟨fk0,fk0,J0i oo oo (.ar 16 JG)⟩,e.2⟩)
     ·have:=J3.1 e.1.2.1;refine .gt (λk=>?_) λk=>?_
      ·refine .bind (Jh g) λI C=>.gt (λw=>?_) λw=>?_
       ·exact .some (⟨⟨fk0,fk0,J0i oo oo (.ar 16 JG)⟩,fkn 9⟩)
       ·refine .bind (Jh g) λG A=>.lt (λv=>?_) λv=>?_
        ·exact .some (⟨⟨fk0,fk0,J0i oo oo (.ar 16 JG)⟩,fkn 8⟩)
        ·exact .some (⟨e.1,fk0⟩)
      ·refine .bind (Jh g) λH D=>.lt (λn=>?_) λn=>?_
       ·exact .some (⟨⟨fk0,fk0,J0i oo oo (.ar 16 JG)⟩,fkn 8⟩)
       ·exact .some (⟨e.1,fk0⟩)
   ·exact .some (⟨⟨fk0,fk0,J0i oo oo (.ar 16 JG)⟩,fkn 1⟩)
  ·exact .some (⟨⟨fk0,fk0,J0i oo oo (.ar 16 JG)⟩,fkn 1⟩)
theorem JxD{B S:Int}{x1:Jsw}(h:zFt B S JDR x1)(D:BG B S:=by omega):Tot (J3C x1) λy=>zFt 65 12 (.pr zI (.pr zI (.pr zI (.l J07)))) y/\(y.2.2.1=0->J0 y.2.2.2=J0 x1.1.2.1+1):=by
 unfold J3C;refine .bind ((J3Q h.1).eqn) λG h1=>.not (λr=>?_) λr=>?_
 ·have:J0 x1.1.2.1<=B:=h.1.2.1.1;exact .some ⟨(⟨fk0,fk0,fkn 15,Jc⟩),om⟩
 ·have w:=J2Z h.1 h1.2 r;have:J0 x1.1.2.1<=B:=h.1.2.1.1;have:J0 x1.1.2.1=_:=Jk h.1.2.1;have e:zFt 64 12 JM x1.1:=w.2;refine .bind ((J7c (B:=0) (S:=S) (x1:=x1.2) h.2.z).eqn) λE g=>.ne (λk=>?_) λk=>?_
  ·exact .some ⟨(⟨fk0,fk0,g.1,Jc⟩),om⟩
  ·have v:=J7j (x:=x1.2) h.2.z g.2 k;have n:zFt 0 12 Ju x1.2:=v.2;refine .bind (J5w (B:=64) (S:=12) (⟨e,n.1⟩)) λF C=>.ge (λo=>?_) λo=>?_
   ·exact .some ⟨(⟨fk0,fk0,fkn 25,Jc⟩),om⟩
   ·refine .eq (λq=>?_) λq=>?_
    ·exact .some ⟨(⟨fk0,fk0,fkn 21,Jc⟩),om⟩
    ·refine .clo e.2.1 oo (by decide) ?_;refine .bind (J0u (B:=65) (Bl:=64) (Bm:=1) (S:=12) (J0 x1.1.2.1) 1 e.2.1 (J0j (B:=1) (S:=12) (t:=J07) oo (⟨n.u,trivial,fk0,trivial⟩))) λA j=>?_;have:J0 A=_:=Jk j.1;exact .some ⟨(⟨e.1,e.c,fk0,j.1⟩),om⟩
theorem Jn8{B S:Int}{x1:JDU}(h:zFt B S (.pr J9 Ju) x1)(a8:BG B S:=by omega):Tot (J2D x1) λy=>zFt 4096 8192 tq1 y/\(y.2=0->J0 y.1.2.2.1.2.1=J0 x1.1.2.2.1.2.1):=by
 unfold J2D;refine .bind ((J1m h.1).eqn) λy2 h1=>.not (λM=>?_) λM=>?_
 ·have:J0 x1.1.2.2.1.2.1<=B:=h.1.c.1.2.1.1;exact .some ⟨(⟨fzr,fkn 15⟩),om⟩
 ·have Z:=J1w h.1 h1.2 M;have:=J4 (l:=x1.1.2.2.2.1.2.1);have:J0 x1.1.2.2.2.1.2.1=_:=Jk h.1.d.1.2.1;have k:zFt 4096 8192 J9 x1.1:=Z.2;refine .ltf (λP=>?_) λP=>?_
  ·refine .ge (λI=>?_) λI=>?_
   ·exact .some ⟨(⟨fzr,fkn 1⟩),om⟩
   ·have K:zFt 16384 1073741824 tq1 (x1.1,x1.2.1):=⟨k.u,h.2.z.1⟩;refine .bind (J7X K) λy3 a3=>.lt (λH=>?_) λH=>?_
    ·exact .some ⟨(⟨fzr,fkn 8⟩),om⟩
    ·have L:zFt 16384 1073741824 tq1 (x1.1,x1.2.1):=⟨k.u,h.2.z.1⟩;refine .bind (J7X L) λy4 a4=>.gt (λJ=>?_) λJ=>?_
     ·exact .some ⟨(⟨fzr,fkn 9⟩),om⟩
     ·have R:zFt 16384 S JDR (x1.1.2.2.2.1,x1.2):=⟨k.d.1.u,h.2.z.u⟩;refine .bind (JxD R) λj o=>?_;have:J0 j.2.2.2<=65:=o.1.d.1;have:=J4 (l:=j.2.2.2);have:J0 j.2.2.2=_:=Jk o.1.d;have:j.2.2.1=0->J0 j.2.2.2=J0 x1.1.2.2.2.1.2.1+1:=o.2;refine .ne (λT=>?_) λT=>?_
      ·exact .some ⟨(⟨fzr,o.1.c.1⟩),om⟩
      ·refine .bind (J9b (B:=4096) (S:=8192) (⟨k,h.2.z.1⟩)) λG U=>.ite (λQ=>?_) λQ=>?_
       ·have:=J0o (J0 j.2.2.2) 1;refine .bind (J6d (l:=j.2.2.2)) λ_ _=>.bind (JbP o.1.d) λn v=>?_;have:J0 (J0z j.2.2.2 (Int.toNat (JI .i64 (J0 j.2.2.2) 1)) (n.1,true,n.2.2))<=65:=(J4x (t:=J07) (i:=Int.toNat (JI .i64 (J0 j.2.2.2) 1)) (x:=(n.1,true,n.2.2)) o.1.d (⟨v.1.z.1.u,trivial,v.1.z.2.2⟩)).1;have:=J4 (l:=J0z j.2.2.2 (Int.toNat (JI .i64 (J0 j.2.2.2) 1)) (n.1,true,n.2.2));have:J0 (J0z j.2.2.2 (Int.toNat (JI .i64 (J0 j.2.2.2) 1)) (n.1,true,n.2.2))=_:=Jk (J4x (t:=J07) (i:=Int.toNat (JI .i64 (J0 j.2.2.2) 1)) (x:=(n.1,true,n.2.2)) o.1.d (⟨v.1.z.1.u,trivial,v.1.z.2.2⟩));have:J0 (J0z j.2.2.2 (Int.toNat (JI .i64 (J0 j.2.2.2) 1)) (n.1,true,n.2.2))=J0 j.2.2.2:=J6r;have:=J0o (J0 (J0z j.2.2.2 (Int.toNat (JI .i64 (J0 j.2.2.2) 1)) (n.1,true,n.2.2))) 1;refine .bind (J6d (l:=J0z j.2.2.2 (Int.toNat (JI .i64 (J0 j.2.2.2) 1)) (n.1,true,n.2.2))) λ_ _=>.bind (JbP (J4x (t:=J07) (i:=Int.toNat (JI .i64 (J0 j.2.2.2) 1)) (x:=(n.1,true,n.2.2)) o.1.d (⟨v.1.z.1.u,trivial,v.1.z.2.2⟩))) λA N=>?_;have:J0 x1.1.2.2.2.2.2.2.2<=4096:=k.i.1;have:=J4 (l:=x1.1.2.2.2.2.2.2.2);have:J0 x1.1.2.2.2.2.2.2.2=_:=Jk k.i;refine Jf (τ:=Jeb) (λq=>(q.1,x1.1,x1.2,(0,0,(0,[],0),(0,[],0),([],[]),[],[],[]),J0z (J0z j.2.2.2 (Int.toNat (JI .i64 (J0 j.2.2.2) 1)) (n.1,true,n.2.2)) (Int.toNat (JI .i64 (J0 (J0z j.2.2.2 (Int.toNat (JI .i64 (J0 j.2.2.2) 1)) (n.1,true,n.2.2))) 1)) (A.1,A.2.1,G.1.2.1,A.2.2.2),j.1,j.2.1,G.1,q.2)) (λq=>(zFt 0 0 zI q.1/\0<=q.1/\(q.1<=J0 x1.1.2.2.2.2.2.2.2\/q.1<=0))/\(zFt 4096 0 (.l Jd) q.2/\J0 q.2<=1*q.1+0)) (λq=>J0 x1.1.2.2.2.2.2.2.2-q.1) ?_ (0,[]) rfl ?_
        ·rintro⟨w,r⟩ F;dsimp only at F;obtain⟨⟨W,a1,a2⟩,C,a7⟩:=F;unfold J74
         try dsimp only
         have:=J3.1 W;refine .lt (λO=>?_) λO=>?_
         ·refine .bind (Jh k.i) λa5 a6=>.ne (λV=>?_) λV=>?_
          ·refine .bind (Jh k.i) λa0 Y=>?_;have:J0 r<=4096:=C.1;have:=J4 (l:=r);have:J0 r=_:=Jk C;refine .bind (J0u (B:=4096) (Bl:=4096) (Bm:=1) (S:=0) (J0 r) 1 C (J0j (B:=1) (S:=0) (t:=Jd) oo Y.1)) λE D=>?_;have:=Jb w 1;have:J0 E=_:=Jk D.1;exact .some ⟨(J1 .i64 w 1,E),rfl,⟨⟨J8,om,om⟩,D.1,om⟩,om,om⟩
          ·have:=Jb w 1;have:J0 r=_:=Jk C;exact .some ⟨(J1 .i64 w 1,r),rfl,⟨⟨J8,om,om⟩,C,om⟩,om,om⟩
         ·exact .some ⟨(⟨⟨k.1,k.2.1,k.c.1,⟨o.1.1,(J4x (t:=J07) (i:=Int.toNat (JI .i64 (J0 (J0z j.2.2.2 (Int.toNat (JI .i64 (J0 j.2.2.2) 1)) (n.1,true,n.2.2))) 1)) (x:=(A.1,A.2.1,G.1.2.1,A.2.2.2)) (J4x (t:=J07) (i:=Int.toNat (JI .i64 (J0 j.2.2.2) 1)) (x:=(n.1,true,n.2.2)) o.1.d (⟨v.1.z.1.u,trivial,v.1.z.2.2⟩)) (⟨N.1.z.1.u,trivial,U.1.2.1,trivial⟩)).u,o.1.2.1⟩,k.e.1,k.g.1,k.h.1,C.u⟩,fk0⟩),om⟩
        ·have:J0 ([]:List T_api_Row)=0:=rfl
         try dsimp only
         exact⟨⟨fk0,oo,oo⟩,Jc,oo⟩
       ·exact .some ⟨(⟨⟨k.1,k.2.1,k.c.1,⟨o.1.1,o.1.d.u,o.1.2.1⟩,k.e⟩,fk0⟩),om⟩
  ·exact .some ⟨(⟨fzr,fkn 1⟩),om⟩
theorem JrI{B S:Int}{x1:JFk}(h:zFt B S (.pr Ju J6) x1)(E:BS B S 0 0:=by omega):Tot (J4z x1) λy=>zFt 0 8192 tq5 y:=by
 unfold J4z;have s0:zFt 0 S (.pr Ju J6) x1:=h;refine .bind ((J2X (B:=0) (S:=S) (x1:=x1.2) s0.2).eqn) λH h1=>.nof (λr=>?_) λr=>?_
 ·have v3:=J2s (x:=x1.2) s0.2 h1.2 r;have g:zFt 0 8192 J6 x1.2:=v3.2;refine .bind (J1R g) λF D=>.not (λA=>?_) λA=>?_
  ·exact .some (⟨⟨fk0,fk0,J0i oo oo (.ar 16 JG)⟩,fkn 12⟩)
  ·refine .bind ((J7c (B:=0) (S:=S) (x1:=x1.1) s0.1).eqn) λG j=>.ne (λk=>?_) λk=>?_
   ·exact .some (⟨⟨fk0,fk0,J0i oo oo (.ar 16 JG)⟩,j.1⟩)
   ·have v:=J7j (x:=x1.1) s0.1 j.2 k;have q:zFt 0 12 Ju x1.1:=v.2;refine .ne (λn=>?_) λn=>?_
    ·exact .some (⟨⟨fk0,fk0,J0i oo oo (.ar 16 JG)⟩,fkn 6⟩)
    ·refine .ne (λo=>?_) λo=>?_
     ·exact .some (⟨⟨fk0,fk0,J0i oo oo (.ar 16 JG)⟩,fkn 13⟩)
     ·refine .bind (Jgx (B:=0) (S:=8192) (⟨q.u,g.h.1⟩)) λC z=>?_;have e:zFt 0 8192 tq5 C:=z.u;refine .ne (λw=>?_) λw=>?_
      ·exact .some (⟨⟨fk0,fk0,J0i oo oo (.ar 16 JG)⟩,e.2⟩)
      ·exact .some (⟨⟨e.1.1,g.1,e.1.c⟩,fk0⟩)
 ·exact .some (⟨⟨fk0,fk0,J0i oo oo (.ar 16 JG)⟩,fkn 12⟩)
section
variable {B S:Int}
theorem Juj{x1:JO×T_api_Row}(h:zFt B S (.pr JT Jd) x1)(C:BC B S 0 0:=by omega):Tot (J9Y x1) λy=>zFt 4096 8192 JDE y:=by
 obtain⟨l,n,last,e⟩:=x1;obtain⟨hl,hp,j,r⟩:=h;unfold J9Y;dsimp only;dsimp only at hl hp j r;have z0: ∀k:Int,zFt 0 0 zI k->zFt 4096 8192 JDE (([]:List J2),k):=λk hk=>⟨Jc,hk⟩;refine .bind ((J2v hl).eqn) λI h2=>.not (λ_=>.some (z0 _ (fkn 26))) λc=>.ltf (λE=>.gef (λG=>.ltf (λc3=>.lt (λ_=>.some (z0 _ (fkn 1))) λz=>?_) λ_=>.some (z0 _ (fkn 1))) λ_=>.some (z0 _ (fkn 1))) λ_=>.some (z0 _ (fkn 1));subst c;obtain⟨q,w⟩:=Jgs hl h2.2;have v:=(J26 hl h2.2 rfl).2;refine Jf (τ:=JBk) (λq=>(n,e,q.1,q.2,l)) (λq=>zFt 4096 8192 (.l J6) q.1/\zFt 0 0 zI q.2/\(J0 q.1=0\/J0 q.1+q.2<=l.1+J0 l.2.1-1)) (λq=>q.2) ?_ ([],last) rfl ⟨Jc,j,.inl rfl⟩;rintro⟨out,at_⟩ ⟨g1,g2,A⟩;dsimp only at g1 g2 A;unfold Jfa;dsimp only;refine .gt (λc=>?_) λc=>.inr (.lt (λ_=>.some (z0 _ (fkn 13))) λ_=>.some ⟨g1,fk0⟩);refine .bind ((J4i (x1:=(l,at_)) ⟨v,g2⟩).eqn) λo f4=>.ne (λ_=>.some (z0 _ (fkn 14))) λz=>.bind (J1R f4.1.1) λF H=>.nof (λ_=>.ne (λ_=>.some (z0 _ (fkn 13))) λ_=>?_) λ_=>.some (z0 _ (fkn 13));rcases Jj9 f4.2 with⟨_,_,a1,a2,a3⟩|⟨_,b⟩
 ·obtain⟨e1,e2⟩:=w _ _ a3;have J:=(J2s f4.1.1 e2 rfl).1;have:=J4 (l:=out);have K:J0 out+1<=4096:=by omega
  unfold Jbu;dsimp only;refine .bind (.bind (J0u (B:=4096) (Bl:=4096) (Bm:=4096) (S:=8192) (t:=J6) 1 (J0 out) (J0j (B:=4096) (S:=8192) oo f4.1.1) g1 rfl rfl (J0C _) (J0C _) oo oo (by decide)) λy h=>.some h) λg x=>.some ⟨(g,o.1.2.2.2.2.1),rfl,⟨x.1,f4.1.1.2.2.2.2.1,?_⟩,?_,?_⟩
  ·have D:J0 g=1+J0 out:=x.2.1;show J0 g=0\/J0 g+o.1.2.2.2.2.1<=l.1+J0 l.2.1-1;omega
  ·show o.1.2.2.2.2.1<at_;omega
  ·show 0<=at_;omega
 ·exact absurd z b
end
theorem Jqh{B S:Int}{x1:Jjz}(h:zFt B S (.pr JT tq5) x1)(v:BC B S 0 0:=by omega):Tot (J9a x1) λy=>zFt 4096 8192 JDE y:=by
 unfold J9a;refine .bind ((J2v h.1).eqn) λC h1=>.not (λn=>?_) λn=>?_
 ·exact .some (⟨Jc,fkn 26⟩)
 ·have v3:=J26 h.1 h1.2 n;have h10:zFt 4096 8192 JT x1.1:=v3.2;refine .bind ((J7c (B:=0) (S:=S) (x1:=x1.2.1) h.2.z.1).eqn) λw g=>.ne (λe=>?_) λe=>?_
  ·exact .some (⟨Jc,g.1⟩)
  ·have r:=J7j (x:=x1.2.1) h.2.z.1 g.2 e;have j:zFt 0 12 Ju x1.2.1:=r.2;refine .lt (λo=>?_) λo=>?_
   ·exact .some (⟨Jc,fkn 1⟩)
   ·refine .ge (λq=>?_) λq=>?_
    ·exact .some (fzr)
    ·refine .bind (Juj (B:=4096) (S:=8192) (⟨h10,j.1,h.2.z.2,j.2.1⟩)) λA k=>.some (k)
theorem Jvd{B S:Int}{x1:Jjz}(h:zFt B S (.pr JT tq5) x1)(D:BC B S 0 0:=by omega):Tot (J5F x1) λy=>zFt 0 (S+8192) (.pr Ju J0c) y:=by
 unfold J5F;refine .bind (Jqh (B:=B) (S:=S) (⟨h.1,h.2.z.1.u,h.2.z.2⟩)) λe h1=>.ne (λC=>?_) λC=>?_
 ·exact .some (⟨⟨fk0,fk0,J0i oo oo (.ar 16 JG)⟩,fk0,h1.2⟩)
 ·have:J0 e.1<=4096:=h1.1.1;have:=J4 (l:=e.1);have:J0 e.1=_:=Jk h1.1;refine Jf (τ:=Jsx) (λq=>(e.1,q.1,x1.1,q.2,0,0,Vector.replicate 16 (false,[]))) (λq=>(zFt 0 0 zI q.1/\0<=q.1/\(q.1<=J0 e.1\/q.1<=0))/\zFt 0 (S+8192) Ju q.2) (λq=>J0 e.1-q.1) ?_ (0,x1.2.1) rfl ?_
  ·rintro⟨g,w⟩ j;dsimp only at j;obtain⟨⟨x,G,E⟩,o⟩:=j;unfold JaU
   try dsimp only
   have:=J3.1 x;refine .lt (λn=>?_) λn=>?_
   ·refine .bind (Jh h1.1) λF r=>.bind (JrI (B:=0) (S:=(S+8192)) (⟨o,r.1.z.u⟩)) λA k=>.ne (λv=>?_) λv=>?_
    ·exact .some (⟨⟨fk0,fk0,J0i oo oo (.ar 16 JG)⟩,fk0,k.2⟩)
    ·have:=Jb g 1;exact .some ⟨(J1 .i64 g 1,A.1),rfl,⟨⟨J8,om,om⟩,k.1.u⟩,om,om⟩
   ·exact .some (⟨o,J4o h1.1.1 oo,fk0⟩)
  ·try dsimp only
   exact⟨⟨fk0,oo,oo⟩,h.2.z.1.u⟩
theorem Jww{B S:Int}{x1:Jjz}(h:zFt B S (.pr JT tq5) x1)(e:BC B S 0 0:=by omega):Tot (J5v x1) λy=>zFt 0 (S+8192) tq5 y:=by unfold J5v;refine .bind (Jvd (B:=B) (S:=S) (⟨h.1,h.2.z.1.u,h.2.z.2⟩)) λg h1=>.some (⟨h1.1,h1.c⟩)
end Go.Am
end
