/-
  Parts of a proof.
-/
import Derived.ChangeArms
import Derived.OpenShut
import Derived.ChangeBears
import Derived.ChangeStays
import Derived.Handed
import Derived.RowKit3
import Derived.WalkKit
import Derived.ProofKit
import Derived.Test.YthnapahopkopbaaGreatM2
import Derived.Test.YthnapahopkopbaaGreatM4
set_option linter.unusedSimpArgs false
set_option linter.unusedVariables false
section
namespace Go.Am
set_option linter.unusedVariables false
set_option maxRecDepth 20000
set_option maxHeartbeats 4000000
theorem Jti{B S:Int}{x1:J6c}(h:zFt B S tq7 x1)(E:BG B S:=by omega):Tot (J3I x1) λy=>zFt 128 12 tq7 y:=by
 unfold J3I;refine .bind ((J3Q h.1).eqn) λG h1=>.not (λx=>?_) λx=>?_
 ·exact .some (⟨fzr,fkn 15⟩)
 ·have v3:=J2Z h.1 h1.2 x;have:J0 x1.1.2.1<=B:=h.1.2.1.1;have:=J4 (l:=x1.1.2.1);have:J0 x1.1.2.1=_:=Jk h.1.2.1;have h10:zFt 64 12 JM x1.1:=v3.2;refine .bind (J5w (B:=64) (S:=12) (⟨h10,h.2⟩)) λo n=>?_;have:=J3.1 n.1;have: -1<=o/\o<J0 x1.1.2.1:=n.2;refine .lt (λv=>?_) λv=>?_
  ·exact .some (⟨fzr,fkn 18⟩)
  ·refine .bind (Jh h10.2.1) λF D=>.ite (λA=>?_) λA=>?_
   ·exact .some (⟨fzr,fkn 23⟩)
   ·refine .bind (J6g h10.2.1) λw g=>.clo g.1 oo (by decide) ?_;have:=Jb o 1;refine .bind (J3G h10.2.1) λk j=>?_;have:J0 w=_:=Jk g.1;have:J0 k<=64:=j.1.1;have:=J4 (l:=k);have:J0 k=_:=Jk j.1;refine .bind (J0u (B:=128) (Bl:=64) (Bm:=64) (S:=12) (J0 w) (J0 k) g.1 j.1) λC e=>.lt (λq=>?_) λq=>?_
    ·have:=J0o x1.1.2.2 1;refine .ge (λr=>?_) λr=>?_
     ·exact .some (⟨⟨h10.1,e.1,fk0⟩,fk0⟩)
     ·exact .some (⟨⟨h10.1,e.1,J2d⟩,fk0⟩)
    ·have:J0 C<=128:=e.1.1;refine .ge (λz=>?_) λz=>?_
     ·exact .some (⟨⟨h10.1,e.1,fk0⟩,fk0⟩)
     ·exact .some (⟨⟨h10.1,e.1,h10.c⟩,fk0⟩)
section
variable {B S:Int}
def JBm{σ τ ρ:Type}(R:σ->τ->Prop)(o:zOp (σ⊕ρ))(e:zOp (τ⊕ρ)):Prop:=(o=none/\e=none)\/(∃y,o=some (.inr y)/\e=some (.inr y))\/ ∃a b,o=some (.inl a)/\e=some (.inl b)/\R a b
theorem Jph{σ τ ρ:Type}{R:σ->τ->Prop}{L:σ->zOp (σ⊕ρ)}{L':τ->zOp (τ⊕ρ)}(h: ∀z g,R z g->JBm R (L z) (L' g)){z:σ}{g:τ}(hz:R z g):Jg L z=Jg L' g:=by
 have j: ∀n z g,R z g->J2g L n z=J2g L' n g:=by
  intro n
  induction n with
  |zero=>intros;rfl
  |succ n ih=>
   intro z g hz;rcases h z g hz with⟨h1,h2⟩|⟨y,h1,h2⟩|⟨a,b,h1,h2,h3⟩
   ·simp only[J2g,h1,h2]
   ·simp only[J2g,h1,h2]
   ·simp only[J2g,h1,h2];exact ih a b h3
 cases e:Jg L z with
 |some r=>obtain⟨n,hn⟩:=J2G.1 e;exact(J2G.2 ⟨n,(j n z g hz)▸hn⟩).symm
 |none=>
  cases e':Jg L' g with
  |none=>rfl
  |some r=>obtain⟨n,hn⟩:=J2G.1 e';rw[J2G.2 ⟨n,(j n z g hz).symm▸hn⟩]at e;cases e
def FrE(f g:T_api_Frame):Prop:=f.1=g.1/\f.2.1=g.2.1/\f.2.2.1=g.2.2.1
def JcG(l m:List T_api_Frame):Prop:=l.length=m.length/\ ∀(j:Nat) (f g:T_api_Frame),l[j]?=some f->m[j]?=some g->FrE f g
theorem JcG.idx{l m:List T_api_Frame}(h:JcG l m)(i:Int):(idx l i=none/\idx m i=none)\/ ∃f g,idx l i=some f/\idx m i=some g/\FrE f g:=by
 unfold Am.idx;by_cases e:0<=i
 ·rw[if_pos e,if_pos e];by_cases hl:i.toNat<l.length
  ·exact .inr ⟨_,_,zQ9 hl,zQ9 (h.1▸hl),h.2 _ _ _ (zQ9 hl) (zQ9 (h.1▸hl))⟩
  ·exact .inl ⟨Jck oo,Jck (by have:=h.1;omega)⟩
 ·rw[if_neg e,if_neg e];exact .inl ⟨rfl,rfl⟩
theorem JcG.refl(l:List T_api_Frame):JcG l l:=⟨rfl,λj f g h1 h2=>by rw[h1]at h2;injection h2 with h2;subst h2;exact⟨rfl,rfl,rfl⟩⟩
theorem JcG.put{l m:List T_api_Frame}(h:JcG l m){i:Int}{f g:T_api_Frame}(hi:Am.idx m i=some f)(e:FrE g f):JcG l (J0z m i.toNat g):=by
 refine⟨by unfold J0z;rw[List.length_set];exact h.1,λj a b ha hb=>?_⟩;unfold J0z at hb;rw[List.getElem?_set]at hb;split at hb
 ·rename_i hj;split at hb
  ·injection hb with hb;subst hb;obtain⟨_,h2⟩:=J0G hi;rw[hj]at h2;obtain⟨q1,q2,q3⟩:=h.2 j a f ha h2;exact⟨q1.trans e.1.symm,q2.trans e.2.1.symm,q3.trans e.2.2.symm⟩
  ·cases hb
 ·exact h.2 j a b ha hb
theorem JHG(n i:Int)(p q:JF)(f g:T_api_Frame)(hp:JcG p.2.1 q.2.1)(hf:FrE f g):(Jg J0b (n,i,0,p,f)=some (.inr false)/\Jg J0b (n,i,0,q,g)=some (.inr false))\/(Jg J0b (n,i,0,p,f)=some (.inl (n,J1 .i64 i 1,p))/\Jg J0b (n,i,0,q,g)=some (.inl (n,J1 .i64 i 1,q)))\/(Jg J0b (n,i,0,p,f)=none/\Jg J0b (n,i,0,q,g)=none):=by
 let w:JF->((TQ105)⊕Bool)->Bool:=λ_ r=>match r with| .inl _=>true| .inr b=>b
 have j: ∀m k,(J2g J0b m (n,i,k,p,f)=none/\J2g J0b m (n,i,k,q,g)=none)\/(J2g J0b m (n,i,k,p,f)=some (.inr false)/\J2g J0b m (n,i,k,q,g)=some (.inr false))\/(J2g J0b m (n,i,k,p,f)=some (.inl (n,J1 .i64 i 1,p))/\J2g J0b m (n,i,k,q,g)=some (.inl (n,J1 .i64 i 1,q))):=by
  intro m
  induction m with
  |zero=>intro k;exact .inl ⟨rfl,rfl⟩
  |succ m ih=>
   intro k;simp only[J2g];unfold J0b;dsimp only;by_cases hk:ltI k i=true
   ·rw[if_pos hk,if_pos hk];rcases hp.idx k with⟨e1,e2⟩|⟨a,b,e1,e2,v⟩
    ·rw[e1,e2];exact .inl ⟨rfl,rfl⟩
    ·rw[e1,e2,J06,J06,<-v.1,<-hf.1];by_cases hc:eqI a.1.1 f.1.1=true
     ·rw[if_pos hc,if_pos hc];exact .inr (.inl ⟨rfl,rfl⟩)
     ·rw[if_neg hc,if_neg hc];exact ih _
   ·rw[if_neg hk,if_neg hk];exact .inr (.inr ⟨rfl,rfl⟩)
 by_cases hx: ∃m r,J2g J0b m (n,i,0,p,f)=some r
 ·obtain⟨m,r,hm⟩:=hx;rcases j m 0 with⟨h1,_⟩|⟨h1,h2⟩|⟨h1,h2⟩
  ·rw[h1]at hm;cases hm
  ·exact .inl ⟨J2G.2 ⟨m,h1⟩,J2G.2 ⟨m,h2⟩⟩
  ·exact .inr (.inl ⟨J2G.2 ⟨m,h1⟩,J2G.2 ⟨m,h2⟩⟩)
 ·have o:Jg J0b (n,i,0,p,f)=none:=by
   cases e:Jg J0b (n,i,0,p,f)with
   |none=>rfl
   |some r=>obtain⟨m,hm⟩:=J2G.1 e;exact absurd ⟨m,r,hm⟩ hx
  have h:Jg J0b (n,i,0,q,g)=none:=by
   cases e:Jg J0b (n,i,0,q,g)with
   |none=>rfl
   |some r=>
    obtain⟨m,hm⟩:=J2G.1 e;rcases j m 0 with⟨_,h2⟩|⟨h1,_⟩|⟨h1,_⟩
    ·rw[h2]at hm;cases hm
    ·exact absurd ⟨m,_,h1⟩ hx
    ·exact absurd ⟨m,_,h1⟩ hx
  exact .inr (.inr ⟨o,h⟩)
theorem JkK{p q:JF}(hs:p.1=q.1)(hf:JcG p.2.1 q.2.1)(e:JL p=some true)(E:0<=q.2.2)(h1:q.2.2<J0 q.2.1\/q.2.2=0):JL q=some true:=by
 obtain⟨⟨D,L,C,F,G⟩,_⟩:=JbH e;have el:J0 p.2.1=J0 q.2.1:=by unfold J0;rw[hf.1]
 have I:=J5P 0 (JI .i64 (J0 q.2.1) 1);have H:=J0o (J0 q.2.1) 1;have J:=J4 (l:=q.2.1);have A: ∀x:JF,1<=x.1->x.1<=64->J0 x.2.1<=x.1->0<=x.2.2->(x.2.2<J0 x.2.1\/x.2.2=0)->JL x=Jg J60 (J0 x.2.1,0,x):=by
  intro x a1 a2 a3 a4 y;have I:=J5P 0 (JI .i64 (J0 x.2.1) 1);have H:=J0o (J0 x.2.1) 1;have J:=J4 (l:=x.2.1);unfold JL;have r:ltI x.1 1=false:=by simp only[ltI,decide_eq_false_iff_not];omega
  have v:gtI x.1 64=false:=by simp only[gtI,decide_eq_false_iff_not];omega
  have c3:gtI (J0 x.2.1) x.1=false:=by simp only[gtI,decide_eq_false_iff_not];omega
  have k:ltI x.2.2 0=false:=by simp only[ltI,decide_eq_false_iff_not];omega
  have K: ¬gtI x.2.2 (J1o 0 (JI .i64 (J0 x.2.1) 1))=true:=by simp only[gtI,decide_eq_true_eq];omega
  rw[if_pos r,if_pos v,if_pos c3,if_pos k,if_neg K]
 rw[A p D L C F G]at e;rw[A q oo oo oo E h1,<-e]
 symm
 refine Jph (R:=λz h=>z.1=J0 p.2.1/\h.1=J0 q.2.1/\z.2.1=h.2.1/\z.2.2=p/\h.2.2=q) ?_ ⟨rfl,rfl,rfl,rfl,rfl⟩;rintro⟨n,i,z⟩ ⟨M,N,h⟩ ⟨a1,a2,a3,a4,y⟩;dsimp only at a1 a2 a3 a4 y;subst a4;subst y;subst a3;subst a1;subst a2;unfold J60;dsimp only;rw[el];have j: ∀{f g:T_api_Frame},FrE f g->JBm (fun(a b:TQ105)=>a.1=J0 h.2.1/\b.1=J0 h.2.1/\a.2.1=b.2.1/\a.2.2=z/\b.2.2=h) (Jg J0b (J0 h.2.1,i,0,z,f)) (Jg J0b (J0 h.2.1,i,0,h,g)):=fun{f g} B=>by
  rcases JHG (J0 h.2.1) i z h f g hf B with⟨b1,b2⟩|⟨b1,b2⟩|⟨b1,b2⟩
  ·exact .inr (.inl ⟨_,b1,b2⟩)
  ·exact .inr (.inr ⟨_,_,b1,b2,rfl,rfl,rfl,rfl,rfl⟩)
  ·exact .inl ⟨b1,b2⟩
 have w:JBm (fun(a b:TQ105)=>a.1=J0 h.2.1/\b.1=J0 h.2.1/\a.2.1=b.2.1/\a.2.2=z/\b.2.2=h) (some (.inr false:(TQ105)⊕Bool)) (some (.inr false)):=.inr (.inl ⟨_,rfl,rfl⟩);by_cases hk:ltI i (J0 h.2.1)=true
 ·rw[if_pos hk,if_pos hk];rcases hf.idx i with⟨e1,e2⟩|⟨f,g,e1,e2,o⟩
  ·rw[e1,e2];exact .inl ⟨rfl,rfl⟩
  ·rw[e1,e2,J06,J06,<-o.1,<-o.2.1,<-o.2.2];cases hv:J1I f.1 with
   |none=>exact .inl ⟨rfl,rfl⟩
   |some b=>
    rw[J06,J06];by_cases hb:Js b=false
    ·rw[if_pos hb,if_pos hb];by_cases hd:f.2.1=true
     ·rw[if_pos hd,if_pos hd];by_cases r:ltI f.2.2.1 1=false
      ·rw[if_pos r,if_pos r];by_cases v:gtI f.2.2.1 f.1.2.1=false
       ·rw[if_pos v,if_pos v];by_cases c3:Js f.2.1=true
        ·rw[if_pos c3,if_pos c3];by_cases k:neI f.2.2.1 0=true
         ·rw[if_pos k,if_pos k];exact w
         ·rw[if_neg k,if_neg k];exact j o
        ·rw[if_neg c3,if_neg c3];exact j o
       ·rw[if_neg v,if_neg v];exact w
      ·rw[if_neg r,if_neg r];exact w
     ·rw[if_neg hd,if_neg hd];by_cases c3:Js f.2.1=true
      ·rw[if_pos c3,if_pos c3];by_cases k:neI f.2.2.1 0=true
       ·rw[if_pos k,if_pos k];exact w
       ·rw[if_neg k,if_neg k];exact j o
      ·rw[if_neg c3,if_neg c3];exact j o
    ·rw[if_neg hb,if_neg hb];exact w
 ·rw[if_neg hk,if_neg hk];exact .inr (.inl ⟨_,rfl,rfl⟩)
theorem JCY{p:JF}{id:Int}(hp:J0 p.2.1<=64){k:Int}{f:T_api_Frame}(hk:idx p.2.1 k=some f)(hf:f.1.1=id): ∀{j:Int},J15 (p,id)=some j->0<=j:=by
 intro j hj;have n:Par (J15 (p,id)) λj=>0<=j:=by
  unfold J15;dsimp only;obtain⟨o,k1⟩:=J0G hk;have v:=J4R k1;refine .while (λz=>z.1=id/\z.2.2=p/\0<=z.2.1/\z.2.1<=k) ⟨rfl,rfl,J0C _,o⟩ ?_;rintro⟨a,i,q⟩ ⟨h1,h2,h3,h4⟩;dsimp only at h1 h2 h3 h4;subst h1;subst h2;unfold J6y;dsimp only;have:=Jb i 1;refine .lt (λc=>.bind λg h=>.eq (λ_=>.some h3) λr=>.some ⟨rfl,rfl,?_,?_⟩) λc=>?_
  ·show 0<=J1 .i64 i 1;omega
  ·show J1 .i64 i 1<=k;by_cases e:i=k
   ·subst e;rw[hk]at h;injection h with h;subst h;exact absurd hf r
   ·omega
  ·exfalso;omega
 exact n _ hj
theorem InP.of{p:JF}{id:Int}(hv:JL p=some true){k:Int}{f:T_api_Frame}(hk:idx p.2.1 k=some f)(hf:f.1.1=id)(e:zFt B S JM p)(hi:zFt 0 0 zI id)(g:BS B S 0 0:=by omega)(o:B<=9223372036854775807:=by omega):InP p id:=by obtain⟨⟨_,h,n,_⟩,_⟩:=JbH hv;obtain⟨j,hj,_⟩:=J5w (B:=B) (S:=S) (x1:=(p,id)) ⟨e,hi⟩;refine⟨j,?_,JCY oo hk hf hj⟩;unfold J0S;dsimp only;rw[hv,J06,if_neg (by simp[Js]),hj];rfl
def Jm3(l:List T_api_Frame):Int:=(l.countP λf=>f.2.2.2:Nat)
theorem JoR{x1:JF}(h:zFt B S JM x1)(L:BC B S 0 0:=by omega):Tot (J39 x1) λy=>zFt 64 12 JF8 y/\(JL x1=some true->1<=J0 x1.2.1->JL y.1=some true/\InP y.1 y.2.1/\y.1.1=x1.1/\J0 y.1.2.1=J0 x1.2.1):=by
 unfold J39;refine .bind ((J3Q h).eqn) λR h2=>.not (λc=>.some ⟨⟨fzr,fk0,fkn 15⟩,λe=>by rw[e]at h2;have q:=h2.2;injection q with q;subst q;cases c⟩) λc=>.eq (λJ=>.some ⟨⟨fzr,fk0,fkn 18⟩,λ_ _=>by omega⟩) λJ=>?_;subst c;have hv:=h2.2;obtain⟨⟨N,Q,M,G,O⟩,hd⟩:=J2Z h hv rfl;have:=J4 (l:=x1.2.1);have hl:1<=J0 x1.2.1:=by omega
 refine Jf (τ:=JF) (λq=>(q,0,[],0)) (λq=>q.1=x1.1/\JcG x1.2.1 q.2.1/\0<=q.2.2/\q.2.2<J0 x1.2.1/\zFt 64 12 JM q) (λq=>Jm3 q.2.1) ?_ x1 rfl ⟨rfl,JcG.refl _,G,oo,hd⟩;rintro p ⟨g1,g2,D,P,o⟩;have el:J0 x1.2.1=J0 p.2.1:=by unfold J0;rw[g2.1]
 unfold J75;dsimp only;have n:p.2.2.toNat<p.2.1.length:=by unfold J0 at*;omega
 have v:idx p.2.1 p.2.2=some p.2.1[p.2.2.toNat]:=by unfold idx;rw[if_pos D,zQ9 n]
 have g:=o.2.1.2 _ (J8L n);have j:p.2.1[p.2.2.toNat]?=some p.2.1[p.2.2.toNat]:=zQ9 n;generalize p.2.1[p.2.2.toNat]=f at v g j;rw[v];show Tot (if f.2.2.2=true then _ else _) _;refine .ite (λC=>?_) λC=>.inr ?_
 ·show Tot ((J1s (p,p.2.2,f.1,f.2.1,f.2.2.1,false)).bind _) _;have es:J1s (p,p.2.2,f.1,f.2.1,f.2.2.1,false)=some (p.1,J0z p.2.1 p.2.2.toNat (f.1,f.2.1,f.2.2.1,false),p.2.2):=by
   unfold J1s;obtain⟨r,hr,e⟩:=(Jmo (bytes:=424) o.2.1 oo (by decide));subst e;have q3:J2l (α:=T_api_Frame) 424 p.2.1=some p.2.1:=hr;dsimp only;rw[q3,J06];have K:inb p.2.1.length p.2.2=some ():=by unfold inb;rw[if_pos ⟨D,oo⟩]
   have I:lat p.2.1 p.2.2.toNat=some f:=by unfold lat;exact j
   rw[K,J06,I,J06]
  rw[es,J06];dsimp only;have E:J0 (J0z p.2.1 p.2.2.toNat (f.1,f.2.1,f.2.2.1,false))=J0 p.2.1:=J6r;rw[E];have:=Jb p.2.2 1;refine .bind (Jts (k:=.i64) (B:=0) (S:=0) (x:=J1 .i64 p.2.2 1) (y:=J0 p.2.1) J8 oo) λz A=>.some ⟨(p.1,J0z p.2.1 p.2.2.toNat (f.1,f.2.1,f.2.2.1,false),z),rfl,⟨g1,g2.put v ⟨rfl,rfl,rfl⟩,?_,?_,o.1,J4x o.2.1 ⟨g.1,g.2.1,g.2.2.1,trivial⟩,A.1⟩,?_,?_⟩
  ·show 0<=z;exact A.2.1 oo
  ·show z<J0 x1.2.1;have:=A.c oo;omega
  ·show Jm3 (J0z p.2.1 p.2.2.toNat (f.1,f.2.1,f.2.2.1,false))<Jm3 p.2.1;unfold Jm3 J0z;rw[List.countP_set n];have F:p.2.1[p.2.2.toNat]=f:=by have:=zQ9 n;rw[j]at this;injection this with this;exact this.symm
   rw[F];have H:0<p.2.1.countP (λf=>f.2.2.2):=List.countP_pos_iff.2 ⟨f,zQ5 j,C⟩;rw[if_pos C,if_neg (by simp)];omega
  ·show 0<=Jm3 p.2.1;exact Int.natCast_nonneg _
 ·show Tot ((some f).bind _) _;rw[J06];have w:JL p=some true:=JkK g1.symm g2 hv D (.inl oo);refine .some ⟨⟨o,g.1.1,fk0⟩,λ_ _=>⟨w,InP.of (B:=64) (S:=12) w v rfl o g.1.1,g1,el.symm⟩⟩
theorem JuV{x1:J5}(h:zFt B S J9 x1)(w:BG B S:=by omega):Tot (J3f x1) λy=>zFt 16384 1073741824 (.pr J9 (.pr Ju (.pr .b zI))) y/\(y.2.2.2=0->J0 y.1.2.2.1.2.1=J0 x1.2.2.1.2.1/\J0 x1.2.2.1.2.1<=4096):=by
 unfold J3f;have g:zFt 16384 1073741824 Ju (0,0,Vector.replicate 16 (false,[])):=⟨fk0,fk0,J0i oo oo (.ar 16 JG)⟩;have v:zFt 16384 1073741824 J9 (0,0,(0,[],0),(0,[],0),([],[]),[],[],[]):=J0i oo oo J9;refine .bind ((J1m h).eqn) λC h2=>.not (λc=>.some ⟨⟨v,g,trivial,fkn 15⟩,λc=>by cases c⟩) λc=>?_;subst c;obtain⟨q,hk⟩:=J1w h h2.2 rfl;have o:=J4F h2.2;refine .lt (λc=>.some ⟨⟨hk.u,g,trivial,fk0⟩,λ_=>⟨rfl,q.2.2.2.2.2.2.2.1⟩⟩) λc=>.bind (JoR hk.2.2.2.1) λe h3=>?_;obtain⟨a1,a2,a3,a4⟩:=h3.2 o.2.1 oo;refine .bind ((J5p (B:=64) (S:=12) (x1:=(e.1,e.2.1)) ⟨h3.1.1,h3.1.2.1⟩).eqn) λA h4=>?_;have k:=JjS a2 h4.2;refine .bind (Jh h3.1.1.2.1 k h4.1.c) λn h5=>.not (λ_=>?_) λ_=>?_
 ·exact .bind (Jti (B:=16384) (S:=1073741824) (x1:=(e.1,e.2.1)) ⟨h3.1.1.u,h3.1.2.1⟩) λz r=>.some ⟨⟨⟨hk.1,hk.2.1,hk.2.2.1.u,r.1.u,hk.2.2.2.2.u⟩,g,trivial,fk0⟩,λ_=>⟨rfl,q.2.2.2.2.2.2.2.1⟩⟩
 ·exact .bind (J9g (B:=16384) (S:=1073741824) (x1:=((x1.1,x1.2.1,x1.2.2.1,e.1,x1.2.2.2.2),n.1.2.1)) ⟨⟨hk.1,hk.2.1,hk.2.2.1.u,h3.1.1.u,hk.2.2.2.2.u⟩,h5.1.1.2.1⟩) λx j=>.some ⟨⟨j.1,h5.1.1.u,trivial,fk0⟩,λ_=>⟨j.2,q.2.2.2.2.2.2.2.1⟩⟩
end
theorem JuZ{B S:Int}{x1:Jt}(h:zFt B S Jl x1)(x:BG B S:=by omega):Tot (J3g x1) λy=>zFt B S tq3 y/\(y.2=0->J0 x1.1.2.2.1.2.1<=J0 y.1.1.2.2.1.2.1):=by
 unfold J3g;refine Jf (τ:=Jt) (λq=>(q,(0,0,(0,[],0),(0,[],0),([],[]),[],[],[]),[],0,[],false,[])) (λq=>zFt B S Jl q/\(J0 x1.1.2.2.1.2.1<=J0 q.1.2.2.1.2.1)) (λq=>4097-J0 q.1.2.2.1.2.1) ?_ x1 rfl ?_
 ·rintro j ⟨o,z2⟩;unfold J8y
  try dsimp only
  have:J0 x1.1.2.2.1.2.1=_:=Jk h.1.c.1.2.1;have:J0 j.1.2.2.1.2.1=_:=Jk o.1.2.2.1.2.1;refine .bind (JuV o.1) λk g=>?_;have:J0 k.1.2.2.1.2.1<=16384:=g.1.1.c.1.2.1.1;have:=J4 (l:=k.1.2.2.1.2.1);have:J0 k.1.2.2.1.2.1=_:=Jk g.1.1.c.1.2.1;have:k.2.2.2=0->J0 k.1.2.2.1.2.1=J0 j.1.2.2.1.2.1/\J0 j.1.2.2.1.2.1<=4096:=g.2;refine .ne (λv=>?_) λv=>?_
  ·exact .some ⟨(⟨⟨fzr,Jc,fk0,Jc,trivial,Jc⟩,g.1.2.z.2.2⟩),om⟩
  ·refine .not (λw=>?_) λw=>?_
   ·exact .some ⟨(⟨⟨g.1.1.u,o.2⟩,fk0⟩),om⟩
   ·refine .bind (Jgw (B:=B) (S:=S) (⟨o,g.1.1.u,g.1.2.z.1.u⟩)) λn e=>?_;have:J0 n.1.1.2.2.1.2.1<=16384:=e.1.1.1.c.1.2.1.1;have:=J4 (l:=n.1.1.2.2.1.2.1);have:J0 n.1.1.2.2.1.2.1=_:=Jk e.1.1.1.c.1.2.1;have:n.2=0->J0 n.1.1.2.2.1.2.1=J0 k.1.2.2.1.2.1+1:=e.2;refine .ne (λr=>?_) λr=>?_
    ·exact .some ⟨(⟨⟨fzr,Jc,fk0,Jc,trivial,Jc⟩,e.1.2⟩),om⟩
    ·exact .some ⟨n.1,rfl,⟨e.1.1.u,om⟩,om,om⟩
 ·have:J0 x1.1.2.2.1.2.1<=B:=h.1.c.1.2.1.1
  try dsimp only
  exact⟨h,om⟩
theorem J7d{B S:Int}{x1:J2M}(h:zFt B S tq3 x1)(J:BG B S:=by omega)(P:S<=9223372036854775807:=by omega):Tot (J1y x1) λy=>zFt B S tq3 y/\(y.2=0->J0 x1.1.1.2.2.1.2.1<=J0 y.1.1.2.2.1.2.1):=by
 unfold J1y;refine .bind ((J1m h.1.1).eqn) λQ h1=>.not (λA=>?_) λA=>?_
 ·have:J0 x1.1.1.2.2.1.2.1<=B:=h.1.1.c.1.2.1.1;exact .some ⟨(⟨⟨fzr,Jc,fk0,Jc,trivial,Jc⟩,fkn 15⟩),om⟩
 ·have H:=J1w h.1.1 h1.2 A;have:J0 x1.1.1.2.2.1.2.1=_:=Jk h.1.1.c.1.2.1;have G:zFt 4096 8192 J9 x1.1.1:=H.2;refine .ltf (λD=>?_) λD=>?_
  ·refine .ge (λw=>?_) λw=>?_
   ·exact .some ⟨(⟨⟨fzr,Jc,fk0,Jc,trivial,Jc⟩,fkn 1⟩),om⟩
   ·refine .bind ((J5p (B:=4096) (S:=8192) (x1:=(x1.1.1.2.2.2.1,x1.2)) (⟨G.d.1,h.2⟩)).eqn) λL I=>.ge (λz=>?_) λz=>?_
    ·exact .some ⟨(⟨h.1,fk0⟩),om⟩
    ·refine .bind (JuZ h.1) λj e=>?_;have:J0 j.1.1.2.2.1.2.1=_:=Jk e.1.1.1.c.1.2.1;have:j.2=0->J0 x1.1.1.2.2.1.2.1<=J0 j.1.1.2.2.1.2.1:=e.2;refine .ne (λC=>?_) λC=>?_
     ·exact .some ⟨(⟨⟨fzr,Jc,fk0,Jc,trivial,Jc⟩,e.1.2⟩),om⟩
     ·refine .bind (Jux (B:=B) (S:=S) (⟨e.1.1.2,h.2⟩)) λN q=>.ne (λF=>?_) λF=>?_
      ·exact .some ⟨(⟨⟨fzr,Jc,fk0,Jc,trivial,Jc⟩,q.2⟩),om⟩
      ·refine .bind (J7X (B:=B) (S:=S) (⟨e.1.1.1,h.2⟩)) λO o=>.bind (Jrr (B:=B) (S:=S) (⟨e.1.1.1.h.1,h.2,o,q.1.u⟩)) λK n=>.ne (λE=>?_) λE=>?_
       ·exact .some ⟨(⟨⟨fzr,Jc,fk0,Jc,trivial,Jc⟩,n.2⟩),om⟩
       ·refine .bind (Jww (B:=B) (S:=S) (⟨e.1.1.1.c.1,n.1.u,o⟩)) λM k=>.ne (λv=>?_) λv=>?_
        ·exact .some ⟨(⟨⟨fzr,Jc,fk0,Jc,trivial,Jc⟩,k.2⟩),om⟩
        ·refine .bind (Jn8 (B:=B) (S:=(S+8192)) (⟨e.1.1.1.u,k.1.u⟩)) λr g=>?_;have:J0 r.1.2.2.1.2.1=_:=Jk g.1.1.c.1.2.1;have:r.2=0->J0 r.1.2.2.1.2.1=J0 j.1.1.2.2.1.2.1:=g.2;refine .ne (λx=>?_) λx=>?_
         ·exact .some ⟨(⟨⟨fzr,Jc,fk0,Jc,trivial,Jc⟩,g.1.2⟩),om⟩
         ·exact .some ⟨(⟨⟨g.1.1.u,e.1.1.2⟩,fk0⟩),om⟩
  ·exact .some ⟨(⟨⟨fzr,Jc,fk0,Jc,trivial,Jc⟩,fkn 1⟩),om⟩
section
variable {B S:Int}
def J3E(k y:J5):Prop:=y.2.2.2.2.2.1=k.2.2.2.2.2.1/\y.2.2.1.1=k.2.2.1.1/\ ∃m,y.2.2.1.2.1=k.2.2.1.2.1++m
theorem J3E.refl(k:J5):J3E k k:=⟨rfl,rfl,[],(JbA _).symm⟩
theorem J3E.trans{a b c:J5}(h:J3E a b)(g:J3E b c):J3E a c:=by obtain⟨h1,h2,m,h3⟩:=h;obtain⟨g1,g2,n,e⟩:=g;exact⟨g1.trans h1,g2.trans h2,m++n,by rw[e,h3,J8H]⟩
def JbE(p:JF)(id:Int):Prop:= ∃f∈p.2.1,f.1.1=id
theorem JbE.inP{p:JF}{id:Int}(h:JbE p id)(hv:JL p=some true)(n:zFt B S JM p)(o:BS B S 0 0:=by omega)(q:B<=9223372036854775807:=by omega):InP p id:=by obtain⟨f,hf,e⟩:=h;obtain⟨j,hj⟩:=J4V.1 hf;have g:=n.2.1.2 f hf;refine InP.of hv (k:=j) (f:=f) ?_ e n (e▸g.1.1);unfold idx;rw[if_pos (Int.natCast_nonneg j)];simpa using hj
theorem Jgy{l:JO}{n:Int}{y:J6t}(e:J19 (l,n)=some y)(c:y.2=0):y.1.1=l.1/\y.1.2.1=l.2.1:=by
 have g:Par (J19 (l,n)) λy=>y.2=0->y.1.1=l.1/\y.1.2.1=l.2.1:=by unfold J19;exact .bind λ_ _=>.not (λ_=>.some nofun) λ_=>.bind λ_ _=>.gt (λ_=>.some nofun) λ_=>.some λ_=>⟨rfl,rfl⟩
 exact g _ e c
theorem JrK{k:J5}{n:Int}{y:J5}(e:J1v (k,n)=some y):J3E k y/\y.2.2.2.1=k.2.2.2.1:=by
 have g:Par (J1v (k,n)) λy=>J3E k y/\y.2.2.2.1=k.2.2.2.1:=by
  unfold J1v;refine .bind λa ha=>.bind λb hb=>.eq (λc=>.some ⟨⟨rfl,?_,[],?_⟩,rfl⟩) λ_=>.some ⟨J3E.refl k,rfl⟩
  ·exact(Jgy hb c).1
  ·rw[JbA];exact(Jgy hb c).2
 exact g _ e
theorem JqX{l:List Jo}{x:J2}{y:J2z}(e:J0A (l,x)=some y)(h:x.2.2.1=0)(c:y.2=0):y.1=l:=by
 have g:Par (J0A (l,x)) λy=>y.2=0->y.1=l:=by unfold J0A;exact .bind λ_ _=>.not (λ_=>.some nofun) λ_=>.bind λ_ _=>.not (λ_=>.some nofun) λ_=>.eq (λ_=>.some λ_=>rfl) λc=>absurd h c
 exact g _ e c
theorem Jtn{x:Jok}{y:J6Z}(e:J0Q x=some y)(c:y.2.2=0)(C:x.2.2.2.1=0):J3E x.1 y.1:=by
 have D:Par (J0Q x) λy=>y.2.2=0->J3E x.1 y.1:=by
  obtain⟨k,n,B,M,L,I,r⟩:=x;dsimp only at C;subst C;unfold J0Q;dsimp only;have z: ∀{a b:Int} {g:JfF} {v:Jg1} {h:J2z} {E:List T_api_Row},J0v (k.2.2.1,(n,B,0,a,b,r))=some g->g.2.2=0->J0x (g.1,g.2.1)=some v->J0A (k.2.2.2.2.2.1,v.1)=some h->h.2=0->J3E k (k.1,k.2.1,g.1,k.2.2.2.1,k.2.2.2.2.1,h.1,E,k.2.2.2.2.2.2.2):=fun{a b g v h E} q o A w j=>by have F:=Jzp q o A w j;obtain⟨_,_,a3,_⟩:=JaZ q o;subst a3;exact⟨JqX w (by rw[F]) j,rfl,_,rfl⟩
  refine .bind λ_ _=>.not (λ_=>.some nofun) λ_=>.gt (λc=>absurd c (by decide)) λ_=>.bind λJ _=>.ite (λ_=>.bind λK _=>?_) λ_=>?_
  all_goals
   refine .bind λg q=>.ne (λc=>.some λd=>absurd d c) λo=>.bind λv A=>.bind λh w=>.ne (λc=>.some λd=>absurd d c) λj=>.bind λG _=>.ne (λc=>.some λd=>absurd d c) λH=>.some λ_=>z q o A w j
 exact D _ e c
theorem Jm7{x:J6Z}{y:J1E}(e:J2i x=some y)(c:y.2=0):J3E x.1 y.1:=by
 have g:Par (J2i x) λy=>y.2=0->J3E x.1 y.1:=by
  unfold J2i;refine .bind λ_ _=>.not (λ_=>.some nofun) λ_=>.ltf (λ_=>.gef (λ_=>.ltf (λ_=>.bind λ_ _=>.gt (λ_=>.some nofun) λ_=>.bind λj hj=>.ge (λ_=>.bind λp hp=>.ne (λc=>.some λd=>absurd d c) λ_=>?_) λ_=>?_) λ_=>.some nofun) λ_=>.some nofun) λ_=>.some nofun
  all_goals
   refine .bind λn h=>.ne (λc=>.some λd=>absurd d c) λk=>.some λ_=>Jtn h k rfl
 exact g _ e c
theorem JqN{x:JFB}{y:J2M}(e:J2t x=some y)(c:y.2=0):J3E x.2.1 y.1.1:=by
 have g:Par (J2t x) λy=>y.2=0->J3E x.2.1 y.1.1:=by unfold J2t;exact .bind λ_ _=>.bind λ_ _=>.ne (λc=>.some λd=>absurd d c) λ_=>.bind λj h4=>.ne (λc=>.some λd=>absurd d c) λh=>.some λ_=>Jm7 h4 h
 exact g _ e c
theorem Ji0{x:J5}{y:JFl}(e:J3f x=some y)(c:y.2.2.2=0):J3E x y.1:=by
 have g:Par (J3f x) λy=>y.2.2.2=0->J3E x y.1:=by
  unfold J3f;refine .bind λ_ _=>.not (λ_=>.some nofun) λ_=>.lt (λ_=>.some λ_=>J3E.refl _) λ_=>.bind λv _=>.bind λ_ _=>.bind λ_ _=>.not (λ_=>.bind λd _=>.some λ_=>?_) λ_=>.bind λj h=>.some λ_=>?_
  ·exact⟨rfl,rfl,[],(JbA _).symm⟩
  ·obtain⟨⟨a1,a2,m,a3⟩,_⟩:=JrK h;exact⟨a1,a2,m,a3⟩
 exact g _ e c
theorem JvB{x:Jt}{y:J2M}(e:J3g x=some y)(c:y.2=0):J3E x.1 y.1.1:=by
 have g:Par (J3g x) λy=>y.2=0->J3E x.1 y.1.1:=by unfold J3g;refine .while (λz=>J3E x.1 z.1.1) (J3E.refl _) ?_;rintro⟨s,z⟩ hz;dsimp only at hz;unfold J8y;dsimp only;exact .bind λj h3=>.ne (λc=>.some λd=>absurd d c) λc3=>.not (λ_=>.some λ_=>hz.trans (Ji0 h3 c3)) λ_=>.bind λk h4=>.ne (λc=>.some λd=>absurd d c) λh=>.some ((hz.trans (Ji0 h3 c3)).trans (JqN h4 h))
 exact g _ e c
theorem Jja{p:JF}{x:JS}{y:Int×Int×Int×List T_api_Frame}(e:J3C (p,x)=some y)(c:y.2.2.1=0):y.2.2.2=p.2.1++[(x,false,0,true)]:=by
 have h:Par (J3C (p,x)) λy=>y.2.2.1=0->y.2.2.2=p.2.1++[(x,false,0,true)]:=by
  unfold J3C;refine .bind λ_ _=>.not (λ_=>.some nofun) λ_=>.bind λ_ _=>.ne (λc=>.some λd=>absurd d c) λ_=>.bind λ_ _=>.ge (λ_=>.some nofun) λ_=>.eq (λ_=>.some nofun) λ_=>.bind λk h5=>.bind λn g=>.some λ_=>?_;have j:k=p.2.1:=by
   unfold J2l at h5;split at h5
   ·injection h5 with h5;exact h5.symm
   ·cases h5
  subst j;unfold JA at g;split at g
  ·injection g with g;exact g.symm
  ·cases g
 exact h _ e c
theorem Jtx{l:List T_api_Frame}{i:Nat}{f g:T_api_Frame}{id:Int}(hi:lat l i=some f)(o:g.1=f.1)(h: ∃a∈l,a.1.1=id): ∃a∈J0z l i g,a.1.1=id:=by
 obtain⟨a,ha,e⟩:=h;obtain⟨j,hj⟩:=J4V.1 ha;unfold lat at hi;have n:=(J2I.1 hi).1;by_cases k:i=j
 ·subst k;rw[hi]at hj;injection hj with hj;subst hj
  exact⟨g,J4V.2 ⟨i,by unfold J0z;rw[Jo0 n]⟩,by rw[o];exact e⟩
 ·exact⟨a,J4V.2 ⟨j,by unfold J0z;rw[Jwu k];exact hj⟩,e⟩
theorem Jor{x:JDU}{y:J1E}(e:J2D x=some y)(c:y.2=0):J3E x.1 y.1/\JbE y.1.2.2.2.1 x.2.1:=by
 have o:Par (J2D x) λy=>y.2=0->J3E x.1 y.1/\JbE y.1.2.2.2.1 x.2.1:=by
  unfold J2D;refine .bind λ_ _=>.not (λ_=>.some nofun) λ_=>.ltf (λ_=>.ge (λ_=>.some nofun) λ_=>.bind λ_ _=>.lt (λ_=>.some nofun) λ_=>.bind λ_ _=>.gt (λ_=>.some nofun) λ_=>.bind λn h5=>.ne (λc=>.some λd=>absurd d c) λq=>.bind λv _=>.ite (λ_=>.bind λ_ _=>.bind λj w=>.bind λ_ _=>.bind λh h10=>?_) λ_=>.some λ_=>?_) λ_=>.some nofun
  ·have ep:=Jja h5 q;have A: ∃a∈n.2.2.2,a.1.1=x.2.1:=by rw[ep];exact⟨_,List.mem_append_right _ (J9K.2 rfl),rfl⟩
   have h2:=Jtx (g:=(j.1,true,j.2.2)) w rfl A;have h3:=Jtx (g:=(h.1,h.2.1,v.1.2.1,h.2.2.2)) h10 rfl h2;refine .while (λz=>z.2.1=x.1/\ ∃a∈z.2.2.2.2.1,a.1.1=x.2.1) ⟨rfl,h3⟩ ?_;rintro⟨i,k,p,B,fr,a,b,r,rest⟩ ⟨hk,hz⟩;dsimp only at hk hz;subst hk;unfold J74;dsimp only;exact .lt (λ_=>.bind λ_ _=>.ne (λ_=>.bind λ_ _=>.bind λ_ _=>.some ⟨rfl,hz⟩) λ_=>.some ⟨rfl,hz⟩) λ_=>.some λ_=>⟨⟨rfl,rfl,[],(JbA _).symm⟩,hz⟩
  ·have ep:=Jja h5 q;refine⟨⟨rfl,rfl,[],(JbA _).symm⟩,?_⟩;show∃a∈n.2.2.2,a.1.1=x.2.1;rw[ep];exact⟨_,List.mem_append_right _ (J9K.2 rfl),rfl⟩
 exact o _ e c
theorem JcX{x:J4h}{y:J9k}(e:J3r x=some y)(c:y.2=0):y.1.1=x.2:=by
 have g:Par (J3r x) λy=>y.2=0->y.1.1=x.2:=by unfold J3r;refine .ltf (λ_=>.ge (λ_=>.some nofun) λ_=>.bind λj _=>.eq (λ_=>.bind λh h3=>.some λ_=>?_) λ_=>.eq (λ_=>.ne (λ_=>.some nofun) λc=>.some λ_=>c) λc=>.some λd=>absurd d c) λ_=>.some nofun;unfold J8X at h3;injection h3 with h3;subst h3;rfl
 exact g _ e c
theorem Jqy{x:(List T_api_Row)×Int×Int×List UInt8}{y:J9k}(e:J4C x=some y)(c:y.2=0):y.1.1=x.2.1:=by
 have g:Par (J4C x) λy=>y.2=0->y.1.1=x.2.1:=by unfold J4C;exact .bind λ_ _=>.not (λ_=>.some nofun) λ_=>.ltf (λ_=>.gef (λ_=>.lt (λ_=>.some nofun) λ_=>.bind λh h3=>.ne (λc=>.some λd=>absurd d c) λc3=>.gt (λ_=>.bind λ_ _=>.gt (λ_=>.some nofun) λ_=>.bind λ_ _=>.lt (λ_=>.some nofun) λ_=>.some λ_=>JcX h3 c3) λ_=>.bind λ_ _=>.lt (λ_=>.some nofun) λ_=>.some λ_=>JcX h3 c3) λ_=>.some nofun) λ_=>.some nofun
 exact g _ e c
theorem JrO{x:JFk}{y:J9k}(e:J4z x=some y)(c:y.2=0):y.1.1=x.1.1:=by
 have h: ∀{p:JS} {d:T_api_Change} {y:J9k},J3S (p,d)=some y->y.2=0->y.1.1=p.1:=fun{p d y} e c=>by
  have g:Par (J3S (p,d)) λy=>y.2=0->y.1.1=p.1:=by unfold J3S;exact .bind λ_ _=>.not (λ_=>.some nofun) λ_=>.ne (λ_=>.some nofun) λ_=>.bind λ_ _=>.bind λ_ _=>.not (λ_=>.some nofun) λ_=>.bind λ_ _=>.bind λ_ _=>.some λ_=>rfl
  exact g _ e c
 have g:Par (J4z x) λy=>y.2=0->y.1.1=x.1.1:=by unfold J4z;exact .bind λ_ _=>.nof (λ_=>.bind λ_ _=>.not (λ_=>.some nofun) λ_=>.bind λ_ _=>.ne (λc=>.some λd=>absurd d c) λ_=>.ne (λ_=>.some nofun) λ_=>.ne (λ_=>.some nofun) λ_=>.bind λk h5=>.ne (λc=>.some λd=>absurd d c) λj=>.some λ_=>by have q:=h h5 j;exact q) λ_=>.some nofun
 exact g _ e c
theorem JwT{x:Jjz}{y:J9k}(e:J5v x=some y)(c:y.2=0):y.1.1=x.2.1.1:=by
 have j: ∀{y:JB5},J5F (x.1,x.2.1,x.2.2)=some y->y.2.2=0->y.1.1=x.2.1.1:=fun{y} e c=>by
  have g:Par (J5F (x.1,x.2.1,x.2.2)) λy=>y.2.2=0->y.1.1=x.2.1.1:=by unfold J5F;refine .bind λ_ _=>.ne (λc=>.some λd=>absurd d c) λ_=>.while (λz=>z.2.2.2.1.1=x.2.1.1) rfl ?_;rintro⟨l,i,k,p,o⟩ hz;dsimp only at hz;unfold JaU;dsimp only;exact .lt (λ_=>.bind λ_ _=>.bind λn h5=>.ne (λc=>.some λd=>absurd d c) λh=>.some ((JrO h5 h).trans hz)) λ_=>.some λ_=>hz
  exact g _ e c
 have g:Par (J5v x) λy=>y.2=0->y.1.1=x.2.1.1:=by unfold J5v;exact .bind λa ha=>.some λc=>j ha c
 exact g _ e c
theorem J9h{x y:J2M}(hx:zFt B S JM x.1.1.2.2.2.1)(e:J1y x=some y)(c:y.2=0):J3E x.1.1 y.1.1/\JbE y.1.1.2.2.2.1 x.2:=by
 have o:Par (J1y x) λy=>y.2=0->J3E x.1.1 y.1.1/\JbE y.1.1.2.2.2.1 x.2:=by
  unfold J1y;refine .bind λ_ _=>.not (λ_=>.some nofun) λ_=>.ltf (λ_=>.ge (λ_=>.some nofun) λ_=>.bind λj hj=>.ge (λc=>.some λ_=>⟨J3E.refl _,?_⟩) λ_=>.bind λJ h4=>.ne (λc=>.some λd=>absurd d c) λF=>.bind λ_ _=>.ne (λc=>.some λd=>absurd d c) λ_=>.bind λ_ _=>.bind λG C=>.ne (λc=>.some λd=>absurd d c) λA=>.bind λH D=>.ne (λc=>.some λd=>absurd d c) λv=>.bind λI E=>.ne (λc=>.some λd=>absurd d c) λw=>.some λ_=>?_) λ_=>.some nofun
  ·have k:Par (J0S (x.1.1.2.2.2.1,x.2)) λj=>0<=j->JbE x.1.1.2.2.2.1 x.2:=by
    unfold J0S;refine .bind λ_ _=>.not (λ_=>.some λh=>absurd h (by decide)) λ_=>.bind λj hj=>.some ?_;have g:Par (J15 (x.1.1.2.2.2.1,x.2)) λj=>0<=j->JbE x.1.1.2.2.2.1 x.2:=by unfold J15;refine .while (λz=>z.1=x.2/\z.2.2=x.1.1.2.2.2.1) ⟨rfl,rfl⟩ ?_;rintro⟨a,i,q⟩ ⟨h1,h2⟩;dsimp only at h1 h2;subst h1;subst h2;unfold J6y;dsimp only;exact .lt (λ_=>.bind λf hf=>.eq (λc=>.some λ_=>⟨f,zQ5 (J0G hf).2,c⟩) λ_=>.some ⟨rfl,rfl⟩) λ_=>.some λh=>absurd h (by decide)
    exact g _ hj
   exact k _ hj oo
  ·obtain⟨a1,a2⟩:=Jor E w;refine⟨(JvB h4 F).trans a1,?_⟩;have r:=JwT D v;have n:=Jqy C A;dsimp only at a2 r n;rw[r,n]at a2;exact a2
 exact o _ e c
end
theorem J5h{B S x1:Int}(h:zFt B S zI x1)(g:BS B S 0 0:=by omega):Tot (J37 x1) λy=>zFt 0 0 J00 y:=by
 unfold J37;refine .ne (λe=>?_) λe=>?_
 ·refine .bind (J09 h) λj h3=>.some h3.1
 ·exact .some (⟨fkn 1,fk0,fk0,⟨trivial,Je⟩,fk0⟩)
theorem J7H{B S:Int}{x1:J9n}(h:zFt B S Jnk x1)(z:BC B S 0 0:=by omega):Tot (J3L x1) λy=>zFt 0 0 (.pr Ja .b) y:=by
 unfold J3L;refine .bind ((J4E h.1).eqn) λD h1=>.ite (λn=>?_) λn=>?_
 ·have v3:=J3T h.1 h1.2 n;have:=J4 (l:=x1.1.1);have:J0 x1.1.1=_:=Jk h.1.1;have:=J4 (l:=x1.1.2);have:J0 x1.1.2=_:=Jk h.1.2;have g:zFt 1024 0 JD x1.1:=v3.2;refine Jf (τ:=Int) (λq=>(x1.2,q,x1.1,0,(0,0),0)) (λq=>(zFt 0 0 zI q/\0<=q/\(q<=J0 x1.1.2\/q<=0))) (λq=>J0 x1.1.2-q) ?_ 0 rfl ?_
  ·rintro e ⟨r,x,w⟩;unfold JbN
   try dsimp only
   have:=J3.1 r;refine .lt (λj=>?_) λj=>?_
   ·refine .bind (Jh g.2) λC v=>.eq (λo=>?_) λo=>?_
    ·refine .bind (Jh g.2) λA k=>.some (⟨k.1,trivial⟩)
    ·have:=Jb e 1;exact .some ⟨J1 .i64 e 1,rfl,⟨J8,om,om⟩,om,om⟩
   ·exact .some (⟨fzr,trivial⟩)
  ·try dsimp only
   exact⟨fk0,oo,oo⟩
 ·exact .some (⟨fzr,trivial⟩)
section
variable {B S:Int}
theorem JcQ{x1:Jae}(h:zFt B S JFf x1)(e:BS B S 0 0:=by omega)(g:B<=17179869183:=by omega):Tot (J6G x1) λy=>zFt (B+1) S (.l zI) y/\J0 y<=J0 x1.1+1:=by obtain⟨un,n⟩:=x1;obtain⟨h,hn⟩:=h;have o:J0 un<=B:=h.1;have q:Tot (J6G (un,n)) λy=>zFt (J0 un+1) 0 (.l zI) y:=JDg (b:=J0 un) (un:=un) ⟨J0C _,h.2⟩ hn oo;exact q.mono λy hy=>⟨hy.u,hy.1⟩
end
theorem Jej{B S:Int}{x1:J9n}(h:zFt B S Jnk x1)(a2:BS B S 0 0:=by omega)(hB:B<=8589934591:=by omega):Tot (J7m x1) λy=>zFt (2*B) 0 (.l zI) y:=by
 unfold J7m;refine .bind (J7H (B:=B) (S:=S) (h)) λQ h1=>.not (λU=>?_) λU=>?_
 ·exact .some Jc
 ·have:J0 x1.1.1<=B:=h.1.1.1;have:=J4 (l:=x1.1.1);have:J0 x1.1.1=_:=Jk h.1.1;refine Jf (τ:=Jae) (λq=>(x1.2,q.1,q.2,x1.1,Q.1)) (λq=>(zFt 0 0 zI q.2/\0<=q.2/\(q.2<=J0 x1.1.1\/q.2<=0))/\(zFt B 0 (.l zI) q.1/\J0 q.1<=1*q.2+0)) (λq=>J0 x1.1.1-q.2) ?_ ([],0) rfl ?_
  ·rintro⟨e,j⟩ C;dsimp only at C;obtain⟨⟨T,w9,V⟩,v,w8⟩:=C;unfold Jgq
   try dsimp only
   have:=J3.1 T;refine .lt (λI=>?_) λI=>?_
   ·refine .bind (Jh h.1.1) λy4 K=>.bind (J4b (B:=0) (S:=0) (⟨K.1,h1.1⟩)) λy5 Z=>.ite (λP=>?_) λP=>?_
    ·refine .bind (Jh h.1.1) λy6 F=>.bind (JcQ (B:=B) (S:=0) (⟨v,F.1.1⟩)) λo z=>?_;have w:zFt (B+1) 0 (.l zI) o:=z.1.u;have:J0 o<=(B+1):=w.1;have:J0 e<=B:=v.1;have:J0 o<=J0 e+1:=z.2;have J:zFt B 0 (.l zI) o:=⟨(by omega:J0 o<=B),λx hx=>w.2 x hx⟩;have:=Jb j 1;exact .some ⟨(o,J1 .i64 j 1),rfl,⟨⟨J8,om,om⟩,J,om⟩,om,om⟩
    ·have:=Jb j 1;exact .some ⟨(e,J1 .i64 j 1),rfl,⟨⟨J8,om,om⟩,v,om⟩,om,om⟩
   ·refine .inr ?_;have:J0 x1.1.2<=B:=h.1.2.1;have:=J4 (l:=x1.1.2);have:J0 x1.1.2=_:=Jk h.1.2;have:J0 e<=B:=v.1;refine Jf (τ:=Jae) (λq=>(x1.2,q.1,q.2,x1.1,Q.1)) (λq=>(zFt 0 0 zI q.2/\0<=q.2/\(q.2<=J0 x1.1.2\/q.2<=0))/\(zFt (2*B) 0 (.l zI) q.1/\J0 q.1<=1*q.2+J0 e)) (λq=>J0 x1.1.2-q.2) ?_ (e,0) rfl ?_
    ·rintro⟨r,k⟩ D;dsimp only at D;obtain⟨⟨M,Y,a0⟩,n,a1⟩:=D;unfold JgF
     try dsimp only
     have:=J3.1 M;refine .lt (λR=>?_) λR=>?_
     ·refine .bind (Jh h.1.2) λy9 a5=>.ne (λO=>?_) λO=>?_
      ·refine .bind (Jh h.1.2) λW G=>.bind (J4b (B:=0) (S:=0) (⟨G.1,h1.1⟩)) λa6 a4=>.ite (λL=>?_) λL=>?_
       ·refine .bind (Jh h.1.2) λa3 N=>.bind (JcQ (B:=(2*B)) (S:=0) (⟨n,N.1.1⟩)) λg E=>?_;have A:zFt (2*B+1) 0 (.l zI) g:=E.1.u;have:J0 g<=(2*B+1):=A.1;have:J0 g<=J0 r+1:=E.2;have H:zFt (2*B) 0 (.l zI) g:=⟨(by omega:J0 g<=(2*B)),λx hx=>A.2 x hx⟩;have:=Jb k 1;exact .some ⟨(g,J1 .i64 k 1),rfl,⟨⟨J8,om,om⟩,H,om⟩,om,om⟩
       ·have:=Jb k 1;exact .some ⟨(r,J1 .i64 k 1),rfl,⟨⟨J8,om,om⟩,n,om⟩,om,om⟩
      ·exact .some n
     ·exact .some n
    ·try dsimp only
     exact⟨⟨fk0,oo,oo⟩,v.u,oo⟩
  ·have:J0 ([]:List Int)=0:=rfl
   try dsimp only
   exact⟨⟨fk0,oo,oo⟩,Jc,oo⟩
theorem Jlt{B S:Int}{x1:J1E}(h:zFt B S tq1 x1)(z:BH B S:=by omega)(F:B<=8589934591:=by omega):Tot (J7G x1) λy=>zFt 0 0 (.pr zI (.pr J0c .b)) y:=by
 unfold J7G;refine .bind (J7H (B:=B) (S:=S) (⟨h.1.e.1,h.2⟩)) λw h1=>.not (λr=>?_) λr=>?_
 ·exact .some (⟨fk0,fzr,trivial⟩)
 ·refine .bind (Jej (B:=B) (S:=S) (⟨h.1.e.1,h.2⟩)) λg h3=>?_;have:J0 g<=(2*B):=h3.1;have:=J4 (l:=g);refine Jf (τ:=Int) (λq=>(g,J0 g,q,x1.1,(0,0),w.1)) (λq=>(zFt 0 0 zI q/\0<=q/\(q<=J0 g\/q<=0))) (λq=>J0 g-q) ?_ 0 rfl ?_
  ·rintro j ⟨v,A,E⟩;unfold JbM
   try dsimp only
   have:=J3.1 v;refine .lt (λo=>?_) λo=>?_
   ·refine .bind (Jh h3) λC k=>.bind (JeG (B:=B) (S:=S) (⟨h.1,k.1⟩)) λD x=>.ite (λn=>?_) λn=>?_
    ·exact .some (⟨k.1,h1.1.2.1,trivial⟩)
    ·have:=Jb j 1;exact .some ⟨J1 .i64 j 1,rfl,⟨J8,om,om⟩,om,om⟩
   ·exact .some (⟨fk0,fzr,trivial⟩)
  ·try dsimp only
   exact⟨fk0,oo,oo⟩
theorem JgJ{B S:Int}{x1:JzL}(h:zFt B S JFa x1)(z:BS B S 0 0:=by omega)(E:B<=9223372036854775807:=by omega):Tot (J7h x1) λy=>zFt 0 0 zI y/\(0<=y/\y<=J0 x1.1.2):=by
 unfold J7h;refine .bind (J5D (B:=B) (S:=S) (⟨h.1,h.2.1,h.c.1⟩)) λF h1=>.eq (λr=>?_) λr=>?_
 ·have:J0 x1.1.2<=B:=h.1.2.1;have:=J4 (l:=x1.1.2);have:J0 x1.1.2=_:=Jk h.1.2;exact .some ⟨(J4o h.1.2.1 oo),om⟩
 ·have:J0 x1.1.2<=B:=h.1.2.1;have:=J4 (l:=x1.1.2);have:J0 x1.1.2=_:=Jk h.1.2;refine Jf (τ:=Int) (λq=>(q,x1.1,x1.2)) (λq=>(zFt 0 0 zI q/\0<=q/\(q<=J0 x1.1.2\/q<=0))) (λq=>J0 x1.1.2-q) ?_ 0 rfl ?_
  ·rintro e ⟨g,v,x⟩;unfold Je6
   try dsimp only
   have:=J3.1 g;refine .lt (λo=>?_) λo=>?_
   ·refine .bind (Jh h.1.2) λD k=>.ite (λj=>?_) λj=>?_
    ·have A:=J1J.1 j;refine .bind (J5D (B:=B) (S:=S) (⟨h.1,k.1.1,k.1.2.1⟩)) λC w=>.eq (λn=>?_) λn=>?_
     ·exact .some ⟨g,om⟩
     ·have:=Jb e 1;exact .some ⟨J1 .i64 e 1,rfl,⟨J8,om,om⟩,om,om⟩
    ·have:=Jb e 1;exact .some ⟨J1 .i64 e 1,rfl,⟨J8,om,om⟩,om,om⟩
   ·exact .some ⟨(J4o h.1.2.1 oo),om⟩
  ·try dsimp only
   exact⟨fk0,oo,oo⟩
theorem Jmu{B S:Int}{x1:JzL}(h:zFt B S JFa x1)(ab:BG B S:=by omega):Tot (J7y x1) λy=>zFt 4098 0 (.pr JD (.pr .b zI)) y:=by
 unfold J7y;refine .bind ((J4E h.1).eqn) λy2 h1=>.not (λM=>?_) λM=>?_
 ·exact .some (⟨fzr,trivial,fkn 17⟩)
 ·have v3:=J3T h.1 h1.2 M;have:J0 x1.1.1<=B:=h.1.1.1;have:=J4 (l:=x1.1.1);have:J0 x1.1.1=_:=Jk h.1.1;have:J0 x1.1.2<=B:=h.1.2.1;have:J0 x1.1.2=_:=Jk h.1.2;have e:zFt 1024 0 JD x1.1:=v3.2;refine .bind (JbC h.2) λy3 a4=>.not (λQ=>?_) λQ=>?_
  ·exact .some (⟨fzr,trivial,fkn 1⟩)
  ·refine .bind (J7H (B:=1024) (S:=0) (⟨e,h.2.1⟩)) λy4 a2=>.ite (λL=>?_) λL=>?_
   ·refine .not (λG=>?_) λG=>?_
    ·exact .some (⟨fzr,trivial,fkn 15⟩)
    ·have a8:=J1J.1 G;refine .ite (λH=>?_) λH=>?_
     ·exact .some (⟨e.u,trivial,fk0⟩)
     ·refine .bind (J5D (B:=1024) (S:=0) (⟨e,h.2.1,h.c.1⟩)) λy5 a1=>.ge (λJ=>?_) λJ=>?_
      ·exact .some (⟨e.u,trivial,fk0⟩)
      ·have:=Jb (J0 x1.1.1) (J0 x1.1.2);refine .eq (λW=>?_) λW=>?_
       ·exact .some (⟨fzr,trivial,fkn 21⟩)
       ·refine .bind (JgJ (B:=1024) (S:=0) (⟨e,h.2⟩)) λN r=>?_;have:=J3.1 r.1;have:0<=N/\N<=J0 x1.1.2:=r.2;refine .bind (J6g e.2) λn g=>.clo g.1 oo (by decide) ?_;have:J0 n<=1024:=g.1.1;have:=J4 (l:=n);have:J0 n=_:=Jk g.1;refine .bind (J0u (B:=1025) (Bl:=1024) (Bm:=1) (S:=0) (J0 n) 1 g.1 (J0j (B:=1) (S:=0) (t:=Ja) oo h.2)) λU D=>.bind (J3G e.2) λq o=>?_;have:J0 U=_:=Jk D.1;have:J0 q=_:=Jk o.1;refine .bind (J0u (B:=2049) (Bl:=1025) (Bm:=1024) (S:=0) (J0 U) (J0 q) D.1 o.1) λaa Z=>.bind (J6H (B:=2049) (S:=0) (⟨e.1.u,Z.1⟩)) λT P=>?_;have A:zFt 4098 0 JD T:=P.1.u;refine .bind (J5D (B:=4098) (S:=0) (⟨A,h.2.1,h.c.1⟩)) λa3 a7=>.some (⟨A,trivial,fk0⟩)
   ·refine .ite (λY=>?_) λY=>?_
    ·exact .some (⟨e.u,trivial,fk0⟩)
    ·refine .bind (J5D (B:=1024) (S:=0) (⟨e,h.2.1,h.c.1⟩)) λa6 a0=>.ge (λK=>?_) λK=>?_
     ·exact .some (⟨e.u,trivial,fk0⟩)
     ·have:=Jb (J0 x1.1.1) (J0 x1.1.2);refine .eq (λR=>?_) λR=>?_
      ·exact .some (⟨fzr,trivial,fkn 21⟩)
      ·refine .bind (JgJ (B:=1024) (S:=0) (⟨e,h.2⟩)) λv E=>?_;have:=J3.1 E.1;have:0<=v/\v<=J0 x1.1.2:=E.2;refine .bind (J6g e.2) λj k=>.clo k.1 oo (by decide) ?_;have:J0 j<=1024:=k.1.1;have:=J4 (l:=j);have:J0 j=_:=Jk k.1;refine .bind (J0u (B:=1025) (Bl:=1024) (Bm:=1) (S:=0) (J0 j) 1 k.1 (J0j (B:=1) (S:=0) (t:=Ja) oo h.2)) λw F=>.bind (J3G e.2) λx z=>?_;have:J0 w=_:=Jk F.1;have:J0 x=_:=Jk z.1;refine .bind (J0u (B:=2049) (Bl:=1025) (Bm:=1024) (S:=0) (J0 w) (J0 x) F.1 z.1) λa5 O=>.bind (J6H (B:=2049) (S:=0) (⟨e.1.u,O.1⟩)) λI V=>?_;have C:zFt 4098 0 JD I:=V.1.u;refine .bind (J5D (B:=4098) (S:=0) (⟨C,h.2.1,h.c.1⟩)) λa9 ac=>.some (⟨C,trivial,fk0⟩)
theorem JkR{B S:Int}{x1:J01}(h:zFt B S JD x1)(G:BC B S 0 0:=by omega):Tot (J7M x1) λy=>zFt 1024 0 (.l zI) y:=by
 unfold J7M;refine .bind ((J4E h).eqn) λJ h1=>.ite (λD=>?_) λD=>?_
 ·have v3:=J3T h h1.2 D;have:=J4 (l:=x1.1);have:J0 x1.1=_:=Jk h.1;have:=J4 (l:=x1.2);have:J0 x1.2=_:=Jk h.2;have C:zFt 1024 0 JD x1:=v3.2;refine Jf (τ:=Jae) (λq=>(q.1,q.2,x1)) (λq=>(zFt 0 0 zI q.2/\0<=q.2/\(q.2<=J0 x1.2\/q.2<=0))/\(zFt 1024 0 (.l zI) q.1/\J0 q.1<=1*q.2+0)) (λq=>J0 x1.2-q.2) ?_ ([],0) rfl ?_
  ·rintro⟨g,j⟩ r;dsimp only at r;obtain⟨⟨A,E,H⟩,k,F⟩:=r;unfold JbK
   try dsimp only
   have:=J3.1 A;refine .lt (λw=>?_) λw=>?_
   ·refine .bind (Jh C.2) λI v=>.bind (JcQ (B:=1024) (S:=0) (⟨k,v.1.1⟩)) λe o=>?_;have n:zFt 1025 0 (.l zI) e:=o.1.u;have:J0 e<=1025:=n.1;have:=J4 (l:=e);have:J0 g<=1024:=k.1;have:=J4 (l:=g);have:J0 e<=J0 g+1:=o.2;have z:zFt 1024 0 (.l zI) e:=⟨(by omega:J0 e<=1024),λx hx=>n.2 x hx⟩;have:=Jb j 1;exact .some ⟨(e,J1 .i64 j 1),rfl,⟨⟨J8,om,om⟩,z,om⟩,om,om⟩
   ·exact .some k
  ·have:J0 ([]:List Int)=0:=rfl
   try dsimp only
   exact⟨⟨fk0,oo,oo⟩,Jc,oo⟩
 ·exact .some Jc
section
variable {B S:Int}
theorem JEx(k:Nat): ∀{t:J01} {e:List Int} {n:Int},zFt B S JD t->zFt 1024 0 (.l zI) e->1<=J0 e->J0 e<=n->n<=1024->n-J0 e<k->0<=B->0<=S->B<=8589934591->Tot (Jel J5f k (t,e,n)) λy=>zFt 1024 0 (.l zI) y:=by
 induction k with
 |zero=>intro t e n h1 h2 h3 h4 h5 J;omega
 |succ k ih=>
  intro t e n h1 h2 h3 h4 h5 J z w K;show Tot (J5f (Jel J5f k) (t,e,n)) _;unfold J5f;dsimp only;have Q:=J0o (J0 e) 1;refine .bind (Jh h2 oo (by show _<J0 e;omega)) λL I=>.bind (Jej (B:=B) (S:=S) (x1:=(t,L)) ⟨h1,I.1⟩) λg h=>.eq (λc=>?_) λc=>?_
  ·have G:J0 g<=2*B:=JcL h.1 oo;refine Jf (τ:=Int) (λq=>(e,g,J0 g,q,t)) (λq=>0<=q/\q<=J0 g) (λq=>J0 g-q) ?_ 0 rfl ⟨J0C _,J4⟩;rintro i ⟨o,g1⟩;unfold JcF;dsimp only;have F:=Jb i 1;refine .lt (λc=>.bind (Jh h o c) λ_ _=>.bind (Jh h2 (J0C _) (by show 0<J0 e;omega)) λ_ _=>.eq (λ_=>.some h2) λ_=>.some ⟨J1 .i64 i 1,rfl,⟨oo,oo⟩,oo,oo⟩) λ_=>.some (Jc oo)
  ·have G:J0 g<=2*B:=JcL h.1 oo;refine Jf (τ:=Int) (λq=>(e,n,g,J0 g,q,t)) (λq=>0<=q/\q<=J0 g) (λq=>J0 g-q) ?_ 0 rfl ⟨J0C _,J4⟩;rintro i ⟨o,g1⟩;unfold Jd4;dsimp only;have F:=Jb i 1;refine .lt (λH=>.bind (Jh h o H) λr D=>?_) λ_=>.some (Jc oo);refine Jf (τ:=Bool×Int) (λq=>(e,n,r,q.1,g,J0 g,i,e,J0 e,q.2,t)) (λq=>0<=q.2/\q.2<=J0 e) (λq=>J0 e-q.2) ?_ (false,0) rfl ⟨J0C _,by show 0<=J0 e;omega⟩;rintro⟨E,j⟩ ⟨g2,M⟩;dsimp only at g2 M;unfold JcB;dsimp only;have R:=Jb j 1;have go: ∀b:Bool,j<J0 e-> ∃c':Bool×Int,((e,n,r,b,g,J0 g,i,e,J0 e,J1 .i64 j 1,t):JFo)=(e,n,r,c'.1,g,J0 g,i,e,J0 e,c'.2,t)/\(0<=c'.2/\c'.2<=J0 e)/\J0 e-c'.2<J0 e-j/\0<=J0 e-j:=λb hj=>⟨(b,J1 .i64 j 1),rfl,⟨by show 0<=J1 .i64 j 1;omega,by show J1 .i64 j 1<=_;omega⟩,by show J0 e-J1 .i64 j 1<_;omega,oo⟩;refine .lt (λv=>.bind (Jh h2 g2 v) λN _=>.itf (λ_=>.some (go _ v)) λ_=>.some (go _ v)) λ_=>.inr ?_;have C: ∃c':Int,((e,n,g,J0 g,J1 .i64 i 1,t):JBd)=(e,n,g,J0 g,c',t)/\(0<=c'/\c'<=J0 g)/\J0 g-c'<J0 g-i/\0<=J0 g-i:=⟨J1 .i64 i 1,rfl,⟨oo,oo⟩,oo,oo⟩;refine .ite (λ_=>.some C) λ_=>.clo h2 oo (by decide) ?_;refine .bind (J0u (B:=1024) (Bl:=1024) (Bm:=1024) (S:=0) (J0 e) 1 h2 (J0j (B:=1024) (S:=0) (t:=.i .i64) oo D.1) rfl rfl (J0C _) (J0C _) oo oo (by decide)) λP x=>.bind (ih h1 x.1 oo oo h5 oo z w K) λO A=>.gt (λ_=>.some A) λ_=>.some C
theorem JrG{x1:J9n}(h:zFt B S Jnk x1)(k:0<=B:=by omega)(j:0<=S:=by omega)(v:B<=8589934591:=by omega):Tot (J9f x1) λy=>zFt 1024 0 (.l zI) y:=by obtain⟨t,w⟩:=x1;obtain⟨e,g⟩:=h;unfold J9f;dsimp only;refine Jf (τ:=Int) (λq=>(w,q,t)) (λq=>1<=q/\q<=1025) (λq=>1025-q) ?_ 1 rfl ⟨J0C _,by decide⟩;rintro n ⟨x,g1⟩;unfold Jdh;dsimp only;have A:=Jb n 1;refine .bind (JkR e) λo r=>.le (λc=>?_) λ_=>.some (Jc oo);have z:J0 o<=1024:=r.1;refine .bind (JEx (B:=B) (S:=S) 1100 e (J0j (B:=1024) (S:=0) (t:=.i .i64) oo g) (J0C _) (by show(1:Int)<=n;omega) oo (by show n-1<1100;omega) k j v) λC f4=>.gt (λ_=>.some f4) λ_=>.some ⟨J1 .i64 n 1,rfl,⟨oo,oo⟩,oo,oo⟩
end
theorem Jfw{B S:Int}{x1:J2z}(h:zFt B S tq2 x1)(r:BC B S 0 0:=by omega):Tot (J3w x1) λy=>zFt 0 0 J0c y/\(y.2=0->0<=y.1/\y.1<J0 x1.1):=by
 unfold J3w;refine .bind ((J3R h.1).eqn) λw h1=>.not (λj=>?_) λj=>?_
 ·have:J0 x1.1<=B:=h.1.1;exact .some ⟨(⟨fk0,fkn 15⟩),om⟩
 ·have q:=J2W h.1 h1.2 j;have:J0 x1.1=_:=Jk h.1;have g:zFt 4096 0 (.l Jm) x1.1:=q.2;refine .bind (J9J (B:=4096) (S:=0) (⟨g,h.2⟩)) λk e=>?_;have:=J3.1 e.1;have: -1<=k/\k<J0 x1.1:=e.2;refine .lt (λo=>?_) λo=>?_
  ·exact .some ⟨(⟨fk0,fkn 16⟩),om⟩
  ·refine .bind (Jh g) λx v=>.ne (λn=>?_) λn=>?_
   ·exact .some ⟨(⟨fk0,fkn 15⟩),om⟩
   ·exact .some ⟨(⟨e.1,fk0⟩),om⟩
section
variable {B S:Int}
theorem JfA{x:J2z}{y:JK}(h:zFt B S tq2 x)(e:J3w x=some y)(c:y.2=0):(J0 x.1<=64)/\zFt 4096 0 (.l Jm) x.1:=by
 have g:Par (J3w x) λy=>y.2=0->J18 x.1=some true:=by unfold J3w;refine .bind λa ha=>.not (λ_=>.some nofun) λc=>?_;subst c;exact λ_ _ _=>ha
 exact J2W h.1 (g _ e c) rfl
end
theorem Jhb{B S:Int}{x1:Jop}(h:zFt B S JDI x1)(I:BG B S:=by omega):Tot (J8b x1) λy=>zFt 4096 0 tq2 y:=by
 unfold J8b;refine .bind ((Jfw (B:=B) (S:=S) (x1:=(x1.1,x1.2.1)) (⟨h.1,h.2.1⟩)).eqn) λq h1=>?_;have:=J3.1 h1.1.1.1;have:J0 x1.1=_:=Jk h.1;have:q.2=0->0<=q.1/\q.1<J0 x1.1:=h1.1.2;refine .ne (λr=>?_) λr=>?_
 ·exact .some (⟨Jc,h1.1.1.2⟩)
 ·have v9:=JfA (x:=(x1.1,x1.2.1)) (⟨h.1,h.2.1⟩) h1.2 r;have n:zFt 4096 0 (.l Jm) x1.1:=v9.2;refine .bind (Jh n) λw j=>?_;have:=J3.1 h.c;refine .ltf (λE=>?_) λE=>?_
  ·have:J0 w.2.2.2.2.2<=4096:=j.1.g.1;have:=J4 (l:=w.2.2.2.2.2);refine .ge (λC=>?_) λC=>?_
   ·exact .some (⟨Jc,fkn 19⟩)
   ·have:=Jb x1.2.2 1;refine .bind (J6g j.1.g) λo k=>.clo k.1 oo (by decide) ?_;have:J0 o<=4096:=k.1.1;have:=J4 (l:=o);refine .bind (J6d (l:=o)) λ_ _=>.bind (JbP k.1) λJ v=>.bind (J8w (B:=4096) (S:=0) (⟨j.1.1,fkn 2,j.1.c.1,v.1,j.1.e.1,k.1⟩)) λG F=>?_;have z:zFt 4096 0 Jm G:=F.u;refine .bind (J8Z (B:=4096) (S:=0) (⟨n,h1.1.1.1,z⟩) om om) λH A=>?_;have D:zFt 4096 0 (.l Jm) H:=A.1.u;exact .some (⟨D,fk0⟩)
  ·exact .some (⟨Jc,fkn 19⟩)
theorem JgY{B S:Int}{x1:J2z}(h:zFt B S tq2 x1)(C:BG B S:=by omega):Tot (J86 x1) λy=>zFt 4097 0 tq2 y:=by
 unfold J86;refine .bind ((Jfw (B:=B) (S:=S) (x1:=(x1.1,x1.2)) (h)).eqn) λo h1=>?_;have:=J3.1 h1.1.1.1;have:J0 x1.1=_:=Jk h.1;have:o.2=0->0<=o.1/\o.1<J0 x1.1:=h1.1.2;refine .ne (λr=>?_) λr=>?_
 ·exact .some (⟨Jc,h1.1.1.2⟩)
 ·have v9:=JfA (x:=(x1.1,x1.2)) (h) h1.2 r;have k:zFt 4096 0 (.l Jm) x1.1:=v9.2;refine .bind (Jh k) λn j=>?_;have:J0 n.2.2.2.2.2<=4096:=j.1.g.1;have:=J4 (l:=n.2.2.2.2.2);refine .eq (λz=>?_) λz=>?_
  ·exact .some (⟨Jc,fkn 21⟩)
  ·refine .clo j.1.g oo (by decide) ?_;refine .bind (J0u (B:=4097) (Bl:=4096) (Bm:=1) (S:=0) (J0 n.2.2.2.2.2) 1 j.1.g (J0j (B:=1) (S:=0) (t:=zI) oo j.1.c.1)) λD v=>.bind (J8Z (B:=4097) (S:=0) (⟨k.u,h1.1.1.1,j.1.1,j.1.2.1,j.1.c.1,j.1.d.1,j.1.e.1.u,v.1⟩) om om) λA q=>?_;have w:zFt 4097 0 (.l Jm) A:=q.1.u;exact .some (⟨w,fk0⟩)
theorem Jq6{B S:Int}{x1:List Int}(h:zFt B S (.l zI) x1)(g:BS B S 0 0:=by omega):Tot (J98 x1) λy=>zFt 0 0 zI y:=by
 unfold J98;have:=J4 (l:=x1);refine .eq (λe=>?_) λe=>?_
 ·exact .some fk0
 ·refine .bind (Jh h) λj h4=>.some h4.1
theorem Jya{B S:Int}{x1:J1E}(h:zFt B S tq1 x1)(g:BS B S 0 0:=by omega)(k:B<=8589934591:=by omega):Tot (Jbc x1) λy=>zFt 0 0 zI y:=by unfold Jbc;refine .bind (Jej (B:=B) (S:=S) (⟨h.1.e.1,h.2⟩)) λn h1=>.bind (Jq6 h1) λj h2=>.some h2
theorem JxT{B S:Int}{x1:J6c}(h:zFt B S tq7 x1)(n:BH B S:=by omega)(q:B<=34359738368:=by omega):Tot (J6o x1) λy=>zFt B S JM y:=by
 unfold J6o;refine .bind ((J5p (B:=B) (S:=S) (x1:=(x1.1,x1.2)) (h)).eqn) λg h1=>?_;have:=J3.1 h1.1.1;have:J0 x1.1.2.1=_:=Jk h.1.2.1;have: -1<=g/\g<J0 x1.1.2.1:=h1.1.2;refine .lt (λk=>?_) λk=>?_
 ·exact .some h.1
 ·refine .bind (Jh h.1.2.1) λo e=>.bind (J7q (B:=B) (S:=S) (⟨h.1,h1.1.1,e.1.z.1.u,trivial,e.1.z.2.2.1,trivial⟩) om om) λr j=>.some j.1
theorem JnT{B S:Int}{x1:JcH}(h:zFt B S Jnb x1)(p0:0<=x1.2.2.2.2.1)(L:x1.2.2.2.2.1<16)(I:J0 x1.2.2.2.2.2<=12)(G:BH B S:=by omega)(N:B<=34359738368:=by omega):Tot (J2B x1) λy=>zFt B S tq4 y/\(J0 x1.1.2.2.1.2.1<=J0 y.1.2.2.1.2.1):=by
 unfold J2B;refine .bind (J90 (B:=B) (S:=S) (⟨h.1.d.1,h.2.z.2.2.1⟩)) λO h4=>.not (λE=>?_) λE=>?_
 ·have:J0 x1.1.2.2.1.2.1<=B:=h.1.c.1.2.1.1;exact .some ⟨(⟨h.1,fkn 3,fk0,h.2.z.2.2.1,⟨trivial,Je⟩,fk0⟩),om⟩
 ·have:=J3.1 h.2.z.2.1;refine .eq (λD=>?_) λD=>?_
  ·refine .bind (JxT (B:=B) (S:=S) (⟨h.1.d.1,h.2.z.2.2.1⟩)) λJ w=>.bind (J77) λ_ _=>.bind (JbR h4.1.c) λK q=>.some ⟨(⟨⟨h.1.1,h.1.2.1,h.1.c.1,w,h.1.e⟩,fkn 1,fk0,fk0,q.u,fk0⟩),om⟩
  ·refine .bind (J77) λ_ _=>.bind (JbR h4.1.c) λH n=>.eq (λx=>?_) λx=>?_
   ·refine .bind (Jer (B:=B) (S:=S) (⟨h.1,fk0,fkn 1,h.2.z.1,fk0,fk0,fk0,⟨h.2.z.2.2.1,h.2.z.2.2.2.1,n.u,trivial,h.2.z.2.2.2.2.u⟩,Je⟩)) λo j=>?_;have:J0 o.1.2.2.1.2.1=_:=Jk j.1.1.c.1.2.1;have:J0 x1.1.2.2.1.2.1=_:=Jk h.1.c.1.2.1;have:o.2=0->J0 o.1.2.2.1.2.1=J0 x1.1.2.2.1.2.1+1:=j.2;refine .ne (λr=>?_) λr=>?_
    ·refine .bind (J09 j.1.2) λM v=>.some ⟨(⟨h.1,v.1.u⟩),om⟩
    ·exact .some ⟨(⟨j.1.1,fkn 1,fk0,fk0,⟨trivial,Je⟩,fk0⟩),om⟩
   ·refine .bind (Jer (B:=B) (S:=S) (⟨h.1,fk0,fkn 1,h.2.z.1,fk0,fk0,fk0,⟨h.2.z.2.2.1,h.2.z.2.2.2.1,n.u,trivial,Je⟩,Je⟩)) λk g=>?_;have:J0 k.1.2.2.1.2.1=_:=Jk g.1.1.c.1.2.1;have:J0 x1.1.2.2.1.2.1=_:=Jk h.1.c.1.2.1;have:k.2=0->J0 k.1.2.2.1.2.1=J0 x1.1.2.2.1.2.1+1:=g.2;refine .ne (λC=>?_) λC=>?_
    ·refine .bind (J09 g.1.2) λF A=>.some ⟨(⟨h.1,A.1.u⟩),om⟩
    ·exact .some ⟨(⟨g.1.1,fkn 1,fk0,fk0,⟨trivial,Je⟩,fk0⟩),om⟩
theorem Jol{B S:Int}{x1:J1E}(h:zFt B S tq1 x1)(D:Has x1.1.2.2.2.2.2.1 x1.2)(G:BH B S:=by omega)(M:B<=34359738368:=by omega):Tot (J2F x1) λy=>zFt B S tq4 y/\(J0 x1.1.2.2.1.2.1<=J0 y.1.2.2.1.2.1):=by
 unfold J2F;refine .bind ((J3e (B:=B) (S:=S) (x1:=(x1.1.2.2.2.2.2.1,x1.2)) (⟨h.1.g.1,h.2⟩)).eqn) λr h1=>?_;have:0<=r:=JjH D h1.2;have:J0 x1.1.2.2.2.2.2.1=_:=Jk h.1.g.1;have: -1<=r/\r<J0 x1.1.2.2.2.2.2.1:=h1.1.2;refine .bind (Jh h.1.g.1) λI K=>.eq (λE=>?_) λE=>?_
 ·refine .bind (JaE (B:=B) (S:=S) (⟨h.1.g.1,h.2⟩)) λL A=>.bind (J7K (B:=B) (S:=S) (⟨h.1.e.1,h.2⟩)) λJ z=>.some ⟨(⟨⟨h.1.1,h.1.2.1,h.1.c.1,h.1.d.1,z,A,h.1.h⟩,fkn 1,fk0,fk0,⟨trivial,Je⟩,fk0⟩),om⟩
 ·refine .bind ((J56 (B:=B) (S:=S) (x1:=(x1.1,0,3,x1.2,0,0,0,(0,0,(false,[]),false,[]),[])) (⟨h.1,fk0,fkn 3,h.2,fk0,fk0,fk0,⟨fk0,fk0,⟨trivial,Je⟩,trivial,Je⟩,Je⟩)).eqn) λn k=>?_;have:J0 n.1.2.2.1.2.1=_:=Jk k.1.1.1.c.1.2.1;have:J0 x1.1.2.2.1.2.1=_:=Jk h.1.c.1.2.1;have:n.2.2=0->J0 n.1.2.2.1.2.1=J0 x1.1.2.2.1.2.1+1/\J0 x1.1.2.2.1.2.1<=4095/\0<=(0:Int)/\(0:Int)<64/\0<=(0:Int)/\(0:Int)<16:=k.1.2;refine .ne (λx=>?_) λx=>?_
  ·refine .bind (J09 k.1.1.c) λH C=>.some ⟨(⟨h.1,C.1.u⟩),om⟩
  ·refine .bind (J9g (B:=16384) (S:=1073741824) (⟨k.1.1.1,k.1.1.2.1⟩)) λq o=>?_;have j:zFt 16384 1073741824 J9 q:=o.1.u;have:J0 q.2.2.1.2.1=_:=Jk j.c.1.2.1;have:J0 q.2.2.1.2.1=J0 n.1.2.2.1.2.1:=o.2;refine .bind (J7K (B:=16384) (S:=1073741824) (⟨j.e.1,h.2⟩)) λF w=>?_;have v:zFt 16384 1073741824 JD F:=w.u;exact .some ⟨(⟨⟨j.1,j.2.1,j.c.1.u,j.d.1.u,v.u,j.g.u⟩,fkn 1,fk0,fk0,⟨trivial,Je⟩,fk0⟩),om⟩
theorem Jp3{B S:Int}{x1:J9n}(h:zFt B S Jnk x1)(v:BG B S:=by omega):Tot (J8x x1) λy=>zFt B S JD y:=by
 unfold J8x;refine .bind ((J4E h.1).eqn) λw h1=>.not (λg=>?_) λg=>?_
 ·exact .some h.1
 ·have v3:=J3T h.1 h1.2 g;have e:zFt 1024 0 JD x1.1:=v3.2;refine .bind (Jao (B:=1024) (S:=0) (⟨e.2,h.2,trivial,fzr⟩)) λq k=>?_;have j:zFt 1025 0 (.l Ja) q:=k.u;refine .bind (J6H (B:=1025) (S:=0) (⟨e.1.u,j⟩)) λr n=>?_;have o:zFt 2050 0 JD r:=n.1.u;exact .some o.u
theorem JkJ{B S:Int}{x1:Jn0}(h:zFt B S JFF x1)(D:Has x1.1.2.2.2.2.2.1 x1.2.1)(F:BC B S 0 0:=by omega):Tot (J7D x1) λy=>zFt 0 0 .b y:=by
 unfold J7D;refine .bind ((J3e (B:=B) (S:=S) (x1:=(x1.1.2.2.2.2.2.1,x1.2.1)) (⟨h.1.g.1,h.2.1⟩)).eqn) λo h1=>?_;have:0<=o:=JjH D h1.2;have:J0 x1.1.2.2.2.2.2.1=_:=Jk h.1.g.1;have: -1<=o/\o<J0 x1.1.2.2.2.2.2.1:=h1.1.2;refine .bind (Jh h.1.g.1) λk w=>?_;have:J0 k.2.2.2.2.1<=B:=w.1.e.1.1;have:=J4 (l:=k.2.2.2.2.1);refine Jf (τ:=Int) (λq=>(q,x1.1,x1.2.2,k)) (λq=>(zFt 0 0 zI q/\0<=q/\(q<=J0 k.2.2.2.2.1\/q<=0))) (λq=>J0 k.2.2.2.2.1-q) ?_ 0 rfl ?_
 ·rintro j ⟨A,G,E⟩;unfold JbL
  try dsimp only
  have:=J3.1 A;refine .lt (λv=>?_) λv=>?_
  ·refine .bind (Jh w.1.e.1) λH z=>.bind (J4i (B:=B) (S:=S) (⟨h.1.c.1,z.1⟩)) λI n=>.eq (λC=>?_) λC=>?_
   ·have:=J3.1 n.1.h.1.1;refine .eq (λx=>?_) λx=>?_
    ·have:=J3.1 n.1.h.1.2.1;refine .eq (λr=>?_) λr=>?_
     ·exact .some trivial
     ·have:=Jb j 1;exact .some ⟨J1 .i64 j 1,rfl,⟨J8,om,om⟩,om,om⟩
    ·have:=Jb j 1;exact .some ⟨J1 .i64 j 1,rfl,⟨J8,om,om⟩,om,om⟩
   ·have:=Jb j 1;exact .some ⟨J1 .i64 j 1,rfl,⟨J8,om,om⟩,om,om⟩
  ·exact .some trivial
 ·try dsimp only
  exact⟨fk0,oo,oo⟩
theorem JgI{B S:Int}{x1:J6Z}(h:zFt B S Jks x1)(P:Has x1.1.2.2.2.2.2.1 x1.2.1)(a2:BH B S:=by omega)(hB:B<=34359738368:=by omega):Tot (J2w x1) λy=>zFt B S tq4 y/\(J0 x1.1.2.2.1.2.1<=J0 y.1.2.2.1.2.1):=by
 unfold J2w;refine .bind (Jp3 (B:=B) (S:=S) (⟨h.1.e.1,h.2.1⟩)) λQ h1=>.bind ((J3e (B:=B) (S:=S) (x1:=(x1.1.2.2.2.2.2.1,x1.2.1)) (⟨h.1.g.1,h.2.1⟩)).eqn) λA h2=>?_;have:0<=A:=JjH P h2.2;have:J0 x1.1.2.2.2.2.2.1=_:=Jk h.1.g.1;have: -1<=A/\A<J0 x1.1.2.2.2.2.2.1:=h2.1.2;refine .bind (Jh h.1.g.1) λy4 h9=>.eq (λI=>?_) λI=>?_
 ·refine .bind (JaE (B:=B) (S:=S) (⟨h.1.g.1,h.2.1⟩)) λy5 F=>.bind (J7K (B:=B) (S:=S) (⟨h1,h.2.1⟩)) λy6 D=>.some ⟨(⟨⟨h.1.1,h.1.2.1,h.1.c.1,h.1.d.1,D,F,h.1.h⟩,h.c,fk0,fk0,⟨trivial,Je⟩,fk0⟩),om⟩
 ·refine .bind ((J56 (B:=B) (S:=S) (x1:=((x1.1.1,x1.1.2.1,x1.1.2.2.1,x1.1.2.2.2.1,Q,x1.1.2.2.2.2.2),0,4,x1.2.1,0,0,0,(0,0,(false,[]),false,[]),[])) (⟨⟨h.1.1,h.1.2.1,h.1.c.1,h.1.d.1,h1,h.1.g⟩,fk0,fkn 4,h.2.1,fk0,fk0,fk0,⟨fk0,fk0,⟨trivial,Je⟩,trivial,Je⟩,Je⟩)).eqn) λo j=>?_;have:J0 o.1.2.2.1.2.1=_:=Jk j.1.1.1.c.1.2.1;have:J0 x1.1.2.2.1.2.1=_:=Jk h.1.c.1.2.1;have:o.2.2=0->J0 o.1.2.2.1.2.1=J0 x1.1.2.2.1.2.1+1/\J0 x1.1.2.2.1.2.1<=4095/\0<=(0:Int)/\(0:Int)<64/\0<=(0:Int)/\(0:Int)<16:=j.1.2;refine .ne (λw=>?_) λw=>?_
  ·refine .bind (J09 j.1.1.c) λy8 G=>.some ⟨(⟨h.1,G.1.u⟩),om⟩
  ·have K:Has o.1.2.2.2.2.2.1 x1.2.1:=Jj5 (⟨⟨h.1.1,h.1.2.1,h.1.c.1,h.1.d.1,h1,h.1.g⟩,fk0,fkn 4,h.2.1,fk0,fk0,fk0,⟨fk0,fk0,⟨trivial,Je⟩,trivial,Je⟩,Je⟩) j.2 w;refine Jf (τ:=Jb0) (λq=>(x1.2.1,x1.2.2,o.1.2.2.2.2.1.1,q.1,x1.1,(0,0,(0,[],0),(0,[],0),([],[]),[],[],[]),(0,0,0,(false,[]),0),q.2)) (λq=>zFt 0 0 zI q.1/\zFt 16384 1073741824 J9 q.2/\(0<=q.1)/\(q.1<=J0 o.1.2.2.2.2.1.1)/\(J0 x1.1.2.2.1.2.1<=J0 q.2.2.2.1.2.1)/\(Has q.2.2.2.2.2.2.1 x1.2.1)) (λq=>J0 o.1.2.2.2.2.1.1-q.1) ?_ (0,o.1) rfl ?_
   ·rintro⟨r,n⟩ x;dsimp only at x;obtain⟨C,k,W,V,Y,v⟩:=x;unfold J7O
    try dsimp only
    have:=J3.1 C;have:J0 o.1.2.2.2.2.1.1<=16384:=j.1.1.1.e.1.1.1;have:=J4 (l:=o.1.2.2.2.2.1.1);have:J0 o.1.2.2.2.2.1.1=_:=Jk j.1.1.1.e.1.1;refine .lt (λH=>?_) λH=>?_
    ·refine .bind (Jh j.1.1.1.e.1.1) λT R=>.eq (λE=>?_) λE=>?_
     ·refine .bind (Jh j.1.1.1.e.1.1) λa1 L=>.bind (JkJ (B:=16384) (S:=1073741824) (⟨k,h.2.1,L.1.2.1⟩) v) λZ a0=>.not (λN=>?_) λN=>?_
      ·refine .bind (Jh j.1.1.1.e.1.1) λU O=>.bind (Jh1 (B:=16384) (S:=1073741824) (⟨k.2.2.2.2.1,h.2.1,O.1.2.1⟩)) λz J=>?_;have M:zFt 16384 1073741824 JD z:=J.u;have:=Jb r 1;exact .some ⟨(J1 .i64 r 1,(n.1,n.2.1,n.2.2.1,n.2.2.2.1,z,n.2.2.2.2.2)),rfl,⟨J8,⟨k.1,k.2.1,k.2.2.1,k.2.2.2.1,M,k.2.2.2.2.2⟩,om,om,om,v⟩,om,om⟩
      ·have:=Jb r 1;exact .some ⟨(J1 .i64 r 1,n),rfl,⟨J8,k,om,om,om,v⟩,om,om⟩
     ·have:=Jb r 1;exact .some ⟨(J1 .i64 r 1,n),rfl,⟨J8,k,om,om,om,v⟩,om,om⟩
    ·exact .some ⟨(⟨k.u,h.c,fk0,fk0,⟨trivial,Je⟩,fk0⟩),om⟩
   ·have:J0 o.1.2.2.2.2.1.1<=16384:=j.1.1.1.e.1.1.1;have:=J4 (l:=o.1.2.2.2.2.1.1)
    try dsimp only
    exact⟨fk0,j.1.1.1,om,om,om,K⟩
theorem Jhc{B S:Int}{x1:Int×J2a}(h:zFt B S tq6 x1)(j:BS B S 0 0:=by omega):Tot (J7U x1) λy=>zFt 0 0 (.pr Ja .b) y:=by
 unfold J7U;have s0:zFt 0 S tq6 x1:=h;refine .eq (λg=>?_) λg=>?_
 ·exact .some (⟨⟨s0.1,⟨s0.2.2.1,s0.2.2.2.1⟩,fkn 1⟩,trivial⟩)
 ·refine .eq (λc3=>?_) λc3=>?_
  ·exact .some (⟨⟨s0.1,⟨s0.2.2.1,s0.2.2.2.1⟩,fkn 2⟩,trivial⟩)
  ·refine .eq (λe=>?_) λe=>?_
   ·exact .some (⟨⟨s0.1,⟨s0.2.2.1,s0.2.2.2.1⟩,fkn 2⟩,trivial⟩)
   ·exact .some (⟨fzr,trivial⟩)
theorem JfB{B S:Int}{x1:J5×J2a}(h:zFt B S (.pr J9 J0s) x1)(ah:BS B S 0 0:=by omega):Tot (J5b x1) λy=>zFt 0 0 zI y/\(y=0->1<=x1.2.1/\x1.2.1<=7/\J0 x1.2.2.2.2<=12/\(x1.2.1<=3->0<=x1.2.2.1/\x1.2.2.1<x1.1.1/\0<=x1.2.2.2.1/\x1.2.2.2.1<16)):=by
 unfold J5b;refine .eq (λc1=>?_) λc1=>?_
 ·have:=J3.1 h.2.z.2.1;refine .ltf (λc3=>?_) λc3=>?_
  ·have:=J3.1 h.1.1;refine .gef (λc5=>?_) λc5=>?_
   ·have:=J3.1 h.2.z.2.2.1;refine .ltf (λc7=>?_) λc7=>?_
    ·refine .ge (λc9=>?_) λc9=>?_
     ·have:J0 x1.2.2.2.2<=S:=h.2.z.2.2.2;exact .some ⟨(fkn 1),om⟩
     ·refine .eq (λK=>?_) λK=>?_
      ·refine .not (λv=>?_) λv=>?_
       ·have:J0 x1.2.2.2.2<=S:=h.2.z.2.2.2;exact .some ⟨(fkn 1),om⟩
       ·have ag:=J1J.1 v;refine .gt (λM=>?_) λM=>?_
        ·exact .some ⟨(fkn 22),om⟩
        ·exact .some ⟨fk0,om⟩
      ·refine .not (λr=>?_) λr=>?_
       ·have:J0 x1.2.2.2.2<=S:=h.2.z.2.2.2;exact .some ⟨(fkn 1),om⟩
       ·have ai:=J1J.1 r;have:=J4 (l:=x1.2.2.2.2);refine .gt (λY=>?_) λY=>?_
        ·exact .some ⟨(fkn 22),om⟩
        ·exact .some ⟨fk0,om⟩
    ·have:J0 x1.2.2.2.2<=S:=h.2.z.2.2.2;exact .some ⟨(fkn 1),om⟩
   ·have:J0 x1.2.2.2.2<=S:=h.2.z.2.2.2;exact .some ⟨(fkn 1),om⟩
  ·have:J0 x1.2.2.2.2<=S:=h.2.z.2.2.2;exact .some ⟨(fkn 1),om⟩
 ·refine .eq (λL=>?_) λL=>?_
  ·have:=J3.1 h.2.z.2.1;refine .ltf (λV=>?_) λV=>?_
   ·have:=J3.1 h.1.1;refine .gef (λa2=>?_) λa2=>?_
    ·have:=J3.1 h.2.z.2.2.1;refine .ltf (λW=>?_) λW=>?_
     ·refine .ge (λa0=>?_) λa0=>?_
      ·have:J0 x1.2.2.2.2<=S:=h.2.z.2.2.2;exact .some ⟨(fkn 1),om⟩
      ·refine .eq (λN=>?_) λN=>?_
       ·refine .not (λn=>?_) λn=>?_
        ·have:J0 x1.2.2.2.2<=S:=h.2.z.2.2.2;exact .some ⟨(fkn 1),om⟩
        ·have aj:=J1J.1 n;have:=J4 (l:=x1.2.2.2.2);refine .gt (λa3=>?_) λa3=>?_
         ·exact .some ⟨(fkn 22),om⟩
         ·exact .some ⟨fk0,om⟩
       ·refine .not (λq=>?_) λq=>?_
        ·have:J0 x1.2.2.2.2<=S:=h.2.z.2.2.2;exact .some ⟨(fkn 1),om⟩
        ·have ae:=J1J.1 q;have:=J4 (l:=x1.2.2.2.2);refine .gt (λT=>?_) λT=>?_
         ·exact .some ⟨(fkn 22),om⟩
         ·exact .some ⟨fk0,om⟩
     ·have:J0 x1.2.2.2.2<=S:=h.2.z.2.2.2;exact .some ⟨(fkn 1),om⟩
    ·have:J0 x1.2.2.2.2<=S:=h.2.z.2.2.2;exact .some ⟨(fkn 1),om⟩
   ·have:J0 x1.2.2.2.2<=S:=h.2.z.2.2.2;exact .some ⟨(fkn 1),om⟩
  ·refine .eq (λa1=>?_) λa1=>?_
   ·have:=J3.1 h.2.z.2.1;refine .ltf (λR=>?_) λR=>?_
    ·have:=J3.1 h.1.1;refine .gef (λa4=>?_) λa4=>?_
     ·have:=J3.1 h.2.z.2.2.1;refine .ltf (λQ=>?_) λQ=>?_
      ·refine .ge (λO=>?_) λO=>?_
       ·have:J0 x1.2.2.2.2<=S:=h.2.z.2.2.2;exact .some ⟨(fkn 1),om⟩
       ·refine .eq (λU=>?_) λU=>?_
        ·refine .not (λw=>?_) λw=>?_
         ·have:J0 x1.2.2.2.2<=S:=h.2.z.2.2.2;exact .some ⟨(fkn 1),om⟩
         ·have ad:=J1J.1 w;refine .gt (λP=>?_) λP=>?_
          ·exact .some ⟨(fkn 22),om⟩
          ·exact .some ⟨fk0,om⟩
        ·refine .not (λo=>?_) λo=>?_
         ·have:J0 x1.2.2.2.2<=S:=h.2.z.2.2.2;exact .some ⟨(fkn 1),om⟩
         ·have af:=J1J.1 o;have:=J4 (l:=x1.2.2.2.2);refine .gt (λZ=>?_) λZ=>?_
          ·exact .some ⟨(fkn 22),om⟩
          ·exact .some ⟨fk0,om⟩
      ·have:J0 x1.2.2.2.2<=S:=h.2.z.2.2.2;exact .some ⟨(fkn 1),om⟩
     ·have:J0 x1.2.2.2.2<=S:=h.2.z.2.2.2;exact .some ⟨(fkn 1),om⟩
    ·have:J0 x1.2.2.2.2<=S:=h.2.z.2.2.2;exact .some ⟨(fkn 1),om⟩
   ·refine .eq (λx=>?_) λx=>?_
    ·have:=J3.1 h.2.z.2.2.1;refine .ltf (λG=>?_) λG=>?_
     ·refine .ge (λA=>?_) λA=>?_
      ·have:J0 x1.2.2.2.2<=S:=h.2.z.2.2.2;exact .some ⟨(fkn 1),om⟩
      ·refine .not (λk=>?_) λk=>?_
       ·have:J0 x1.2.2.2.2<=S:=h.2.z.2.2.2;exact .some ⟨(fkn 1),om⟩
       ·have a9:=J1J.1 k;have:=J4 (l:=x1.2.2.2.2);refine .gt (λF=>?_) λF=>?_
        ·have:=J3.1 h.2.z.2.1;exact .some ⟨(fkn 22),om⟩
        ·have:=J3.1 h.2.z.2.1;exact .some ⟨fk0,om⟩
     ·have:J0 x1.2.2.2.2<=S:=h.2.z.2.2.2;exact .some ⟨(fkn 1),om⟩
    ·refine .eq (λD=>?_) λD=>?_
     ·refine .not (λg=>?_) λg=>?_
      ·have:J0 x1.2.2.2.2<=S:=h.2.z.2.2.2;exact .some ⟨(fkn 1),om⟩
      ·have a5:=J1J.1 g;have:=J4 (l:=x1.2.2.2.2);refine .gt (λC=>?_) λC=>?_
       ·have:=J3.1 h.2.z.2.1;exact .some ⟨(fkn 22),om⟩
       ·have:=J3.1 h.2.z.2.1;exact .some ⟨fk0,om⟩
     ·refine .eq (λH=>?_) λH=>?_
      ·refine .not (λe=>?_) λe=>?_
       ·have:J0 x1.2.2.2.2<=S:=h.2.z.2.2.2;exact .some ⟨(fkn 1),om⟩
       ·have ab:=J1J.1 e;have:=J4 (l:=x1.2.2.2.2);refine .gt (λI=>?_) λI=>?_
        ·have:=J3.1 h.2.z.2.1;exact .some ⟨(fkn 22),om⟩
        ·have:=J3.1 h.2.z.2.1;exact .some ⟨fk0,om⟩
      ·refine .eq (λE=>?_) λE=>?_
       ·refine .not (λj=>?_) λj=>?_
        ·have:J0 x1.2.2.2.2<=S:=h.2.z.2.2.2;exact .some ⟨(fkn 1),om⟩
        ·have a7:=J1J.1 j;have:=J4 (l:=x1.2.2.2.2);refine .gt (λJ=>?_) λJ=>?_
         ·have:=J3.1 h.2.z.2.1;exact .some ⟨(fkn 22),om⟩
         ·have:=J3.1 h.2.z.2.1;exact .some ⟨fk0,om⟩
       ·have:J0 x1.2.2.2.2<=S:=h.2.z.2.2.2;exact .some ⟨(fkn 1),om⟩
theorem Jlb{B S:Int}{x1:JcH}(h:zFt B S Jnb x1)(I:BG B S:=by omega):Tot (J2P x1) λy=>zFt 0 0 zI y:=by
 unfold J2P;refine .bind ((J1m h.1).eqn) λN h1=>.not (λv=>?_) λv=>?_
 ·exact .some (fkn 15)
 ·have v3:=J1w h.1 h1.2 v;have j:zFt 4096 8192 J9 x1.1:=v3.2;refine .bind ((J3e (B:=4096) (S:=8192) (x1:=(x1.1.2.2.2.2.2.1,x1.2.1)) (⟨j.g.1,h.2.z.1⟩)).eqn) λq k=>?_;have:=J3.1 k.1.1;have:J0 x1.1.2.2.2.2.2.1=_:=Jk j.g.1;have: -1<=q/\q<J0 x1.1.2.2.2.2.2.1:=k.1.2;refine .lt (λw=>?_) λw=>?_
  ·exact .some (fkn 16)
  ·refine .bind (Jh j.g.1) λM F=>.ne (λo=>?_) λo=>?_
   ·exact .some (fkn 15)
   ·refine .bind (JfB (B:=4096) (S:=S) (⟨j.u,h.2.z.2.u⟩)) λK x=>.ne (λC=>?_) λC=>?_
    ·exact .some x.1
    ·refine .bind (J7H (B:=4096) (S:=8192) (⟨j.e.1,h.2.z.1⟩)) λL E=>.bind (Jhc (B:=0) (S:=S) (⟨h.2.z.1,h.2.z.2⟩)) λJ H=>.ite (λD=>?_) λD=>?_
     ·refine .ne (λA=>?_) λA=>?_
      ·refine .nof (λr=>?_) λr=>?_
       ·refine .not (λn=>?_) λn=>?_
        ·exact .some (fkn 15)
        ·have G:=J1J.1 n;exact .some fk0
       ·exact .some (fkn 15)
      ·exact .some fk0
     ·exact .some fk0
section
variable {B S:Int}
theorem J9W{x:JcH}(e:J2P x=some 0):Jq x.1=some true/\Has x.1.2.2.2.2.2.1 x.2.1/\J5b (x.1,x.2.2)=some 0:=by
 have h:Par (J2P x) λy=>y=0->Jq x.1=some true/\Has x.1.2.2.2.2.2.1 x.2.1/\J5b (x.1,x.2.2)=some 0:=by unfold J2P;refine .bind λa ha=>.not (λ_=>.some nofun) λn=>.bind λj hj=>.lt (λ_=>.some nofun) λo=>.bind λt q=>.ne (λ_=>.some nofun) λc3=>.bind λb hb=>.ne (λg=>.some λk=>absurd k g) λg=>?_;subst n;subst g;exact λ_ _ _=>⟨ha,⟨j,hj,oo⟩,hb⟩
 exact h _ e rfl
theorem Jme{x:JcH}{y:Int}(h:zFt B S Jnb x)(e:J2P x=some y)(c:y=0)(g:BC B S 0 0:=by omega):(1<=x.1.1/\x.1.1<=64/\J0 x.1.2.2.2.2.2.2.1=x.1.1/\1<=x.1.2.1/\x.1.2.1<=1073741825/\1<=x.1.2.2.1.1/\x.1.2.2.1.1<=1099511627776/\J0 x.1.2.2.1.2.1<=4096/\x.1.2.2.1.1-1<=x.1.2.2.1.2.2/\x.1.2.2.1.2.2<=x.1.2.2.1.1+J0 x.1.2.2.1.2.1-1/\1<=x.1.2.2.2.1.1/\x.1.2.2.2.1.1<=64/\J0 x.1.2.2.2.1.2.1<=x.1.2.2.2.1.1/\0<=x.1.2.2.2.1.2.2/\(x.1.2.2.2.1.2.2<J0 x.1.2.2.2.1.2.1\/x.1.2.2.2.1.2.2=0)/\1<=x.2.2.1/\x.2.2.1<=7/\J0 x.2.2.2.2.2<=12/\(x.2.2.1<=3->0<=x.2.2.2.1/\x.2.2.2.1<x.1.1/\0<=x.2.2.2.2.1/\x.2.2.2.2.1<16))/\zFt 4096 8192 J9 x.1:=by subst c;obtain⟨h1,h2,h3⟩:=J9W e;obtain⟨q1,q2⟩:=J1w h.1 h1 rfl;have q3:=((JfB (x1:=(x.1,x.2.2)) ⟨h.1,h.c⟩).get h3).2 rfl;exact⟨⟨q1.1,q1.2.1,q1.2.2.1,q1.2.2.2.1,q1.2.2.2.2.1,q1.2.2.2.2.2.1,q1.2.2.2.2.2.2.1,q1.2.2.2.2.2.2.2.1,q1.2.2.2.2.2.2.2.2.1,q1.2.2.2.2.2.2.2.2.2.1,q1.2.2.2.2.2.2.2.2.2.2.1,q1.2.2.2.2.2.2.2.2.2.2.2.1,q1.2.2.2.2.2.2.2.2.2.2.2.2.1,q1.2.2.2.2.2.2.2.2.2.2.2.2.2.1,q1.2.2.2.2.2.2.2.2.2.2.2.2.2.2,q3⟩,q2⟩
theorem Jrb{x:JcH}{y:Int}(h:zFt B S Jnb x)(e:J2P x=some y)(c:y=0):Has x.1.2.2.2.2.2.1 x.2.1:=by subst c;exact(J9W e).2.1
end
end Go.Am
end
section
namespace Go.Am
set_option linter.unusedVariables false
set_option maxRecDepth 20000
set_option maxHeartbeats 4000000
theorem JBI{B S:Int}{x1:JcH}(h:zFt B S Jnb x1)(ay:BG B S:=by omega):Tot (J4g x1) λy=>zFt B S tq4 y/\(J0 x1.1.2.2.1.2.1<=J0 y.1.2.2.1.2.1):=by
 unfold J4g;refine .bind ((Jlb (B:=B) (S:=S) (x1:=(x1.1,x1.2.1,x1.2.2)) (⟨h.1,h.2.z.1,h.2.z.2.u⟩)).eqn) λy2 h1=>.ne (λN=>?_) λN=>?_
 ·refine .bind (J09 h1.1) λy3 h4=>.some ⟨(⟨h.1,h4.1.u⟩),om⟩
 ·have q:Has x1.1.2.2.2.2.2.1 x1.2.1:=Jrb (⟨h.1,h.2.z.1,h.2.z.2.u⟩) h1.2 N;have L:=Jme (x:=(x1.1,x1.2.1,x1.2.2)) (⟨h.1,h.2.z.1,h.2.z.2.u⟩) h1.2 N;have:=J3.1 h.2.z.2.1;have:=J4 (l:=x1.2.2.2.2.2);have:=J3.1 h.2.z.2.2.2.1;have:1<=x1.1.1/\x1.1.1<=64/\J0 x1.1.2.2.2.2.2.2.1=x1.1.1/\1<=x1.1.2.1/\x1.1.2.1<=1073741825/\1<=x1.1.2.2.1.1/\x1.1.2.2.1.1<=1099511627776/\J0 x1.1.2.2.1.2.1<=4096/\x1.1.2.2.1.1-1<=x1.1.2.2.1.2.2/\x1.1.2.2.1.2.2<=x1.1.2.2.1.1+J0 x1.1.2.2.1.2.1-1/\1<=x1.1.2.2.2.1.1/\x1.1.2.2.2.1.1<=64/\J0 x1.1.2.2.2.1.2.1<=x1.1.2.2.2.1.1/\0<=x1.1.2.2.2.1.2.2/\(x1.1.2.2.2.1.2.2<J0 x1.1.2.2.2.1.2.1\/x1.1.2.2.2.1.2.2=0)/\1<=x1.2.2.1/\x1.2.2.1<=7/\J0 x1.2.2.2.2.2<=12/\(x1.2.2.1<=3->0<=x1.2.2.2.1/\x1.2.2.2.1<x1.1.1/\0<=x1.2.2.2.2.1/\x1.2.2.2.2.1<16):=L.1;have j:zFt 4096 8192 J9 x1.1:=L.2;refine .eq (λY=>?_) λY=>?_
  ·have U:zFt 16384 1073741824 tq1 (x1.1,x1.2.1):=⟨j.u,h.2.z.1⟩;refine .bind (Jol U q) λy4 C=>?_;have J:zFt 16384 1073741824 tq4 y4:=C.1.u;have:J0 x1.1.2.2.1.2.1<=J0 y4.1.2.2.1.2.1:=C.2;exact .some ⟨(⟨J.1.u,J.2.z.u⟩),om⟩
  ·refine .eq (λal=>?_) λal=>?_
   ·have ai:zFt 16384 1073741824 Jks (x1.1,x1.2.1,1):=⟨j.u,h.2.z.1,fkn 1⟩;refine .bind (JgI ai q) λy5 I=>?_;have D:zFt 16384 1073741824 tq4 y5:=I.1.u;have:J0 x1.1.2.2.1.2.1<=J0 y5.1.2.2.1.2.1:=I.2;exact .some ⟨(⟨D.1.u,D.2.z.u⟩),om⟩
   ·refine .eq (λa7=>?_) λa7=>?_
    ·have am:zFt 16384 1073741824 tq2 (x1.1.2.2.2.2.2.1,x1.2.1):=⟨j.g.1.u,h.2.z.1⟩;refine .bind (JgY am) λy6 v=>.eq (λa9=>?_) λa9=>?_
     ·have a6:zFt 16384 1073741824 JDI (x1.1.2.2.2.2.2.1,x1.2.1,x1.2.2.2.2.1):=⟨j.g.1.u,h.2.z.1,h.2.z.2.2.2.1⟩;refine .bind (Jhb a6) λy7 K=>.ne (λae=>?_) λae=>?_
      ·refine .bind (J09 K.2) λy8 ag=>.some ⟨(⟨j.u,ag.1.u⟩),om⟩
      ·exact .some ⟨(⟨⟨j.1,j.2.1,j.c.1.u,j.d.1.u,j.e.1.u,K.1.u,j.h.u⟩,fkn 1,fk0,fk0,⟨trivial,Je⟩,fk0⟩),om⟩
     ·have:=J3.1 v.2;refine .ne (λa3=>?_) λa3=>?_
      ·refine .bind (J09 v.2) λy9 a4=>.some ⟨(⟨j.u,a4.1.u⟩),om⟩
      ·exact .some ⟨(⟨⟨j.1,j.2.1,j.c.1.u,j.d.1.u,j.e.1.u,v.1.u,j.h.u⟩,fkn 1,fk0,fk0,⟨trivial,Je⟩,fk0⟩),om⟩
    ·refine .eq (λaf=>?_) λaf=>?_
     ·have aa:zFt 16384 1073741824 tq2 (x1.1.2.2.2.2.2.1,x1.2.1):=⟨j.g.1.u,h.2.z.1⟩;refine .bind (JgY aa) λao r=>.eq (λak=>?_) λak=>?_
      ·have ah:zFt 16384 1073741824 JDI (x1.1.2.2.2.2.2.1,x1.2.1,x1.2.2.2.2.1):=⟨j.g.1.u,h.2.z.1,h.2.z.2.2.2.1⟩;refine .bind (Jhb ah) λax A=>.ne (λZ=>?_) λZ=>?_
       ·refine .bind (J09 A.2) λaw T=>.some ⟨(⟨j.u,T.1.u⟩),om⟩
       ·exact .some ⟨(⟨⟨j.1,j.2.1,j.c.1.u,j.d.1.u,j.e.1.u,A.1.u,j.h.u⟩,fkn 1,fk0,fk0,⟨trivial,Je⟩,fk0⟩),om⟩
      ·have:=J3.1 r.2;refine .ne (λW=>?_) λW=>?_
       ·refine .bind (J09 r.2) λap a8=>.some ⟨(⟨j.u,a8.1.u⟩),om⟩
       ·exact .some ⟨(⟨⟨j.1,j.2.1,j.c.1.u,j.d.1.u,j.e.1.u,r.1.u,j.h.u⟩,fkn 1,fk0,fk0,⟨trivial,Je⟩,fk0⟩),om⟩
     ·refine .bind (Jhc (B:=0) (S:=S) (⟨h.2.z.1,h.2.z.2⟩)) λab aj=>?_;have a1:zFt 16384 1073741824 JFa (x1.1.2.2.2.2.1,ab.1):=⟨j.e.1.u,aj.1⟩;refine .bind (Jmu a1) λF k=>.ne (λa0=>?_) λa0=>?_
      ·refine .bind (J09 k.c) λav ac=>.some ⟨(⟨j.u,ac.1.u⟩),om⟩
      ·refine .ite (λa2=>?_) λa2=>?_
       ·have V:zFt 16384 S Jnb ((x1.1.1,x1.1.2.1,x1.1.2.2.1,x1.1.2.2.2.1,F.1,x1.1.2.2.2.2.2),x1.2.1,x1.2.2):=⟨⟨j.1,j.2.1,j.c.1.u,j.d.1.u,k.1.u,j.g.u⟩,h.2.z.1,h.2.z.2.u⟩;refine .bind (JnT V om om om) λG E=>?_;have o:zFt 16384 S tq4 G:=E.1.u;have:J0 x1.1.2.2.1.2.1<=J0 G.1.2.2.1.2.1:=E.2;refine .eq (λR=>?_) λR=>?_
        ·exact .some ⟨(⟨j.u,o.2.z.u⟩),om⟩
        ·exact .some ⟨(⟨o.1.u,o.2.z.u⟩),om⟩
       ·refine .bind (JrG (B:=4098) (S:=0) (⟨k.1,h.2.z.1⟩)) λaq an=>.gt (λM=>?_) λM=>?_
        ·have P:zFt 16384 1073741824 Jks ((x1.1.1,x1.1.2.1,x1.1.2.2.1,x1.1.2.2.2.1,F.1,x1.1.2.2.2.2.2),x1.2.1,4):=⟨⟨j.1,j.2.1,j.c.1.u,j.d.1.u,k.1.u,j.g.u⟩,h.2.z.1,fkn 4⟩;refine .bind (JgI P q) λH w=>?_;have n:zFt 16384 1073741824 tq4 H:=w.1.u;have:J0 x1.1.2.2.1.2.1<=J0 H.1.2.2.1.2.1:=w.2;refine .eq (λQ=>?_) λQ=>?_
         ·exact .some ⟨(⟨j.u,n.2.z.u⟩),om⟩
         ·exact .some ⟨(⟨n.1.u,n.2.z.u⟩),om⟩
        ·refine .bind (Jya (B:=4098) (S:=8192) (⟨⟨j.1,j.2.1,j.c.1.u,j.d.1.u,k.1.u,j.g.u⟩,h.2.z.1⟩)) λau O=>.some ⟨(⟨⟨j.1,j.2.1,j.c.1.u,j.d.1.u,k.1.u,j.g.u⟩,fkn 2,O,fk0,⟨trivial,Je⟩,fk0⟩),om⟩
theorem JdR{B S:Int}{x1:J2M}(h:zFt B S tq3 x1)(k:BC B S 0 0:=by omega):Tot (J2O x1) λy=>zFt 0 0 .b y:=by
 unfold J2O;refine .bind ((J3e (B:=B) (S:=S) (x1:=(x1.1.1.2.2.2.2.2.1,x1.2)) (⟨h.1.1.g.1,h.2⟩)).eqn) λe h1=>?_;have:J0 x1.1.1.2.2.2.2.2.1=_:=Jk h.1.1.g.1;have: -1<=e/\e<J0 x1.1.1.2.2.2.2.2.1:=h1.1.2;refine .ge (λj=>?_) λj=>?_
 ·refine .bind (Jh h.1.1.g.1) λn o=>.some trivial
 ·exact .some trivial
section
variable {B S:Int}
theorem J73{e:Int}{y:J0f}(h:Jr e=some y):y.1=5:=by unfold Jr at h;injection h with h;subst h;rfl
theorem JoU{x:JcH}{y:J3V}(e:J2B x=some y)(c:y.2.1=3): ¬InP x.1.2.2.2.1 x.2.2.2.1/\y.1=x.1/\y.2.2.2.1=x.2.2.2.1:=by
 have g:Par (J2B x) λy=>y.2.1=3-> ¬InP x.1.2.2.2.1 x.2.2.2.1/\y.1=x.1/\y.2.2.2.1=x.2.2.2.1:=by
  unfold J2B;refine .bind λn h2=>.not (λc=>.some λ_=>⟨λh=>(by rw[(Jem h2).2 h]at c;cases c),rfl,rfl⟩) λ_=>.eq (λ_=>.bind λ_ _=>.bind λ_ _=>.bind λ_ _=>.some nofun) λ_=>.bind λ_ _=>.bind λ_ _=>.eq (λ_=>?_) λ_=>?_
  all_goals
   refine .bind λo _=>.ne (λ_=>.bind λk j=>.some λc=>?_) λ_=>.some nofun;have:=J73 j;dsimp only at c;omega
 exact g _ e c
theorem Joq{x:J1E}{y:J3V}(e:J2F x=some y): ¬y.2.1=3:=by
 have g:Par (J2F x) λy=> ¬y.2.1=3:=by unfold J2F;refine .bind λ_ _=>.bind λ_ _=>.eq (λ_=>.bind λ_ _=>.bind λ_ _=>.some nofun) λ_=>.bind λ_ _=>.ne (λ_=>.bind λj h=>.some λc=>?_) λ_=>.bind λ_ _=>.bind λ_ _=>.some nofun;have:=J73 h;dsimp only at c;omega
 exact g _ e
theorem Jgm{x:J6Z}{y:J3V}(e:J2w x=some y):y.2.1=x.2.2\/y.2.1=5:=by
 have g:Par (J2w x) λy=>y.2.1=x.2.2\/y.2.1=5:=by unfold J2w;refine .bind λ_ _=>.bind λ_ _=>.bind λ_ _=>.eq (λ_=>.bind λ_ _=>.bind λ_ _=>.some (.inl rfl)) λ_=>.bind λj _=>.ne (λ_=>.bind λq h=>.some (.inr (J73 h))) λ_=>.while (λz=>z.2.1=x.2.2) rfl ?_;rintro⟨a,st,hl,i,k,n,o,out⟩ hz;dsimp only at hz;unfold J7O;dsimp only;exact .lt (λ_=>.bind λ_ _=>.eq (λ_=>.bind λ_ _=>.bind λ_ _=>.not (λ_=>.bind λ_ _=>.bind λ_ _=>.some hz) λ_=>.some hz) λ_=>.some hz) λ_=>.some (.inl hz)
 exact g _ e
theorem JBl{x:JcH}{y:J3V}(e:J4g x=some y)(c:y.2.1=3):Jq x.1=some true/\ ¬InP x.1.2.2.2.1 x.2.2.2.1/\y.1.2.2.2.1=x.1.2.2.2.1/\y.2.2.2.1=x.2.2.2.1:=by
 have o:Par (J4g x) λy=>y.2.1=3->Jq x.1=some true/\ ¬InP x.1.2.2.2.1 x.2.2.2.1/\y.1.2.2.2.1=x.1.2.2.2.1/\y.2.2.2.1=x.2.2.2.1:=by
  unfold J4g;have g: ∀{e:Int} {k:J5} {r:J0f} {Q:Prop},Jr e=some r->(k,r).2.1=3->Q:=fun{e k r Q} h c=>by have:=J73 h;dsimp only at c;omega
  refine .bind λE h2=>.ne (λ_=>.bind λ_ h3=>.some (g h3)) λq=>.eq (λ_=>.bind λD h4=>.some λc=>absurd c (Joq h4)) λ_=>.eq (λ_=>.bind λC h5=>.some λc=>?_) λ_=>.eq (λ_=>?_) λ_=>.eq (λ_=>?_) λ_=>.bind λB _=>.bind λv _=>.ne (λ_=>.bind λ_ h=>.some (g h)) λ_=>.ite (λ_=>.bind λw n=>.eq (λd=>.some λc=>?_) λ_=>.some λc=>?_) λ_=>.bind λz _=>.gt (λ_=>.bind λA j=>.eq (λd=>.some λc=>?_) λ_=>.some λc=>?_) λ_=>.bind λ_ _=>.some nofun
  ·have:=Jgm h5;dsimp only at c this;omega
  ·exact .bind λ_ _=>.eq (λ_=>.bind λ_ _=>.ne (λ_=>.bind λ_ h=>.some (g h)) λ_=>.some nofun) λ_=>.ne (λ_=>.bind λ_ h=>.some (g h)) λ_=>.some nofun
  ·exact .bind λ_ _=>.eq (λ_=>.bind λ_ _=>.ne (λ_=>.bind λ_ h=>.some (g h)) λ_=>.some nofun) λ_=>.ne (λ_=>.bind λ_ h=>.some (g h)) λ_=>.some nofun
  ·dsimp only at c;omega
  ·subst q;obtain⟨a1,a2,a3⟩:=JoU n c;exact⟨(J9W h2).1,a1,by rw[a2],a3⟩
  ·dsimp only at c;omega
  ·have:=Jgm j;dsimp only at c this;omega
 exact o _ e c
end
section
variable {B S:Int}
def JbQ(k y:J5):Prop:=Jq k=some true/\Jq y=some true/\y.2.2.2.2.2.1=k.2.2.2.2.2.1/\y.2.2.1.1=k.2.2.1.1/\y.2.2.1.2.1=k.2.2.1.2.1
theorem JwC{k y:J5}(h:JbQ k y)(n:Int):J0x (y.2.2.1,n)=J0x (k.2.2.1,n):=by obtain⟨h1,h2,h3,h4,h5⟩:=h;have v1:=(J4F h1).1;have v2:=(J4F h2).1;unfold J0x J1X;dsimp only;rw[v1,v2,h4,h5]
theorem Jig{k y:J5}(h:JbQ k y)(e:Int):J1j (y,e)=J1j (k,e):=by obtain⟨h1,h2,h3,h4,h5⟩:=h;unfold J1j;dsimp only;rw[h1,h2,h3]
theorem JC3{k y:J5}(h:JbQ k y)(e:Int):J2T (y,e)=J2T (k,e):=by unfold J2T;dsimp only;rw[Jig h e];simp only[JwC h]
theorem JGC{k y:J5}(h:JbQ k y)(x:Jo)(c:JK)(n:Int):J6T (y,x,c,n)=J6T (k,x,c,n):=by
 unfold J6T;dsimp only;refine Jph (R:=λz g=>z.1=g.1/\z.2.1=y/\g.2.1=k/\z.2.2=g.2.2) ?_ ⟨rfl,rfl,rfl,rfl⟩;rintro⟨i,a,r⟩ ⟨C,v,r'⟩ ⟨e1,e2,A,B⟩;dsimp only at e1 e2 A B;subst e1;subst e2;subst A;subst B;unfold Jcm;dsimp only;by_cases hi:geI i 0=true
 ·rw[if_pos hi,if_pos hi];cases idx r.1.2.2.2.2.1 i with
  |none=>exact .inl ⟨rfl,rfl⟩
  |some j=>
   rw[J06,J06,JwC h];cases J0x (v.2.2.1,j)with
   |none=>exact .inl ⟨rfl,rfl⟩
   |some e=>
    rw[J06,J06];have w:JBm (fun(z g:TQ34)=>z.1=g.1/\z.2.1=a/\g.2.1=v/\z.2.2=g.2.2) (some (.inl (JI .i64 i 1,a,r.1,r.2.1,r.2.2):(TQ34)⊕(Jir))) (some (.inl (JI .i64 i 1,v,r.1,r.2.1,r.2.2))):=.inr (.inr ⟨_,_,rfl,rfl,rfl,rfl,rfl,rfl⟩);by_cases o:eqI e.2 0=true
    ·rw[if_pos o,if_pos o];by_cases q:eqI e.1.2.2.2.2.2.2.1.1 r.2.1.1=true
     ·rw[if_pos q,if_pos q];by_cases c3:eqI e.1.2.2.2.2.2.2.1.2.1 r.2.1.2=true
      ·rw[if_pos c3,if_pos c3];exact .inr (.inl ⟨_,rfl,rfl⟩)
      ·rw[if_neg c3,if_neg c3];exact w
     ·rw[if_neg q,if_neg q];exact w
    ·rw[if_neg o,if_neg o];exact w
 ·rw[if_neg hi,if_neg hi];exact .inr (.inl ⟨_,rfl,rfl⟩)
theorem Jxt{k y:J5}(h:JbQ k y)(e:Int)(c:JK):J38 (y,e,c)=J38 (k,e,c):=by unfold J38;dsimp only;rw[Jig h e];simp only[JGC h]
theorem J7L{k:J5}{h:Int}{y:Jo×Int}(e:J1j (k,h)=some y)(c:y.2=0):Jq k=some true:=by
 have g:Par (J1j (k,h)) λy=>y.2=0->Jq k=some true:=by unfold J1j;refine .bind λa ha=>.not (λ_=>.some nofun) λc=>?_;subst c;exact λ_ _ _=>ha
 exact g _ e c
theorem Jik{x:JzG}{y:J3V}(e:J0U x=some y)(c:y.2.1=3): ¬InP x.1.2.2.2.1 x.2.2.2.2.2.2.2.2.1.1/\y.2.2.2.1=x.2.2.2.2.2.2.2.2.1.1:=by
 have j: ∀{e:Int} {k:J5} {r:J0f} {Q:Prop},Jr e=some r->(k,r).2.1=3->Q:=fun{e k r Q} h c=>by have:=J73 h;dsimp only at c;omega
 have g:Par (J0U x) λy=>y.2.1=3-> ¬InP x.1.2.2.2.1 x.2.2.2.2.2.2.2.2.1.1/\y.2.2.2.1=x.2.2.2.2.2.2.2.2.1.1:=by unfold J0U;exact .bind λn h2=>.not (λc=>.some λ_=>⟨λh=>(by rw[(Jem h2).2 h]at c;cases c),rfl⟩) λ_=>.bind λ_ _=>.bind λ_ _=>.ne (λ_=>.bind λ_ h=>.some (j h)) λ_=>.bind λ_ _=>.ne (λ_=>.bind λ_ h=>.some (j h)) λ_=>.eq (λ_=>.bind λ_ _=>.not (λ_=>.bind λ_ _=>.some nofun) λ_=>.some nofun) λ_=>.some nofun
 exact g _ e c
def JlC(k:J5)(e p:Int):Prop:=Jq k=some true/\ ¬InP k.2.2.2.1 p/\ ∃y,J2T (k,e)=some y/\p=y.1.2.2.2.2.2.2.1.1
theorem Jun{k:J5}{g:Int}{y:J3V}(e:J0L (k,g)=some y)(c:y.2.1=3):JlC k g y.2.2.2.1:=by
 have j: ∀{e:Int} {k:J5} {r:J0f} {Q:Prop},Jr e=some r->(k,r).2.1=3->Q:=fun{e k r Q} h c=>by have:=J73 h;dsimp only at c;omega
 have n:Par (J0L (k,g)) λy=>y.2.1=3->JlC k g y.2.2.2.1:=by
  unfold J0L;refine .bind λz h2=>.ne (λ_=>.bind λ_ h=>.some (j h)) λv=>.eq (λ_=>.eq (λ_=>.bind λ_ _=>.ne (λ_=>.bind λ_ h=>.some (j h)) λ_=>.bind λ_ _=>.some nofun) λ_=>?_) λ_=>?_
  all_goals
   refine .bind λo q=>.not (λ_=>.bind λ_ h=>.some (j h)) λ_=>.bind λx w=>.some λc=>?_;obtain⟨a1,a2⟩:=Jik w c;exact⟨J7L h2 v,a2▸a1,o,q,a2⟩
 exact n _ e c
def Jl0(k:J5)(e:Int)(c:JK)(p:Int):Prop:=Jq k=some true/\ ¬InP k.2.2.2.1 p/\ ∃y,J38 (k,e,c)=some y/\p=y.1.2.2.2.2.2.2.1.1
theorem Jw7{k:J5}{g:Int}{l:JK}{y:J3V}(e:J1V (k,g,l)=some y)(c:y.2.1=3):Jl0 k g l y.2.2.2.1:=by
 have n: ∀{e:Int} {k:J5} {r:J0f} {Q:Prop},Jr e=some r->(k,r).2.1=3->Q:=fun{e k r Q} h c=>by have:=J73 h;dsimp only at c;omega
 have j:Par (J1V (k,g,l)) λy=>y.2.1=3->Jl0 k g l y.2.2.2.1:=by unfold J1V;refine .bind λx h2=>.ne (λ_=>.bind λ_ h=>.some (n h)) λq=>.ne (λ_=>.bind λ_ h=>.some (n h)) λ_=>.bind λo h5=>.not (λ_=>.some nofun) λ_=>.bind λw v=>.some λc=>?_;obtain⟨a1,a2⟩:=Jik v c;exact⟨J7L h2 q,a2▸a1,o,h5,a2⟩
 exact j _ e c
theorem Jpk{e:Int}{y:J0f}(h:Jr e=some y):y.2.2.2.2=e:=by unfold Jr at h;injection h with h;subst h;rfl
theorem JzZ{x:JzG}{y:J3V}(e:J0U x=some y)(c:y.2.1=5): ¬y.2.2.2.2.2=0:=by
 have j: ∀{e:Int} {k:J5} {r:J0f},¬e=0->Jr e=some r->(k,r).2.1=5-> ¬(k,r).2.2.2.2.2=0:=fun{e k r} n h _=>by have:=Jpk h;dsimp only;omega
 have g:Par (J0U x) λy=>y.2.1=5-> ¬y.2.2.2.2.2=0:=by unfold J0U;exact .bind λo h2=>.not (λc=>.some nofun) λ_=>.bind λ_ _=>.bind λ_ _=>.ne (λc=>.bind λ_ h=>.some (j c h)) λ_=>.bind λ_ _=>.ne (λc=>.bind λ_ h=>.some (j c h)) λ_=>.eq (λ_=>.bind λ_ _=>.not (λ_=>.bind λ_ _=>.some nofun) λ_=>.some nofun) λ_=>.some nofun
 exact g _ e c
theorem JBN{k:J5}{n:Int}{y:J3V}(e:J0L (k,n)=some y)(c:y.2.1=5): ¬y.2.2.2.2.2=0:=by
 have g: ∀{e:Int} {k:J5} {r:J0f},¬e=0->Jr e=some r->(k,r).2.1=5-> ¬(k,r).2.2.2.2.2=0:=fun{e k r} z h _=>by have:=Jpk h;dsimp only;omega
 have j:Par (J0L (k,n)) λy=>y.2.1=5-> ¬y.2.2.2.2.2=0:=by
  unfold J0L;refine .bind λA h2=>.ne (λc=>.bind λ_ h=>.some (g c h)) λq=>.eq (λ_=>.eq (λ_=>.bind λ_ _=>.ne (λc=>.bind λ_ h=>.some (g c h)) λ_=>.bind λ_ _=>.some nofun) λ_=>?_) λ_=>?_
  all_goals
   exact .bind λv x=>.not (λ_=>.bind λ_ h=>.some (g (by decide) h)) λ_=>.bind λw o=>.some λc=>JzZ o c
 exact j _ e c
theorem JuR{k:J5}{j:Int}{y:J3V}(e:J0L (k,j)=some y)(c: ¬y.2.1=5):Jq k=some true:=by
 have g:Par (J0L (k,j)) λy=> ¬y.2.1=5->Jq k=some true:=by unfold J0L;refine .bind λo h2=>.ne (λ_=>.bind λ_ h=>.some λc=>absurd (J73 h) c) λn=>λ_ _ _=>J7L h2 n
 exact g _ e c
theorem JuJ{k:J5}{j:Int}{l:JK}{y:J3V}(e:J1V (k,j,l)=some y)(c: ¬y.2.1=5):Jq k=some true:=by
 have g:Par (J1V (k,j,l)) λy=> ¬y.2.1=5->Jq k=some true:=by unfold J1V;refine .bind λo h2=>.ne (λ_=>.bind λ_ h=>.some λc=>absurd (J73 h) c) λn=>λ_ _ _=>J7L h2 n
 exact g _ e c
def JbV(e:Int)(k:J5)(p:Int):Prop:= ∃y,J0L (k,e)=some y/\y.2.1=3/\y.2.2.2.1=p
def JiO(e:Int)(l:JK)(k:J5)(p:Int):Prop:= ∃y,J1V (k,e,l)=some y/\y.2.1=3/\y.2.2.2.1=p
theorem JbV.want{g:Int}{k:J5}{p:Int}(h:JbV g k p):JlC k g p:=by obtain⟨y,e,c,d⟩:=h;exact d▸Jun e c
theorem JiO.want{g:Int}{l:JK}{k:J5}{p:Int}(h:JiO g l k p):Jl0 k g l p:=by obtain⟨y,e,c,d⟩:=h;exact d▸Jw7 e c
theorem Jh6{k y:J5}{p:Int}(W:J5->Int->Prop)(g: ∀{k p},W k p->Jq k=some true/\ ¬InP k.2.2.2.1 p)(same: ∀{p q},JbQ k y->W k p->W y q->q=p)(h:W k p)(r:J3E k y)(hp:JbE y.2.2.2.1 p)(hy:zFt B S JM y.2.2.2.1)(hl:J0 y.2.2.1.2.1=J0 k.2.2.1.2.1)(o:BS B S 0 0:=by omega)(v:B<=9223372036854775807:=by omega): ∀q,¬W y q:=by
 intro q hq;obtain⟨a1,a2⟩:=g hq;obtain⟨j,n,m,e⟩:=r;have hm:m=[]:=by rw[e]at hl;unfold J0 at hl;rw[J4G]at hl;exact List.length_eq_zero_iff.1 oo
 subst hm;rw[JbA]at e;have ks:JbQ k y:=⟨(g h).1,a1,j,n,e⟩;rw[same ks h hq]at a2;exact a2 (hp.inP (B:=B) (S:=S) (J4F a1).2.1 hy)
theorem JG2{j:Int}{k y:J5}{p q:Int}(ks:JbQ k y)(h:JlC k j p)(g:JlC y j q):q=p:=by obtain⟨_,_,a,ha,e⟩:=h;obtain⟨_,_,b,hb,f⟩:=g;rw[JC3 ks,ha]at hb;injection hb with hb;subst hb;rw[e,f]
theorem JJZ{j:Int}{l:JK}{k y:J5}{p q:Int}(ks:JbQ k y)(h:Jl0 k j l p)(g:Jl0 y j l q):q=p:=by obtain⟨_,_,a,ha,e⟩:=h;obtain⟨_,_,b,hb,f⟩:=g;rw[Jxt ks,ha]at hb;injection hb with hb;subst hb;rw[e,f]
theorem Jbh{k:J5}(h:Jq k=some true):J0 k.2.2.1.2.1<=4096:=(JeD (J4F h).1).2.2
open Classical in
noncomputable def left(W:J5->Int->Prop)(k:J5):Int:=2*(4097-J0 k.2.2.1.2.1)+if∃p,W k p then 1 else 0
open Classical in
theorem JyO{W:J5->Int->Prop}{k y:J5}(h:J0 y.2.2.1.2.1=J0 k.2.2.1.2.1+1)(hk: ¬∃p,W k p):left W y<left W k:=by have e1:(if∃p,W k p then(1:Int)else 0)=0:=if_neg hk;unfold left;rw[e1];split<;>omega
open Classical in
theorem JhN{W:J5->Int->Prop}{k y:J5}{p:Int}(hk:W k p)(h:J0 k.2.2.1.2.1<=J0 y.2.2.1.2.1)(hy:J0 y.2.2.1.2.1=J0 k.2.2.1.2.1-> ∀q,¬W y q):left W y<left W k:=by
 have e1:(if∃p,W k p then(1:Int)else 0)=1:=if_pos ⟨p,hk⟩;unfold left;rw[e1];by_cases e:J0 y.2.2.1.2.1=J0 k.2.2.1.2.1
 ·have e2:(if∃p,W y p then(1:Int)else 0)=0:=if_neg fun⟨q,hq⟩=>hy e q hq;rw[e2];omega
 ·split<;>omega
open Classical in
theorem JeV{W:J5->Int->Prop}{k:J5}(h:J0 k.2.2.1.2.1<=4097):0<=left W k:=by unfold left;split<;>omega
theorem JKw{y:J0f}(g:0<=B)(e:0<=S)(h:zFt 0 0 J00 y):zFt B S J00 y:=h.u
abbrev sZ:Jt:=((0,0,(0,[],0),(0,[],0),([],[]),[],[],[]),[],0,[],false,[])
theorem Jkd{x1:J2M}(h:zFt B S tq3 x1)(A:0<=B:=by omega)(x:0<=S:=by omega)(J:16384<=B:=by omega)(I:1073741824<=S:=by omega)(O:B<=1000000:=by omega)(N:S<=1000000000000:=by omega):Tot (J1C x1) λy=>zFt B S tq3 y/\(y.2=0->J0 x1.1.1.2.2.1.2.1<=J0 y.1.1.2.2.1.2.1):=by
 obtain⟨s,k⟩:=x1;obtain⟨hs,o⟩:=h;dsimp only at hs o⊢;have z0:zFt B S Jl sZ:=J0i A x Jl;unfold J1C;dsimp only;refine .bind (J1m hs.1) λM h2=>.not (λ_=>.some ⟨⟨z0,fkn 15⟩,nofun⟩) λ_=>.bind (J3e (x1:=(s.1.2.2.2.2.2.1,k)) ⟨hs.1.2.2.2.2.2.1,o⟩) λK _=>.lt (λ_=>.some ⟨⟨z0,fkn 16⟩,nofun⟩) λ_=>Jf (τ:=Jt) (λq=>(k,q,sZ)) (λq=>zFt B S Jl q/\J0 s.1.2.2.1.2.1<=J0 q.1.2.2.1.2.1) (λq=>left (JbV k) q.1) ?_ s rfl ⟨hs,J0C _⟩;rintro q ⟨g1,g2⟩;unfold J8h;dsimp only;refine .bind (JdR (x1:=(q,k)) ⟨g1,o⟩) λL _=>.ite (λ_=>?_) λ_=>.some ⟨⟨g1,fk0⟩,λ_=>g2⟩;refine .bind ((Jha (x1:=(q.1,k)) ⟨g1.1,o⟩).eqn) λn j=>.eq (λH=>.some ⟨⟨z0,j.1.1.g⟩,λc=>absurd c (JBN j.2 H)⟩) λz=>.eq (λc=>?_) λc3=>?_
 ·have w:JbV k q.1 n.2.2.2.1:=⟨n,j.2,c,rfl⟩;refine .bind ((J7d (x1:=(q,n.2.2.2.1)) ⟨g1,j.1.1.d.1⟩).eqn) λC r=>.ne (λE=>.some ⟨⟨z0,r.1.1.2⟩,λc=>absurd c E⟩) λv=>?_;obtain⟨D,G⟩:=J9h (B:=B) (S:=S) g1.1.2.2.2.1 r.2 v;have hl:=r.1.2 v;refine .some ⟨C.1,rfl,⟨r.1.1.1,JcL g2 hl⟩,JhN w hl λe=>Jh6 (B:=B) (S:=S) (JbV k) (λh=>⟨h.want.1,h.want.2.1⟩) (λks h g=>JG2 ks h.want g.want) w D G r.1.1.1.1.d.1 e,JeV ?_⟩;have:=Jbh w.want.1;omega
 ·have h1:n.2.1=1/\J0 n.1.2.2.1.2.1=J0 q.1.2.2.1.2.1+1:=by
   rcases j.1.2 with h|h|h
   ·exact h
   ·exact absurd h c3
   ·exact absurd h z
  have F: ¬∃p,JbV k q.1 p:=fun⟨p,y,e,c,_⟩=>by rw[j.2]at e;injection e with e;subst e;exact c3 c
  refine .some ⟨(n.1,q.2),rfl,⟨⟨j.1.1.1,g1.2⟩,?_⟩,JyO h1.2 F,JeV ?_⟩
  ·show J0 s.1.2.2.1.2.1<=J0 n.1.2.2.1.2.1;omega
  ·have:=Jbh (JuR j.2 z);omega
end
section
variable {B S:Int}
open Classical in
theorem JBb{x1:JA4}(h:zFt B S (.pr Jl tq6) x1)(G:BH B S:=by omega)(K:B<=1000000:=by omega)(J:S<=1000000000000:=by omega):Tot (J6O x1) λy=>zFt B S JAj y/\J0 x1.1.1.2.2.1.2.1<=J0 y.1.1.2.2.1.2.1:=by
 obtain⟨s,n,a⟩:=x1;obtain⟨hs,k,ha⟩:=h;unfold J6O;dsimp only at hs k ha⊢;refine Jf (τ:=Jt) (λq=>(n,q,a,((0,0,(0,[],0),(0,[],0),([],[]),[],[],[]),[],0,[],false,[]),0,0,0,(false,[]),0)) (λq=>zFt B S Jl q/\J0 s.1.2.2.1.2.1<=J0 q.1.2.2.1.2.1) (λq=>if JbE q.1.2.2.2.1 a.2.1 then 0 else 1) ?_ s rfl ⟨hs,J0C _⟩;rintro q ⟨g1,g2⟩;unfold Jcp;dsimp only;refine .bind ((JBI (x1:=(q.1,n,a)) ⟨g1.1,k,ha⟩).eqn) λg h3=>?_;have hy:zFt B S Jl (g.1,q.2):=⟨h3.1.1.1,g1.2⟩;have hl:J0 s.1.2.2.1.2.1<=J0 g.1.2.2.1.2.1:=JcL g2 h3.1.2;have fin: ∀{y:J0f},zFt B S J00 y->zFt B S JAj ((g.1,q.2),y)/\J0 s.1.2.2.1.2.1<=J0 ((g.1,q.2),y).1.1.2.2.1.2.1:=λhr=>⟨⟨hy,hr⟩,hl⟩;refine .eq (λc=>?_) λ_=>?_
 ·obtain⟨w1,w2,w3,F⟩:=JBl h3.2 c;refine .bind ((J7d (x1:=((g.1,q.2),g.2.2.2.1)) ⟨hy,h3.1.1.d.1⟩).eqn) λE h4=>.ne (λ_=>.bind (J09 (B:=B) (S:=S) h4.1.1.2) λI h5=>.some (fin h5.1.u)) λA=>?_;obtain⟨H,v⟩:=J9h (B:=B) (S:=S) hy.1.2.2.2.1 h4.2 A;rw[F]at v;have v:JbE E.1.1.2.2.2.1 a.2.1:=v;have C: ¬JbE q.1.2.2.2.1 a.2.1:=λhp=>w2 (hp.inP (B:=B) (S:=S) (J4F w1).2.1 g1.1.2.2.2.1);refine .some ⟨E.1,rfl,⟨h4.1.1.1,JcL hl (h4.1.2 A)⟩,?_,?_⟩
  ·rw[if_pos v,if_neg C];decide
  ·rw[if_neg C];decide
 ·have rb:Tot ((J2O ((g.1,q.2),n)).bind λx=>if x=true then(J1C ((g.1,q.2),n)).bind λj=>if neI j.2 0=true then(Jr j.2).bind λw=>some (Sum.inr ((g.1,q.2),w))else some (Sum.inr (j.1,g.2))else some (Sum.inr ((g.1,q.2),g.2))) fun(r:(TQ25)⊕(TQ79))=> ∃y,r=.inr y/\zFt B S JAj y/\J0 s.1.2.2.1.2.1<=J0 y.1.1.2.2.1.2.1:=by
   refine .bind (JdR (x1:=((g.1,q.2),n)) ⟨hy,k⟩) λx _=>.ite (λ_=>.bind (Jkd (x1:=((g.1,q.2),n)) ⟨hy,k⟩) λj o=>.ne (λ_=>.bind (J09 (B:=B) (S:=S) o.1.2) λw z=>.some ⟨_,rfl,fin z.1.u⟩) λD=>.some ⟨_,rfl,⟨o.1.1,h3.1.1.2⟩,JcL hl (o.2 D)⟩) λ_=>.some ⟨_,rfl,fin h3.1.1.2⟩
  refine .eqf (λ_=>.eq (λ_=>.eqf (λ_=>.eq (λ_=>?_) λ_=>.some (fin h3.1.1.2)) λ_=>?_) λ_=>.some (fin h3.1.1.2)) λ_=>?_
  all_goals
   exact rb.mono λr ⟨y,e,h⟩=>by subst e;exact h
end
theorem JvE{B S:Int}{x1:Jn0}(h:zFt B S JFF x1)(r:BG B S:=by omega):Tot (J1V x1) λy=>zFt B S tq4 y/\((y.2.1=1/\(J0 y.1.2.2.1.2.1=J0 x1.1.2.2.1.2.1+1\/y.2.2.1=0))\/y.2.1=3\/y.2.1=5):=by
 unfold J1V;refine .bind (J7F (B:=B) (S:=S) (⟨h.1,h.2.1⟩)) λA h1=>.ne (λq=>?_) λq=>?_
 ·refine .bind (J09 h1.2) λv h4=>.some ⟨(⟨h.1,h4.1.u⟩),om⟩
 ·have:=J3.1 h1.1.2.1;refine .ne (λk=>?_) λk=>?_
  ·refine .bind (J09 (B:=0) (S:=0) (fkn 15)) λx j=>.some ⟨(⟨h.1,j.1.u⟩),om⟩
  ·refine .bind (JeK (B:=B) (S:=S) (h)) λw n=>.not (λo=>?_) λo=>?_
   ·have:J0 x1.1.2.2.1.2.1<=B:=h.1.c.1.2.1.1;exact .some ⟨(⟨h.1,fkn 1,fk0,fk0,⟨trivial,Je⟩,fk0⟩),om⟩
   ·refine .bind (Jcr (B:=B) (S:=S) (⟨h.1,h1.1.u,n.1.u⟩)) λg e=>?_;have:=J3.1 e.1.2.z.1;have:J0 g.1.2.2.1.2.1=_:=Jk e.1.1.c.1.2.1;have:J0 x1.1.2.2.1.2.1=_:=Jk h.1.c.1.2.1;have:(g.2.1=1/\J0 g.1.2.2.1.2.1=J0 x1.1.2.2.1.2.1+1)\/g.2.1=3\/g.2.1=5:=e.2;exact .some ⟨(⟨e.1.1,e.1.2.z.u⟩),om⟩
section
variable {B S:Int}
theorem JtM{x1:Jzz}(h:zFt B S (.pr Jl Jd) x1)(K:BH B S:=by omega)(O:B<=1000000:=by omega)(M:S<=1000000000000:=by omega):Tot (J5E x1) λy=>zFt B S JBy y/\J0 x1.1.1.2.2.1.2.1<=J0 y.1.1.2.2.1.2.1/\(¬y.2.1=0->J0 x1.1.1.2.2.1.2.1+1<=J0 y.1.1.2.2.1.2.1/\J0 x1.1.1.2.2.1.2.1<=4096):=by
 obtain⟨s,o,l⟩:=x1;obtain⟨hs,v,hl⟩:=h;dsimp only at hs v hl⊢;unfold J5E;dsimp only;refine Jf (τ:=Int×Jt) (λq=>(o,q.1,q.2,l,sZ)) (λq=>zFt B S Jl q.2/\0<=q.1/\q.1+J0 s.1.2.2.1.2.1<=J0 q.2.1.2.2.1.2.1/\(¬q.1=0->J0 s.1.2.2.1.2.1<=4096)) (λq=>left (JiO o l) q.2.1) ?_ (0,s) rfl ⟨hs,J0C _,by dsimp only;omega,λc=>absurd rfl c⟩;rintro⟨n,q⟩ ⟨g1,g2,J,A⟩;dsimp only at g1 g2 J A;unfold JaV;dsimp only;have:=Jb n 1;have:J0 q.1.2.2.1.2.1<=B:=g1.1.2.2.1.2.1.1;have:=J4 (l:=s.1.2.2.1.2.1);have fn:zFt B S zI n:=J3.2 oo;have fin: ∀{e:Int},zFt B S zI e->zFt B S JBy (q,n,e)/\J0 s.1.2.2.1.2.1<=J0 ((q,n,e):Jew).1.1.2.2.1.2.1/\(¬((q,n,e):Jew).2.1=0->J0 s.1.2.2.1.2.1+1<=J0 ((q,n,e):Jew).1.1.2.2.1.2.1/\J0 s.1.2.2.1.2.1<=4096):=fun{e} he=>⟨⟨g1,fn,he⟩,by dsimp only;omega,λc=>by dsimp only at c⊢;have:=A c;omega⟩;refine .bind ((JvE (x1:=(q.1,o,l)) ⟨g1.1,v,hl⟩).eqn) λj k=>.eq (λN=>.some (fin k.1.1.g)) λE=>.eq (λc=>?_) λc3=>.eq (λc=>.some (fin fk0)) λG=>?_
 ·have w:JiO o l q.1 j.2.2.2.1:=⟨j,k.2,c,rfl⟩;refine .bind ((J7d (x1:=(q,j.2.2.2.1)) ⟨g1,k.1.1.d.1⟩).eqn) λC r=>.ne (λL=>.some (fin r.1.1.2)) λD=>?_;obtain⟨F,I⟩:=J9h (B:=B) (S:=S) g1.1.2.2.2.1 r.2 D;have x:=r.1.2 D;dsimp only at x;refine .some ⟨(n,C.1),rfl,⟨r.1.1.1,g2,by show n+_<=J0 C.1.1.2.2.1.2.1;omega,A⟩,JhN w x λe=>Jh6 (B:=B) (S:=S) (JiO o l) (λh=>⟨h.want.1,h.want.2.1⟩) (λks h g=>JJZ ks h.want g.want) w F I r.1.1.1.1.d.1 e,JeV ?_⟩;have:=Jbh w.want.1;show J0 q.1.2.2.1.2.1<=4097;omega
 ·have h1:j.2.1=1/\J0 j.1.2.2.1.2.1=J0 q.1.2.2.1.2.1+1:=by
   rcases k.1.2 with⟨h,z|z⟩|h|h
   ·exact⟨h,z⟩
   ·exact absurd z G
   ·exact absurd h c3
   ·exact absurd h E
  have H: ¬∃p,JiO o l q.1 p:=fun⟨p,y,e,c,_⟩=>by rw[k.2]at e;injection e with e;subst e;exact c3 c
  have hv:=Jbh (JuJ k.2 E);refine .some ⟨(J1 .i64 n 1,(j.1,q.2)),rfl,⟨⟨k.1.1.1,g1.2⟩,by show 0<=J1 .i64 n 1;omega,by show J1 .i64 n 1+_<=J0 j.1.2.2.1.2.1;omega,λ_=>by omega⟩,JyO h1.2 H,JeV (by show J0 q.1.2.2.1.2.1<=4097;omega)⟩
theorem JAu{x1:JA4}(h:zFt B S (.pr Jl tq6) x1)(n:0<=B:=by omega)(k:0<=S:=by omega)(z:16384<=B:=by omega)(x:1073741824<=S:=by omega)(D:B<=1000000:=by omega)(C:S<=1000000000000:=by omega):Tot (J79 x1) λy=>zFt B S JAj y:=by obtain⟨s,g,a⟩:=x1;obtain⟨hs,e,ha⟩:=h;dsimp only at hs e ha⊢;unfold J79;dsimp only;refine Jf (τ:=Jt) (λq=>(g,q,a,sZ,0,0,0,(false,[]),0)) (λq=>zFt B S Jl q) (λq=>4097-J0 q.1.2.2.1.2.1) ?_ s rfl hs;rintro q g1;unfold Jcu;dsimp only;refine .bind (JBb (x1:=(q,g,a)) ⟨g1,e,ha⟩) λj h3=>.ne (λ_=>.some h3.1) λ_=>.bind (Jlt (x1:=(j.1.1,g)) ⟨h3.1.1.1,e⟩) λo h4=>.not (λ_=>.some h3.1) λ_=>.bind (JtM (x1:=(j.1,o.1,o.2.1)) ⟨h3.1.1,h4.1,h4.2.1⟩) λr h5=>.ne (λ_=>.bind (J09 (B:=B) (S:=S) h5.1.c) λA v=>.some ⟨h5.1.1,JKw n k v.1⟩) λ_=>.eq (λ_=>.some ⟨h5.1.1,h3.1.2⟩) λc=>?_;obtain⟨e1,e2⟩:=h5.c c;have w:=h3.2;dsimp only at e1 e2 w;exact .some ⟨r.1,rfl,h5.1.1,oo,oo⟩
theorem Jvx{x1:Jt}(h:zFt B S Jl x1)(E:0<=B:=by omega)(D:0<=S:=by omega)(L:16384<=B:=by omega)(K:1073741824<=S:=by omega)(R:B<=1000000:=by omega)(P:S<=1000000000000:=by omega):Tot (J5A x1) λy=>zFt B S (.pr Jl (.pr .b zI)) y:=by
 have z0:zFt B S Jl sZ:=J0i E D Jl;unfold J5A;refine .bind (J1m h.1) λN _=>.not (λ_=>.some ⟨z0,trivial,fkn 15⟩) λ_=>.gt (λc=>?_) λ_=>?_
 ·exact .bind (Jh h.1.i (J0C _) c) λG h3=>.bind (J7d (x1:=(x1,G.1)) ⟨h,h3.1.1⟩) λO h4=>.some ⟨h4.1.1,trivial,h4.1.2⟩
 refine .bind (Jtk h.1) λj h5=>.eq (λ_=>.some ⟨h,trivial,fk0⟩) λI=>?_;have o:=J4 (l:=j);have x:0<J0 j:=by omega
 have v:(0:Int).toNat<j.length:=by unfold J0 at x;omega
 have C:idx j 0=some j[(0:Int).toNat]:=by unfold idx;rw[if_pos (J0C _),zQ9 v]
 have hx:=h5.2 _ (J8L v);generalize j[(0:Int).toNat]=n at C hx;refine Jf (τ:=Jt) (λq=>(j,q,sZ)) (λq=>zFt B S Jl q) (λq=>left (JbV n) q.1) ?_ x1 rfl h;rintro q g1;unfold JaA;dsimp only;rw[C];show Tot ((J0L (q.1,n)).bind _) _;refine .bind ((Jha (x1:=(q.1,n)) ⟨g1.1,hx⟩).eqn) λz r=>.eq (λQ=>.some ⟨z0,trivial,r.1.1.g⟩) λI=>.ne (λ_=>.some ⟨⟨r.1.1.1,g1.2⟩,trivial,fk0⟩) λc=>?_;have w:JbV n q.1 z.2.2.2.1:=⟨z,r.2,c,rfl⟩;refine .bind ((J7d (x1:=(q,z.2.2.2.1)) ⟨g1,r.1.1.d.1⟩).eqn) λF k=>.ne (λM=>.some ⟨z0,trivial,k.1.1.2⟩) λA=>?_;obtain⟨H,J⟩:=J9h (B:=B) (S:=S) g1.1.2.2.2.1 k.2 A;have hl:=k.1.2 A;refine .some ⟨F.1,rfl,k.1.1.1,JhN w hl λe=>Jh6 (B:=B) (S:=S) (JbV n) (λh=>⟨h.want.1,h.want.2.1⟩) (λks h g=>JG2 ks h.want g.want) w H J k.1.1.1.1.d.1 e,JeV ?_⟩;have:=Jbh w.want.1;show J0 q.1.2.2.1.2.1<=4097;omega
end
theorem JfU{B S:Int}{x1:TQ4}(h:zFt B S (.pr J0X tq0) x1)(p0:J0 x1.2.2.2.2.2.2.2.2.2.2.2.2.2.2.2.2.2.2.2.2.1<=16000)(U:J0 x1.2.2.2.2.2.2.2.2.2.2.2.2.2.2.2.2.2.2.2.2.2<=16000)(O:BH B S:=by omega)(Y:B<=1000000:=by omega)(W:S<=1000000000000:=by omega):Tot (J2q x1) λy=>zFt B S JAe y/\(J0 y.2.2.2.2.2.2.2.2.2.2.2.2.2.2.2.2.2.2.2.2.1<=J0 x1.2.2.2.2.2.2.2.2.2.2.2.2.2.2.2.2.2.2.2.2.1+1/\J0 y.2.2.2.2.2.2.2.2.2.2.2.2.2.2.2.2.2.2.2.2.2<=J0 x1.2.2.2.2.2.2.2.2.2.2.2.2.2.2.2.2.2.2.2.2.2+1):=by
 unfold J2q;have:J0 x1.2.2.2.2.2.2.2.2.2.2.2.2.2.2.2.2.2.2.2.2.1<=B:=h.k.k.c.1.1;have:=J4 (l:=x1.2.2.2.2.2.2.2.2.2.2.2.2.2.2.2.2.2.2.2.2.1);have:=J4 (l:=x1.2.2.2.2.2.2.2.2.2.2.2.2.2.2.2.2.2.2.2.2.2);have:J0 x1.2.2.2.2.2.2.2.2.2.2.2.2.2.2.2.2.2.2.2.2.2=_:=Jk h.k.k.d;have o:zFt 16000 S (.l zI) x1.2.2.2.2.2.2.2.2.2.2.2.2.2.2.2.2.2.2.2.2.1:=⟨(by omega:J0 x1.2.2.2.2.2.2.2.2.2.2.2.2.2.2.2.2.2.2.2.2.1<=16000),λx hx=>h.k.k.c.1.2 x hx⟩;have q:zFt 16000 S (.l J0B) x1.2.2.2.2.2.2.2.2.2.2.2.2.2.2.2.2.2.2.2.2.2:=⟨(by omega:J0 x1.2.2.2.2.2.2.2.2.2.2.2.2.2.2.2.2.2.2.2.2.2<=16000),λx hx=>h.k.k.e x hx⟩;have:=J3.1 h.1.z.2.1;refine .ltf (λJ=>?_) λJ=>?_
 ·refine .gtf (λG=>?_) λG=>?_
  ·have:=J0o x1.1.2.1 1;refine .bind (J6d (l:=x1.2.2.2.2.2.2.2.2.2.2.2.2.2.2.2.2.2.2.2.2.1)) λ_ _=>.bind (JbP o) λQ L=>.eq (λC=>?_) λC=>?_
   ·refine .bind (J09 (B:=0) (S:=0) (fkn 16)) λV E=>.some ⟨(⟨E.1.u,h.2.1,h.c.1,h.d.1,h.e.1,h.g.1,h.h.1,h.i.1,h.j.1,h.k.1,h.k.2.1,h.k.c.1,h.k.d.1,h.k.e.1,h.k.g.1,h.k.h.1,h.k.i.1,trivial,h.k.k.1,trivial,o.u,q.u⟩),om⟩
   ·refine .bind (J6d (l:=x1.2.2.2.2.2.2.2.2.2.2.2.2.2.2.2.2.2.2.2.2.1)) λ_ _=>.bind (JbP o) λT v=>.bind (JAu (B:=B) (S:=S) (⟨⟨⟨h.2.1,h.c.1,⟨h.d.1,h.e.1,h.g.1⟩,⟨h.h.1,h.i.1,h.j.1⟩,⟨h.k.1,h.k.2.1⟩,h.k.c.1,h.k.d.1,h.k.e.1⟩,h.k.g.1,h.k.h.1,h.k.i.1,trivial,h.k.k.1⟩,v.1,h.1.z.2.2.2.2.2.u⟩)) λP n=>.eq (λI=>?_) λI=>?_
    ·exact .some ⟨(⟨n.2.z.u,h.2.1,h.c.1,h.d.1,h.e.1,h.g.1,h.h.1,h.i.1,h.j.1,h.k.1,h.k.2.1,h.k.c.1,h.k.d.1,h.k.e.1,h.k.g.1,h.k.h.1,h.k.i.1,trivial,h.k.k.1,trivial,o.u,q.u⟩),om⟩
    ·refine .eq (λH=>?_) λH=>?_
     ·have:=J3.1 h.1.z.2.2.2.2.2.1;refine .eq (λA=>?_) λA=>?_
      ·refine .bind (J8g n.1.1.c.1) λR D=>.bind (J0u (B:=16001) (Bl:=16000) (Bm:=1) (S:=S) (J0 x1.2.2.2.2.2.2.2.2.2.2.2.2.2.2.2.2.2.2.2.2.2) 1 q (J0j (B:=1) (S:=S) (t:=J0B) oo (⟨v.1,h.1.z.2.2.2.2.2.2.1,h.1.z.2.2.2.2.2.2.2.1,D,n.2.z.2.2.2.1.u⟩))) λK r=>?_;have:J0 K=_:=Jk r.1;exact .some ⟨(⟨n.2.z.u,n.1.1.1,n.1.1.2.1,n.1.1.c.1.1,n.1.1.c.1.2.1,n.1.1.c.1.c,n.1.1.d.1.1,n.1.1.d.1.2.1,n.1.1.d.1.c,n.1.1.e.1.1,n.1.1.e.1.2,n.1.1.g.1,n.1.1.h.1,n.1.1.i,n.1.2.1,n.1.c.1,n.1.d.1,trivial,n.1.g,trivial,o.u,r.1.u⟩),om⟩
      ·exact .some ⟨(⟨n.2.z.u,n.1.1.1,n.1.1.2.1,n.1.1.c.1.1,n.1.1.c.1.2.1,n.1.1.c.1.c,n.1.1.d.1.1,n.1.1.d.1.2.1,n.1.1.d.1.c,n.1.1.e.1.1,n.1.1.e.1.2,n.1.1.g.1,n.1.1.h.1,n.1.1.i,n.1.2.1,n.1.c.1,n.1.d.1,trivial,n.1.g,trivial,o.u,q.u⟩),om⟩
     ·exact .some ⟨(⟨n.2.z.u,n.1.1.1,n.1.1.2.1,n.1.1.c.1.1,n.1.1.c.1.2.1,n.1.1.c.1.c,n.1.1.d.1.1,n.1.1.d.1.2.1,n.1.1.d.1.c,n.1.1.e.1.1,n.1.1.e.1.2,n.1.1.g.1,n.1.1.h.1,n.1.1.i,n.1.2.1,n.1.c.1,n.1.d.1,trivial,n.1.g,trivial,o.u,q.u⟩),om⟩
  ·refine .bind (J09 (B:=0) (S:=0) (fkn 16)) λM F=>.some ⟨(⟨F.1.u,h.2.1,h.c.1,h.d.1,h.e.1,h.g.1,h.h.1,h.i.1,h.j.1,h.k.1,h.k.2.1,h.k.c.1,h.k.d.1,h.k.e.1,h.k.g.1,h.k.h.1,h.k.i.1,trivial,h.k.k.1,trivial,o.u,q.u⟩),om⟩
 ·refine .bind (J09 (B:=0) (S:=0) (fkn 16)) λN w=>.some ⟨(⟨w.1.u,h.2.1,h.c.1,h.d.1,h.e.1,h.g.1,h.h.1,h.i.1,h.j.1,h.k.1,h.k.2.1,h.k.c.1,h.k.d.1,h.k.e.1,h.k.g.1,h.k.h.1,h.k.i.1,trivial,h.k.k.1,trivial,o.u,q.u⟩),om⟩
theorem Jgv{B S:Int}{x1:List UInt8}(h:zFt B S .s x1)(r:BS B S 0 0:=by omega)(x:S<=4611686018427387887:=by omega):Tot (J3U x1) λy=>zFt 0 (S+16) .s y:=by
 unfold J3U;have s0:zFt 0 S .s x1:=h;have:J0 x1<=S:=s0;have:=J4 (l:=x1);refine .gt (λn=>?_) λn=>?_
 ·exact .some Je
 ·refine .bind (JW (B:=0) (S:=0) (⟨Je,J4o s0 oo,fkn 4⟩)) λe h4=>?_;have h5:zFt 0 8 .s e:=h4.1.u;have:J0 e<=8:=h5;have:=J4 (l:=e);refine .bind (J6U) λk w=>?_;have h10:zFt 0 (S+8) .s k:=(by omega:J0 k<=(S+8));refine .bind (Jb6 h10) λv q=>.bind (JW (B:=0) (S:=(S+8)) (⟨h10,Jd5,fkn 4⟩)) λo g=>?_;have j:zFt 0 (S+16) .s o:=g.1.u;exact .some j
theorem Jh5{B S:Int}{x1:(List UInt8)×J1k}(h:zFt B S (.pr .s JG) x1)(q:BS B S 0 0:=by omega)(r:S<=2305843009213693948:=by omega):Tot (J4m x1) λy=>zFt 0 (2*S+8) .s y:=by
 unfold J4m;have s0:zFt 0 S (.pr .s JG) x1:=h;refine .not (λn=>?_) λn=>?_
 ·refine .bind (JW (B:=0) (S:=S) (⟨s0.1,fkn 255,fkn 1⟩)) λv h2=>.some h2.1.u
 ·refine .bind (JW (B:=0) (S:=S) (⟨s0.1,J4o s0.2.2 oo,fkn 1⟩)) λj k=>?_;have:J0 j<=(S+8):=k.1;have:J0 x1.2.2<=S:=s0.2.2;refine .bind (J6U) λe o=>?_;have g:zFt 0 (2*S+8) .s e:=(by omega:J0 e<=(2*S+8));exact .some g
theorem JnC{B S:Int}{x1:J2}(h:zFt B S J6 x1)(a6:BS B S 0 0:=by omega):Tot (J49 x1) λy=>zFt 0 40992 Jbp y:=by
 unfold J49;have s0:zFt 0 S J6 x1:=h;refine .bind ((J2X (B:=0) (S:=S) (x1:=x1) s0).eqn) λy2 h1=>.not (λG=>?_) λG=>?_
 ·exact .some (⟨Je,fkn 12⟩)
 ·have v3:=J2s (x:=x1) s0 h1.2 G;have:=J4 (l:=x1.2.2.2.2.2.2.2);have j:zFt 0 8192 J6 x1:=v3.2;refine .bind (JW (B:=0) (S:=0) (⟨Je,j.1,fkn 8⟩)) λZ r=>?_;have I:zFt 0 8 .s Z:=r.1.u;refine .bind (JW (B:=0) (S:=8) (⟨I,j.2.1,fkn 1⟩)) λy4 K=>?_;have z:zFt 0 16 .s y4:=K.1.u;refine .bind (JW (B:=0) (S:=16) (⟨z,j.c.1,fkn 4⟩)) λy5 H=>?_;have E:zFt 0 24 .s y5:=H.1.u;refine .bind (JW (B:=0) (S:=24) (⟨E,j.d.1,fkn 8⟩)) λy6 O=>?_;have q:zFt 0 32 .s y6:=O.1.u;refine .bind (JW (B:=0) (S:=32) (⟨q,j.e.1,fkn 8⟩)) λY L=>?_;have C:zFt 0 40 .s Y:=L.1.u;refine .bind (JW (B:=0) (S:=40) (⟨C,j.g.1,fkn 8⟩)) λy8 T=>?_;have v:zFt 0 48 .s y8:=T.1.u;refine .bind (JW (B:=0) (S:=48) (⟨v,j.h.1.1,fkn 4⟩)) λy9 Q=>?_;have P:zFt 0 56 .s y9:=Q.1.u;refine .bind (JW (B:=0) (S:=56) (⟨P,j.h.1.2.1,fkn 1⟩)) λw U=>?_;have J:zFt 0 64 .s w:=U.1.u;refine .bind (Jh5 (B:=0) (S:=8192) (⟨J.u,j.h.1.c.1⟩)) λW D=>?_;have o:zFt 0 16392 .s W:=D.u;refine .bind (Jh5 (B:=0) (S:=16392) (⟨o,j.h.1.d.u⟩)) λM A=>?_;have R:zFt 0 32792 .s M:=A.u;refine .bind (JW (B:=0) (S:=32792) (⟨R,J4o j.i oo,fkn 4⟩)) λk F=>?_;have V:zFt 0 32800 .s k:=F.1.u;have:J0 k<=32800:=V;have:=J4 (l:=k);refine .bind (J6U) λn a5=>?_;have N:zFt 0 40992 .s n:=(by omega:J0 n<=40992);exact .some (⟨N,fk0⟩)
theorem JgD{B S:Int}{x1:J2}(h:zFt B S J6 x1)(g:BS B S 0 0:=by omega):Tot (J30 x1) λy=>zFt 0 41008 .s y:=by unfold J30;refine .bind (JnC (B:=0) (S:=S) h.z) λj h1=>.bind (Jgv h1.1) λe h2=>?_;have h3:zFt 0 41008 .s e:=h2.u;exact .some h3
theorem JwN{B S x1:Int}(h:zFt B S zI x1)(n:BS B S 0 0:=by omega):Tot (J5o x1) λy=>zFt 0 28 .s y:=by unfold J5o;refine .bind (JW (B:=0) (S:=4) (⟨JIw 4 rfl oo,h,fkn 8⟩)) λk h1=>?_;have h2:zFt 0 12 .s k:=h1.1.u;refine .bind (Jgv h2) λg e=>?_;have j:zFt 0 28 .s g:=e.u;exact .some j
theorem J99{B S:Int}{x1:J6t}(h:zFt B S tq8 x1)(a0:BC B S 0 0:=by omega):Tot (J1M x1) λy=>zFt 0 335937564 .s y:=by
 unfold J1M;refine .bind ((J2v h.1).eqn) λy2 h1=>.not (λJ=>?_) λJ=>?_
 ·exact .some Je
 ·have v3:=J26 h.1 h1.2 J;have:=J4 (l:=x1.1.2.1);have:J0 x1.1.2.1=_:=Jk h.1.2.1;have h10:zFt 4096 8192 JT x1.1:=v3.2;refine .bind (JwN h10.1) λr x=>?_;have:J0 r<=28:=x;have:=J4 (l:=r);refine Jf (τ:=(List UInt8)×(List UInt8)×Int) (λq=>(x1.2,q.1,q.2.1,q.2.2,x1.1)) (λq=>(zFt 0 0 zI q.2.2/\0<=q.2.2/\(q.2.2<=J0 x1.1.2.1\/q.2.2<=0))/\(zFt 0 167968796 .s q.1/\J0 q.1<=41008*q.2.2+J0 r)/\(zFt 0 167968768 .s q.2.1/\J0 q.2.1<=41008*q.2.2+0)) (λq=>J0 x1.1.2.1-q.2.2) ?_ (r,[],0) rfl ?_
  ·rintro⟨g,e,j⟩ C;dsimp only at C;obtain⟨⟨L,W,U⟩,⟨o,Z⟩,k,T⟩:=C;unfold J9N
   try dsimp only
   have:=J3.1 L;refine .lt (λM=>?_) λM=>?_
   ·refine .bind (Jh h10.2.1) λy5 a2=>.le (λN=>?_) λN=>?_
    ·refine .bind (Jh h10.2.1) λy6 P=>.bind (JgD (B:=0) (S:=8192) P.1.z) λE G=>?_;have:J0 g<=167968796:=o;have:=J4 (l:=g);have:J0 E<=41008:=G;have:=J4 (l:=E);refine .bind (J6U) λD V=>?_;have I:zFt 0 167968796 .s D:=(by omega:J0 D<=167968796);have:=Jb j 1;exact .some ⟨(D,e,J1 .i64 j 1),rfl,⟨⟨J8,om,om⟩,⟨I,om⟩,k,om⟩,om,om⟩
    ·refine .bind (Jh h10.2.1) λy9 F=>.bind (JgD (B:=0) (S:=8192) F.1.z) λv O=>?_;have:J0 e<=167968768:=k;have:=J4 (l:=e);have:J0 v<=41008:=O;have:=J4 (l:=v);refine .bind (J6U) λn Y=>?_;have K:zFt 0 167968768 .s n:=(by omega:J0 n<=167968768);have:=Jb j 1;exact .some ⟨(g,n,J1 .i64 j 1),rfl,⟨⟨J8,om,om⟩,⟨o,om⟩,K,om⟩,om,om⟩
   ·refine .inr ?_;have:=J5P x1.2 0;have:J0 e<=167968768:=k;have:=J4 (l:=e);have:=Jzh (J1o x1.2 0) (J0 e);refine .bind (Jcs k) λA Q=>?_;have R:zFt 0 167968768 .s A:=Q.1;have:J0 g<=167968796:=o;have:=J4 (l:=g);have:=J4 (l:=A);refine .bind (J6U) λw a1=>?_;have H:zFt 0 335937564 .s w:=(by omega:J0 w<=335937564);exact .some H
  ·have:J0 ([]:List UInt8)=0:=rfl
   try dsimp only
   exact⟨⟨fk0,oo,oo⟩,⟨x.u,oo⟩,Je,oo⟩
theorem Jr7{B S:Int}{x1:Jzz}(h:zFt B S (.pr Jl Jd) x1)(F:BG B S:=by omega):Tot (J4J x1) λy=>zFt B S (.pr JV .s) y:=by
 unfold J4J;refine .bind ((J5p (B:=B) (S:=S) (x1:=(x1.1.1.2.2.2.1,x1.2.2.1)) (⟨h.1.1.d.1,h.c.1⟩)).eqn) λw h1=>?_;have:J0 x1.1.1.2.2.2.1.2.1=_:=Jk h.1.1.d.1.2.1;have: -1<=w/\w<J0 x1.1.1.2.2.2.1.2.1:=h1.1.2;refine .ge (λA=>?_) λA=>?_
 ·refine .bind (Jh h.1.1.d.1.2.1) λH L=>.ite (λx=>?_) λx=>?_
  ·refine .bind (Jh h.1.1.d.1.2.1) λN h10=>.bind (JaO (B:=0) (S:=S) h10.1.z.1) λJ n=>.bind (Jh h.1.1.d.1.2.1) λK j=>.bind (J9g (B:=B) (S:=S) (⟨h.1.1,j.1.z.1.2.1⟩)) λG e=>.bind (JvJ (B:=B) (S:=S) (⟨h.1.2,h.c.1,n.1.u,h.d⟩)) λI o=>.eq (λq=>?_) λq=>?_
   ·refine .bind (J99 (B:=B) (S:=S) (⟨e.1.c.1,h.2.1⟩)) λM r=>.some (⟨o.1.u,r.u⟩)
   ·refine .bind (J99 (B:=B) (S:=S) (⟨e.1.c.1,h.2.1⟩)) λC g=>.some (⟨h.1.2,g.u⟩)
  ·refine .bind (J99 (B:=B) (S:=S) (⟨h.1.1.c.1,h.2.1⟩)) λE v=>.some (⟨h.1.2,v.u⟩)
 ·refine .bind (J99 (B:=B) (S:=S) (⟨h.1.1.c.1,h.2.1⟩)) λD k=>.some (⟨h.1.2,k.u⟩)
theorem JdH{B S:Int}{x1:J4h}(h:zFt B S Jbp x1)(F:BS B S 0 0:=by omega)(I:S<=9223372036854775807:=by omega):Tot (J1x x1) λy=>zFt 0 S JB y/\(y.2.2=0->0<=y.2.1/\y.2.1<=J0 x1.1/\J0 y.1<=8392):=by
 unfold J1x;have s0:zFt 0 S Jbp x1:=h;have:=J3.1 s0.2;refine .ltf (λA=>?_) λA=>?_
 ·have:J0 x1.1<=S:=s0.1;have:=J4 (l:=x1.1);refine .gt (λc3=>?_) λc3=>?_
  ·exact .some ⟨(⟨Je,fk0,fkn 1⟩),om⟩
  ·refine .bind ((J1h (B:=0) (S:=S) (x1:=(x1.1,x1.2,4)) (⟨s0.1,s0.2,fkn 4⟩)).eqn) λe z=>.ne (λn=>?_) λn=>?_
   ·exact .some ⟨(⟨Je,fk0,fkn 5⟩),om⟩
   ·have v9:=J7o (x:=(x1.1,x1.2,4)) (⟨s0.1,s0.2,fkn 4⟩) z.2 n;have:=J3.1 z.1.1;have:1<=(4:Int)/\(4:Int)<=8/\0<=x1.2/\x1.2<=J0 x1.1/\(4:Int)<=J0 x1.1-x1.2/\((4:Int)<=4->0<=e.1/\e.1<=4294967295)/\((4:Int)=1->e.1<=255)/\((4:Int)=2->e.1<=65535):=v9.1;refine .gt (λg=>?_) λg=>?_
    ·exact .some ⟨(⟨Je,fk0,fkn 2⟩),om⟩
    ·have:=J0o (J0 x1.1) x1.2;have:=Jb e.1 8;refine .lt (λr=>?_) λr=>?_
     ·exact .some ⟨(⟨Je,fk0,fkn 5⟩),om⟩
     ·refine .bind ((J1h (B:=0) (S:=S) (x1:=(x1.1,J1 .i64 (J1 .i64 x1.2 4) e.1,4)) (⟨s0.1,J8,fkn 4⟩)).eqn) λG E=>?_;have:=Jb x1.2 4;have:=Jb (J1 .i64 x1.2 4) e.1;refine .bind (Jcy s0.1) λC k=>?_;have o:zFt 0 S .s C:=k.1;refine .bind (Jb6 o) λH D=>.ne (λv=>?_) λv=>?_
      ·exact .some ⟨(⟨Je,fk0,fkn 3⟩),om⟩
      ·refine .bind (Jcy s0.1) λq j=>?_;have w:zFt 0 S .s q:=j.1;have:=Jb x1.2 8;have:=Jb (J1 .i64 x1.2 8) e.1;have:=J4 (l:=q);exact .some ⟨(⟨w,J8,fk0⟩),om⟩
 ·have:J0 x1.1<=S:=s0.1;exact .some ⟨(⟨Je,fk0,fkn 1⟩),om⟩
theorem J9Q{B S:Int}{x1:Jvu}(h:zFt B S Jw5 x1)(p0:0<=x1.2.2.1)(r:x1.2.2.1<=J0 x1.2.1)(w:0<=x1.1)(q:x1.1<=4294967295)(o:BS B S 0 0:=by omega)(v:S<=9223372036854775807:=by omega):Tot (J1T x1) λy=>zFt 0 S (.pr .s JB) y/\(0<=y.2.2.1/\y.2.2.1<=J0 y.2.1):=by
 unfold J1T;have s0:zFt 0 S Jw5 x1:=h;have:=J3.1 s0.2.2.1;have:J0 x1.2.1<=S:=s0.2.1;have:=J4 (l:=x1.2.1);refine .ne (λk=>?_) λk=>?_
 ·exact .some ⟨(⟨Je,s0.2⟩),om⟩
 ·have:=J0o (J0 x1.2.1) x1.2.2.1;refine .gt (λj=>?_) λj=>?_
  ·exact .some ⟨(⟨Je,s0.2.1,s0.2.2.1,fkn 5⟩),om⟩
  ·have:=Jb x1.2.2.1 x1.1;have:=J0o (J1 .i64 x1.2.2.1 x1.1) x1.1;refine .bind (Jcy s0.2.1) λn g=>?_;have e:zFt 0 S .s n:=g.1;exact .some ⟨(⟨e,s0.2.1,J8,s0.2.2.2⟩),om⟩
theorem J1b{B S:Int}{x1:Jvu}(h:zFt B S Jw5 x1)(p0:0<=x1.2.2.1)(q:x1.2.2.1<=J0 x1.2.1)(o:BS B S 0 0:=by omega)(r:S<=9223372036854775807:=by omega):Tot (JE x1) λy=>zFt 0 S Jw5 y/\(0<=y.2.2.1/\y.2.2.1<=J0 y.2.1/\(x1.1<=4->0<=y.1/\y.1<=4294967295)/\(x1.1=1->y.1<=255)):=by
 unfold JE;have s0:zFt 0 S Jw5 x1:=h;have:=J3.1 s0.2.2.1;have:J0 x1.2.1<=S:=s0.2.1;refine .ne (λn=>?_) λn=>?_
 ·have:=J3.1 s0.1;exact .some ⟨(⟨fk0,s0.2⟩),om⟩
 ·refine .bind ((J1h (B:=0) (S:=S) (x1:=(x1.2.1,x1.2.2.1,x1.1)) (⟨s0.2.1,s0.2.2.1,s0.1⟩)).eqn) λg e=>.ne (λk=>?_) λk=>?_
  ·have:=J3.1 s0.1;exact .some ⟨(⟨fk0,s0.2.1,s0.2.2.1,e.1.2⟩),om⟩
  ·have j:=J7o (x:=(x1.2.1,x1.2.2.1,x1.1)) (⟨s0.2.1,s0.2.2.1,s0.1⟩) e.2 k;have:=J3.1 s0.1;have:=J3.1 e.1.1;have:1<=x1.1/\x1.1<=8/\0<=x1.2.2.1/\x1.2.2.1<=J0 x1.2.1/\x1.1<=J0 x1.2.1-x1.2.2.1/\(x1.1<=4->0<=g.1/\g.1<=4294967295)/\(x1.1=1->g.1<=255)/\(x1.1=2->g.1<=65535):=j.1;have:=Jb x1.2.2.1 x1.1;exact .some ⟨(⟨e.1.1,s0.2.1,J8,s0.2.2.2⟩),om⟩
theorem Jas{B S:Int}{x1:J0I}(h:zFt B S JB x1)(p0:0<=x1.2.1)(v:x1.2.1<=J0 x1.1)(r:BS B S 0 0:=by omega)(w:S<=9223372036854775807:=by omega):Tot (J2K x1) λy=>zFt 0 S (.pr JG JB) y/\(0<=y.2.2.1/\y.2.2.1<=J0 y.2.1):=by
 unfold J2K;refine .bind (J1b (B:=0) (S:=S) (⟨fkn 1,h.z⟩) om om) λj h4=>?_;have:=J3.1 h4.1.c.1;have:=J3.1 h4.1.1;have:0<=j.2.2.1/\j.2.2.1<=J0 j.2.1/\0<=j.1/\j.1<=255:=⟨h4.2.1,h4.c.1,(h4.d.1 (show(1:Int)<=4 by decide)).1,h4.e rfl⟩;refine .nef (λo=>?_) λo=>?_
 ·refine .eq (λn=>?_) λn=>?_
  ·exact .some ⟨(⟨⟨trivial,Je⟩,h4.1.2⟩),om⟩
  ·refine .gt (λq=>?_) λq=>?_
   ·exact .some ⟨(⟨⟨trivial,Je⟩,h4.1.2.1,h4.1.c.1,fkn 4⟩),om⟩
   ·refine .bind (J9Q (B:=0) (S:=S) (h4.1) om om om om) λk g=>?_;have:0<=k.2.2.1/\k.2.2.1<=J0 k.2.1:=g.2;exact .some ⟨(⟨⟨trivial,g.1.1⟩,g.1.2⟩),om⟩
 ·exact .some ⟨(⟨⟨trivial,Je⟩,h4.1.2⟩),om⟩
theorem JnL{B S:Int}{x1:List UInt8}(h:zFt B S .s x1)(W:BS B S 0 0:=by omega)(Y:S<=9223372036854775807:=by omega):Tot (J5c x1) λy=>zFt 0 8192 JId y:=by
 unfold J5c;have:=J4 (l:=x1);refine .bind (J1b (B:=0) (S:=S) (⟨fkn 8,h.z,fzr⟩) om om) λO h1=>?_;have:=J3.1 h1.1.c.1;refine .bind (J1b (B:=0) (S:=S) (⟨fkn 1,h1.1.2⟩) om om) λI F=>?_;have:=J3.1 F.1.c.1;refine .bind (J1b (B:=0) (S:=S) (⟨fkn 4,F.1.2⟩) om om) λN k=>?_;have:=J3.1 k.1.c.1;refine .bind (J1b (B:=0) (S:=S) (⟨fkn 8,k.1.2⟩) om om) λK q=>?_;have:=J3.1 q.1.c.1;refine .bind (J1b (B:=0) (S:=S) (⟨fkn 8,q.1.2⟩) om om) λL n=>?_;have:=J3.1 n.1.c.1;refine .bind (J1b (B:=0) (S:=S) (⟨fkn 8,n.1.2⟩) om om) λH o=>?_;have:=J3.1 o.1.c.1;refine .bind (J1b (B:=0) (S:=S) (⟨fkn 4,o.1.2⟩) om om) λJ j=>?_;have:=J3.1 j.1.c.1;refine .bind (J1b (B:=0) (S:=S) (⟨fkn 1,j.1.2⟩) om om) λM v=>?_;have:=J3.1 v.1.c.1;refine .bind (Jas v.1.2 om om) λA r=>?_;have:=J3.1 r.1.c.1;refine .bind (Jas r.1.2 om om) λE w=>?_;have:=J3.1 w.1.c.1;refine .bind (J1b (B:=0) (S:=S) (⟨fkn 4,w.1.2⟩) om om) λg e=>?_;have:=J3.1 e.1.c.1;have:=J3.1 e.1.1;have:0<=g.2.2.1/\g.2.2.1<=J0 g.2.1/\0<=g.1/\g.1<=4294967295:=⟨e.2.1,e.c.1,e.d.1 (show(4:Int)<=4 by decide)⟩;refine .bind (J9Q (B:=0) (S:=S) (e.1) om om om om) λC D=>.ne (λP=>?_) λP=>?_
 ·exact .some (⟨⟨fk0,fk0,fk0,fk0,fk0,fk0,⟨fk0,fk0,⟨trivial,Je⟩,trivial,Je⟩,Je⟩,D.1.d⟩)
 ·refine .ne (λT=>?_) λT=>?_
  ·exact .some (⟨⟨fk0,fk0,fk0,fk0,fk0,fk0,⟨fk0,fk0,⟨trivial,Je⟩,trivial,Je⟩,Je⟩,fkn 4⟩)
  ·refine .bind ((J2X (B:=0) (S:=S) (x1:=(O.1,I.1,N.1,K.1,L.1,H.1,(J.1,M.1,A.1,E.1),C.1)) (⟨h1.1.1,F.1.1,k.1.1,q.1.1,n.1.1,o.1.1,⟨j.1.1,v.1.1,r.1.1,w.1.1⟩,D.1.1⟩)).eqn) λV R=>.not (λG=>?_) λG=>?_
   ·exact .some (⟨⟨fk0,fk0,fk0,fk0,fk0,fk0,⟨fk0,fk0,⟨trivial,Je⟩,trivial,Je⟩,Je⟩,fkn 12⟩)
   ·have U:=J2s (x:=(O.1,I.1,N.1,K.1,L.1,H.1,(J.1,M.1,A.1,E.1),C.1)) (⟨h1.1.1,F.1.1,k.1.1,q.1.1,n.1.1,o.1.1,⟨j.1.1,v.1.1,r.1.1,w.1.1⟩,D.1.1⟩) R.2 G;have Q:zFt 0 8192 J6 (O.1,I.1,N.1,K.1,L.1,H.1,(J.1,M.1,A.1,E.1),C.1):=U.2;exact .some (⟨Q,fk0⟩)
theorem JsO{B S:Int}{x1:List UInt8}(h:zFt B S .s x1)(U:BS B S 0 0:=by omega)(Y:S<=9223372036854775807:=by omega):Tot (J4n x1) λy=>zFt 4096 8192 tq8 y:=by
 unfold J4n;have s0:zFt 0 S .s x1:=h;refine .bind (JdH (B:=0) (S:=S) (⟨s0,fk0⟩)) λo h1=>?_;have:=J3.1 h1.1.2.1;have:o.2.2=0->0<=o.2.1/\o.2.1<=J0 x1/\J0 o.1<=8392:=h1.2;refine .nef (λO=>?_) λO=>?_
 ·refine .nef (λG=>?_) λG=>?_
  ·refine .bind (Jcs h1.1.1) λW T=>.ite (λF=>?_) λF=>?_
   ·exact .some (⟨fzr,fkn 4⟩)
   ·refine .bind ((J1h (B:=0) (S:=S) (x1:=(o.1,4,8)) (⟨h1.1.1,fkn 4,fkn 8⟩)).eqn) λH j=>.ltf (λM=>?_) λM=>?_
    ·refine .gt (λL=>?_) λL=>?_
     ·exact .some (⟨fzr,fkn 4⟩)
     ·refine Jf (τ:=Int×(List J2)×Int) (λq=>(x1,q.1,[],0,0,q.2.1,[],H.1,q.2.2)) (λq=>zFt 0 0 zI q.1/\zFt 4096 8192 (.l J6) q.2.1/\zFt 0 0 zI q.2.2/\(J0 q.2.1<=4096)/\(0<=q.1)/\(q.1<=J0 x1)) (λq=>4096-J0 q.2.1) ?_ (o.2.1,[],JI .i64 H.1 1) rfl ?_
      ·rintro⟨Q,g,P⟩ z;dsimp only at z;obtain⟨K,e,n,z22,R,V⟩:=z;unfold Jav
       try dsimp only
       have:=J4 (l:=g);have:J0 g=_:=Jk e;refine .lt (λC=>?_) λC=>?_
       ·refine .bind (JdH (B:=0) (S:=S) (⟨s0,K⟩)) λr k=>?_;have:=J3.1 k.1.2.1;have:r.2.2=0->0<=r.2.1/\r.2.1<=J0 x1/\J0 r.1<=8392:=k.2;refine .ne (λD=>?_) λD=>?_
        ·exact .some (⟨⟨j.1.1,e,n⟩,fk0⟩)
        ·refine .bind (JnL k.1.1) λN v=>.nef (λJ=>?_) λJ=>?_
         ·have:=J3.1 v.1.1;refine .ne (λE=>?_) λE=>?_
          ·exact .some (⟨⟨j.1.1,e,n⟩,fk0⟩)
          ·refine .bind (J0u (B:=4097) (Bl:=4096) (Bm:=1) (S:=8192) (J0 g) 1 e (J0j (B:=1) (S:=8192) (t:=J6) oo v.1.u)) λw A=>?_;have:J0 w=_:=Jk A.1;have I:zFt 4096 8192 (.l J6) w:=⟨(by omega:J0 w<=4096),λx hx=>A.1.2 x hx⟩;exact .some ⟨(r.2.1,w,N.1.1),rfl,⟨k.1.2.1,I,v.1.1,om,om,om⟩,om,om⟩
         ·exact .some (⟨⟨j.1.1,e,n⟩,fk0⟩)
       ·exact .some (⟨⟨j.1.1,e,n⟩,fk0⟩)
      ·try dsimp only
       exact⟨h1.1.2.1,Jc,J2d,om,om,om⟩
    ·exact .some (⟨fzr,fkn 4⟩)
  ·exact .some (⟨fzr,fkn 4⟩)
 ·exact .some (⟨fzr,fkn 4⟩)
theorem JwG{B S:Int}{x1:JoQ}(h:zFt B S JEY x1)(j:BS B S 0 0:=by omega):Tot (Jai x1) λy=>zFt 0 0 .b y:=by
 unfold Jai;refine .ne (λg=>?_) λg=>?_
 ·exact .some trivial
 ·have:=J3.1 h.1.2.1.2;refine .ne (λe=>?_) λe=>?_
  ·exact .some trivial
  ·exact .some trivial
theorem JsX{B S:Int}{x1:JAk}(h:zFt B S (.pr (.l Ja) Ja) x1)(ac:BS B S 0 0:=by omega)(hB:B<=17179869183:=by omega):Tot (Jad x1) λy=>zFt (2*B+1) S (.l Ja) y/\(J0 y<=J0 x1.1+1):=by
 unfold Jad;have:J0 x1.1<=B:=h.1.1;have:=J4 (l:=x1.1);have:J0 x1.1=_:=Jk h.1;refine Jf (τ:=Int) (λq=>(x1.1,q,x1.2)) (λq=>(zFt 0 0 zI q/\0<=q/\(q<=J0 x1.1\/q<=0))) (λq=>J0 x1.1-q) ?_ 0 rfl ?_
 ·rintro n ⟨i4,w5,z6⟩;unfold Jf3
  try dsimp only
  have:=J3.1 i4;refine .lt (λc7=>?_) λc7=>?_
  ·refine .bind (Jh h.1) λy3 O=>.bind (JwG (B:=0) (S:=0) (⟨O.1,h.2⟩)) λy4 a5=>.ite (λM=>?_) λM=>?_
   ·have:=Jb n 1;exact .some ⟨J1 .i64 n 1,rfl,⟨J8,om,om⟩,om,om⟩
   ·refine .inr ?_;refine .lt (λa2=>?_) λa2=>?_
    ·refine .bind (Jh h.1) λy5 a6=>.ite (λE=>?_) λE=>?_
     ·have aa:=J1J.1 E;exact .some ⟨h.1.u,om⟩
     ·refine .bind (J6g h.1) λG e=>.clo e.1 oo (by decide) ?_;have:J0 G<=B:=e.1.1;have:J0 G=_:=Jk e.1;refine .bind (J0u (B:=(B+1)) (Bl:=B) (Bm:=1) (S:=S) (J0 G) 1 e.1 ((J0j (B:=1) (S:=0) (t:=Ja) oo h.2).u)) λR F=>.bind (J3G h.1) λH k=>?_;have:J0 R=_:=Jk F.1;have:J0 H<=B:=k.1.1;have:J0 H=_:=Jk k.1;refine .bind (J0u (B:=(2*B+1)) (Bl:=(B+1)) (Bm:=B) (S:=S) (J0 R) (J0 H) F.1 k.1) λK v=>?_;have:J0 K=_:=Jk v.1;exact .some ⟨v.1,om⟩
    ·refine .bind (J6g h.1) λZ A=>.clo A.1 oo (by decide) ?_;refine .bind (J0u (B:=(B+1)) (Bl:=B) (Bm:=1) (S:=S) (J0 Z) 1 A.1 ((J0j (B:=1) (S:=0) (t:=Ja) oo h.2).u)) λL a1=>.bind (J3G h.1) λW Y=>.bind (J0u (B:=(2*B+1)) (Bl:=(B+1)) (Bm:=B) (S:=S) (J0 L) (J0 W) a1.1 Y.1) λa8 V=>.some ⟨V.1,om⟩
  ·refine .inr ?_;refine .lt (λN=>?_) λN=>?_
   ·refine .bind (Jh h.1) λab a9=>.ite (λz=>?_) λz=>?_
    ·have ad:=J1J.1 z;exact .some ⟨h.1.u,om⟩
    ·refine .bind (J6g h.1) λQ C=>.clo C.1 oo (by decide) ?_;refine .bind (J0u (B:=(B+1)) (Bl:=B) (Bm:=1) (S:=S) (J0 Q) 1 C.1 ((J0j (B:=1) (S:=0) (t:=Ja) oo h.2).u)) λU a0=>.bind (J3G h.1) λT I=>.bind (J0u (B:=(2*B+1)) (Bl:=(B+1)) (Bm:=B) (S:=S) (J0 U) (J0 T) a0.1 I.1) λa7 J=>.some ⟨J.1,om⟩
   ·refine .bind (J6g h.1) λo g=>.clo g.1 oo (by decide) ?_;have:J0 o<=B:=g.1.1;have:J0 o=_:=Jk g.1;refine .bind (J0u (B:=(B+1)) (Bl:=B) (Bm:=1) (S:=S) (J0 o) 1 g.1 ((J0j (B:=1) (S:=0) (t:=Ja) oo h.2).u)) λr D=>.bind (J3G h.1) λj x=>?_;have:J0 r=_:=Jk D.1;have:=J4 (l:=j);have:J0 j=_:=Jk x.1;refine .bind (J0u (B:=(2*B+1)) (Bl:=(B+1)) (Bm:=B) (S:=S) (J0 r) (J0 j) D.1 x.1) λP w=>?_;have:J0 P=_:=Jk w.1;exact .some ⟨w.1,om⟩
 ·try dsimp only
  exact⟨fk0,oo,oo⟩
section
variable {B S:Int}
theorem Jrp{x1:JO×List Jo}(h:zFt B S (.pr JT (.l Jm)) x1)(J:BH B S:=by omega)(C:B<=20000:=by omega):Tot (J95 x1) λy=>zFt 400000001 0 (.pr (.l Ja) zI) y:=by
 obtain⟨l,e⟩:=x1;obtain⟨hl,v⟩:=h;unfold J95;dsimp only;have:J0 e<=20000:=JcL v.1 C;have E:=J4 (l:=e);refine Jf (τ:=Jwr) (λq=>(e,q.1,q.2,l)) (λq=>0<=q.2/\q.2<=J0 e/\zFt 400000001 0 (.l Ja) q.1/\J0 q.1<=20000*q.2) (λq=>J0 e-q.2) ?_ ([],0) rfl ⟨J0C _,E,Jc,by show(0:Int)<=20000*0;omega⟩;rintro⟨out,i⟩ ⟨r,h1,h2,h3⟩;dsimp only at r h1 h2 h3;unfold Jea;dsimp only;have a1:=Jb i 1;refine .lt (λc=>?_) λc=>.some ⟨h2,fk0⟩;have n:i.toNat<e.length:=by unfold J0 at c;omega
 have x:idx e i=some e[i.toNat]:=by unfold idx;rw[if_pos r,zQ9 n]
 have hx:=v.2 _ (J8L n);generalize e[i.toNat]=t at x hx;have:J0 t.2.2.2.2.1<=20000:=JcL hx.2.2.2.2.1.1 C;refine Jf (τ:=Jwr) (λq=>(e,q.1,i,q.2,l)) (λq=>0<=q.2/\q.2<=J0 t.2.2.2.2.1/\zFt 400000001 0 (.l Ja) q.1/\J0 q.1<=20000*i+q.2) (λq=>J0 t.2.2.2.2.1-q.2) ?_ (out,0) rfl ⟨J0C _,J4,h2,by show J0 out<=20000*i+0;omega⟩;rintro⟨out,k⟩ ⟨w,g1,g2,H⟩;dsimp only at w g1 g2 H;unfold Jde;dsimp only;rw[x];have a2:=Jb k 1;show Tot (if ltI k (J0 t.2.2.2.2.1)=true then _ else _) _;refine .lt (λz=>?_) λz=>.some ⟨(out,J1 .i64 i 1),rfl,⟨by show 0<=J1 .i64 i 1;omega,by show J1 .i64 i 1<=J0 e;omega,g2,by show J0 out<=20000*J1 .i64 i 1;omega⟩,by show J0 e-J1 .i64 i 1<J0 e-i;omega,oo⟩;show Tot ((idx t.2.2.2.2.1 k).bind _) _;refine .bind (Jh hx.2.2.2.2.1 w z) λF G=>.bind (J4i (x1:=(l,F)) ⟨hl,G.1⟩) λg o=>.ne (λ_=>.inr (.some ⟨Jc,fkn 14⟩)) λ_=>.nef (λ_=>?_) λ_=>.inr (.some ⟨Jc,fkn 13⟩);show Tot (if neI g.1.2.2.1 t.1=true then _ else _) _;refine .ne (λ_=>.inr (.some ⟨Jc,fkn 13⟩)) λ_=>?_;have D:zFt 0 0 Ja (g.1.2.2.1,(g.1.2.2.2.2.2.2.1.1,g.1.2.2.2.2.2.2.1.2.1),2):=⟨o.1.2.2.1,⟨o.1.2.2.2.2.2.2.1.1,o.1.2.2.2.2.2.2.1.2.1⟩,fkn 2⟩;have:=J4 (l:=out);refine .bind (JsX (B:=J0 out) (S:=0) (x1:=(out,g.1.2.2.1,(g.1.2.2.2.2.2.2.1.1,g.1.2.2.2.2.2.2.1.2.1),2)) ⟨⟨J0C _,g2.2⟩,D⟩) λj A=>?_;have I:J0 j<=J0 out+1:=A.2;exact .some ⟨(j,J1 .i64 k 1),rfl,⟨by show 0<=J1 .i64 k 1;omega,by show J1 .i64 k 1<=J0 t.2.2.2.2.1;omega,⟨by show J0 j<=400000001;omega,A.1.2⟩,by show J0 j<=20000*i+J1 .i64 k 1;omega⟩,by show J0 t.2.2.2.2.1-J1 .i64 k 1<J0 t.2.2.2.2.1-k;omega,oo⟩
end
theorem Jo6{B S:Int}{x1:List UInt8}(h:zFt B S .s x1)(N:BS B S 0 0:=by omega)(T:S<=9223372036854775807:=by omega):Tot (J44 x1) λy=>zFt 64 0 JAK y:=by
 unfold J44;have s0:zFt 0 S .s x1:=h;refine .bind ((J1h (B:=0) (S:=S) (x1:=(x1,0,2)) (⟨s0,fk0,fkn 2⟩)).eqn) λk h1=>.nef (λF=>?_) λF=>?_
 ·have v4:=J7o (x:=(x1,0,2)) (⟨s0,fk0,fkn 2⟩) h1.2 F;have:=J3.1 h1.1.1;have:1<=(2:Int)/\(2:Int)<=8/\0<=(0:Int)/\(0:Int)<=J0 x1/\(2:Int)<=J0 x1-(0:Int)/\((2:Int)<=4->0<=k.1/\k.1<=4294967295)/\((2:Int)=1->k.1<=255)/\((2:Int)=2->k.1<=65535):=v4.1;have:=JEN 24 k.1;refine .lt (λJ=>?_) λJ=>?_
  ·exact .some (⟨Jc,fkn 5⟩)
  ·refine .gt (λv=>?_) λv=>?_
   ·exact .some (⟨Jc,fkn 4⟩)
   ·refine Jf (τ:=Jeb) (λq=>(x1,k.1,q.1,[],q.2)) (λq=>(zFt 0 0 zI q.1/\0<=q.1/\(q.1<=k.1\/q.1<=0))/\(zFt 65535 0 (.l Jd) q.2/\J0 q.2<=1*q.1+0)) (λq=>k.1-q.1) ?_ (0,[]) rfl ?_
    ·rintro⟨e,g⟩ n;dsimp only at n;obtain⟨⟨D,M,L⟩,j,K⟩:=n;unfold J9q
     try dsimp only
     have:=J3.1 D;refine .lt (λI=>?_) λI=>?_
     ·refine .bind ((J1h (B:=0) (S:=S) (x1:=(x1,J1 .i64 2 (J2r .i64 24 e),8)) (⟨s0,J8,fkn 8⟩)).eqn) λR G=>.bind ((J1h (B:=0) (S:=S) (x1:=(x1,J1 .i64 10 (J2r .i64 24 e),8)) (⟨s0,J8,fkn 8⟩)).eqn) λP E=>.bind ((J1h (B:=0) (S:=S) (x1:=(x1,J1 .i64 18 (J2r .i64 24 e),8)) (⟨s0,J8,fkn 8⟩)).eqn) λQ z=>?_;have:J0 g<=65535:=j.1;have:=J4 (l:=g);have:J0 g=_:=Jk j;refine .bind (J0u (B:=65535) (Bl:=65535) (Bm:=1) (S:=0) (J0 g) 1 j (J0j (B:=1) (S:=0) (t:=Jd) oo (⟨G.1.1,E.1.1,z.1.1⟩))) λw r=>?_;have:=Jb e 1;have:J0 w=_:=Jk r.1;exact .some ⟨(J1 .i64 e 1,w),rfl,⟨⟨J8,om,om⟩,r.1,om⟩,om,om⟩
     ·refine .inr ?_;refine .bind ((J5O j).eqn) λO C=>.not (λo=>?_) λo=>?_
      ·exact .some (⟨Jc,fkn 28⟩)
      ·have A:=J4I j C.2 o;have H:zFt 64 0 (.l Jd) g:=A.2;exact .some (⟨H,fk0⟩)
    ·have:J0 ([]:List T_api_Row)=0:=rfl
     try dsimp only
     exact⟨⟨fk0,oo,oo⟩,Jc,oo⟩
 ·exact .some (⟨Jc,fkn 5⟩)
theorem J2f{B S:Int}{x1:Jup}(h:zFt B S Jvs x1)(p0:0<=x1.2.2.1)(n:x1.2.2.1<=J0 x1.2.1)(k:BS B S 0 0:=by omega)(o:S<=9223372036854775807:=by omega):Tot (J1a x1) λy=>zFt 0 S Jvs y/\(0<=y.2.2.1/\y.2.2.1<=J0 y.2.1/\(x1.1<=4->0<=y.1/\y.1<=4294967295)/\(x1.1=1->y.1<=255)/\(x1.1=2->y.1<=65535)):=by
 unfold J1a;have s0:zFt 0 S Jvs x1:=h;have:=J3.1 s0.2.2.1;have:J0 x1.2.1<=S:=s0.2.1;refine .bind ((J1h (B:=0) (S:=S) (x1:=(x1.2.1,x1.2.2.1,x1.1)) (⟨s0.2.1,s0.2.2.1,s0.1⟩)).eqn) λe h4=>.itf (λj=>?_) λj=>?_
 ·have:=J3.1 h4.1.2;refine .ne (λg=>?_) λg=>?_
  ·have:=J3.1 s0.1;exact .some ⟨(⟨fk0,s0.2.1,s0.2.2.1,trivial⟩),om⟩
  ·have v9:=J7o (x:=(x1.2.1,x1.2.2.1,x1.1)) (⟨s0.2.1,s0.2.2.1,s0.1⟩) h4.2 g;have:=J3.1 s0.1;have:=J3.1 h4.1.1;have:1<=x1.1/\x1.1<=8/\0<=x1.2.2.1/\x1.2.2.1<=J0 x1.2.1/\x1.1<=J0 x1.2.1-x1.2.2.1/\(x1.1<=4->0<=e.1/\e.1<=4294967295)/\(x1.1=1->e.1<=255)/\(x1.1=2->e.1<=65535):=v9.1;have:=Jb x1.2.2.1 x1.1;exact .some ⟨(⟨h4.1.1,s0.2.1,J8,trivial⟩),om⟩
 ·have:=J3.1 s0.1;exact .some ⟨(⟨fk0,s0.2.1,s0.2.2.1,trivial⟩),om⟩
theorem Jaq{B S:Int}{x1:Jup}(h:zFt B S Jvs x1)(p0:1<=x1.1)(O:x1.1<=2)(N:0<=x1.2.2.1)(M:x1.2.2.1<=J0 x1.2.1)(K:BS B S 0 0:=by omega)(P:S<=9223372036854775807:=by omega):Tot (J40 x1) λy=>zFt 65535 S (.pr (.l zI) J0w) y/\(0<=y.2.2.1/\y.2.2.1<=J0 y.2.1):=by
 unfold J40;have s0:zFt 0 S Jvs x1:=h;refine .bind (J2f (B:=0) (S:=S) (s0) om om) λe h5=>?_;have:=J3.1 h5.1.c.1;have:=J3.1 h5.1.1;have:0<=e.2.2.1/\e.2.2.1<=J0 e.2.1/\(x1.1<=4->0<=e.1/\e.1<=4294967295)/\(x1.1=1->e.1<=255)/\(x1.1=2->e.1<=65535):=h5.2;refine Jf (τ:=JEs) (λq=>(q.1,q.2.1,q.2.2)) (λq=>zFt 0 0 zI q.1/\zFt 0 S J0w q.2.1/\zFt 65535 0 (.l zI) q.2.2/\(J0 q.2.2+q.1<=65535)/\(0<=q.1)/\(J0 q.2.2<=65535)/\(0<=q.2.1.2.1)/\(q.2.1.2.1<=J0 q.2.1.1)) (λq=>q.1) ?_ (e.1,e.2,[]) rfl ?_
 ·rintro⟨o,E,n⟩ r;dsimp only at r;obtain⟨D,g,k,J,I,L,G,H⟩:=r;unfold J9F
  try dsimp only
  have:=J4 (l:=n);have:=J3.1 D;have:=J3.1 g.2.1;refine .gt (λz=>?_) λz=>?_
  ·refine .not (λA=>?_) λA=>?_
   ·refine .bind (J2f (B:=0) (S:=S) (⟨fkn 8,g⟩) om om) λF j=>?_;have:=J3.1 j.1.c.1;refine .bind (J0u (B:=65536) (Bl:=65535) (Bm:=1) (S:=0) (J0 n) 1 k (J0j (B:=1) (S:=0) (t:=zI) oo j.1.1)) λv C=>?_;have w:zFt 65535 0 (.l zI) v:=⟨(by omega:J0 v<=65535),λx hx=>C.1.2 x hx⟩;have:=J0o o 1;exact .some ⟨(JI .i64 o 1,F.2,v),rfl,⟨J2d,j.1.2,w,om,om,om,om,om⟩,om,om⟩
   ·exact .some ⟨(⟨k.u,g.u⟩),om⟩
  ·exact .some ⟨(⟨k.u,g.u⟩),om⟩
 ·try dsimp only
  exact⟨h5.1.1,h5.1.2,Jc,om,om,om,om,om⟩
theorem JmD{B S:Int}{x1:List UInt8}(h:zFt B S .s x1)(a3:BS B S 0 0:=by omega)(hS:S<=9223372036854775807:=by omega):Tot (J8u x1) λy=>zFt 4096 0 tq2 y:=by
 unfold J8u;have:=J4 (l:=x1);refine .bind (J2f (B:=0) (S:=S) (⟨fkn 2,h.z,fk0,trivial⟩) om om) λk h1=>?_;have:=J3.1 h1.1.c.1;have:=J3.1 h1.1.1;have:0<=k.2.2.1/\k.2.2.1<=J0 k.2.1/\0<=k.1/\k.1<=65535:=⟨h1.2.1,h1.c.1,(h1.d.1 (show(2:Int)<=4 by decide)).1,h1.g rfl⟩;refine Jf (τ:=Int×J2C×(List Jo)) (λq=>(x1,q.1,q.2.1,q.2.2)) (λq=>zFt 0 0 zI q.1/\zFt 0 S J0w q.2.1/\zFt 65535 S (.l Jm) q.2.2/\(J0 q.2.2+q.1<=65535)/\(J0 q.2.2<=65535)/\(0<=q.2.1.2.1)/\(q.2.1.2.1<=J0 q.2.1.1)/\(0<=q.1)) (λq=>q.1) ?_ (k.1,k.2,[]) rfl ?_
 ·rintro⟨r,V,e⟩ E;dsimp only at E;obtain⟨W,K,j,a1,Z,a2,a0,a5⟩:=E;unfold Jco
  try dsimp only
  have:=J4 (l:=e);have:J0 e=_:=Jk j;have:=J3.1 W;refine .gt (λN=>?_) λN=>?_
  ·refine .not (λI=>?_) λI=>?_
   ·refine .bind (J2f (B:=0) (S:=S) (⟨fkn 4,K⟩) om om) λy4 x=>?_;have:=J3.1 x.1.c.1;refine .bind (J2f (B:=0) (S:=S) (⟨fkn 1,x.1.2⟩) om om) λy5 A=>?_;have:=J3.1 A.1.c.1;refine .bind (J2f (B:=0) (S:=S) (⟨fkn 8,A.1.2⟩) om om) λy6 C=>?_;have:=J3.1 C.1.c.1;refine .bind (J2f (B:=0) (S:=S) (⟨fkn 8,C.1.2⟩) om om) λy7 v=>?_;have:=J3.1 v.1.c.1;refine .bind (Jaq (B:=0) (S:=S) (⟨fkn 2,v.1.2⟩) om om om om) λy8 w=>?_;have:=J3.1 w.1.2.z.2.1;refine .bind (Jaq (B:=0) (S:=S) (⟨fkn 1,w.1.2.z⟩) om om om om) λY D=>?_;have:=J3.1 D.1.2.z.2.1;refine .bind (J0u (B:=65535) (Bl:=65535) (Bm:=65535) (S:=S) (J0 e) 1 j (J0j (B:=65535) (S:=S) (t:=Jm) oo (⟨x.1.1,A.1.1,C.1.1,v.1.1,w.1.1,D.1.1⟩))) λn o=>?_;have:J0 n<=65535:=o.1.1;have:=J4 (l:=n);have:J0 n=_:=Jk o.1;have:=J0o r 1;exact .some ⟨(JI .i64 r 1,Y.2,n),rfl,⟨J2d,D.1.2.z,o.1,om,om,om,om,om⟩,om,om⟩
   ·refine .inr ?_;refine .ite (λR=>?_) λR=>?_
    ·exact .some (⟨Jc,fkn 5⟩)
    ·refine .ne (λM=>?_) λM=>?_
     ·exact .some (⟨Jc,fkn 4⟩)
     ·refine .bind ((J3R j).eqn) λa6 T=>.not (λF=>?_) λF=>?_
      ·exact .some (⟨Jc,fkn 15⟩)
      ·have O:=J2W j T.2 F;have Q:zFt 4096 0 (.l Jm) e:=O.2;exact .some (⟨Q,fk0⟩)
  ·refine .inr ?_;refine .ite (λP=>?_) λP=>?_
   ·exact .some (⟨Jc,fkn 5⟩)
   ·refine .ne (λJ=>?_) λJ=>?_
    ·exact .some (⟨Jc,fkn 4⟩)
    ·refine .bind ((J3R j).eqn) λa4 U=>.not (λG=>?_) λG=>?_
     ·exact .some (⟨Jc,fkn 15⟩)
     ·have L:=J2W j U.2 G;have H:zFt 4096 0 (.l Jm) e:=L.2;exact .some (⟨H,fk0⟩)
 ·try dsimp only
  exact⟨h1.1.1,h1.1.2,Jc,om,om,om,om,om⟩
theorem JoE{B S:Int}{x1:List UInt8}(h:zFt B S .s x1)(ac:BH B S:=by omega)(hS:S<=9223372036854775807:=by omega):Tot (J33 x1) λy=>zFt 4096 0 (.pr J1d zI) y:=by
 unfold J33;have s0:zFt 0 S .s x1:=h;refine .bind ((J1h (B:=0) (S:=S) (x1:=(x1,0,2)) (⟨s0,fk0,fkn 2⟩)).eqn) λy2 h1=>.bind ((J1h (B:=0) (S:=S) (x1:=(x1,2,4)) (⟨s0,fkn 2,fkn 4⟩)).eqn) λJ h2=>.bind ((J1h (B:=0) (S:=S) (x1:=(x1,6,4)) (⟨s0,fkn 6,fkn 4⟩)).eqn) λg h3=>.nef (λN=>?_) λN=>?_
 ·have v6:=J7o (x:=(x1,6,4)) (⟨s0,fkn 6,fkn 4⟩) h3.2 N;have:J0 x1<=S:=s0;have:=J3.1 h3.1.1;have:1<=(4:Int)/\(4:Int)<=8/\0<=(6:Int)/\(6:Int)<=J0 x1/\(4:Int)<=J0 x1-(6:Int)/\((4:Int)<=4->0<=g.1/\g.1<=4294967295)/\((4:Int)=1->g.1<=255)/\((4:Int)=2->g.1<=65535):=v6.1;have:=Jn6 (J0 x1) 10;refine .gt (λK=>?_) λK=>?_
  ·exact .some (⟨fzr,fkn 5⟩)
  ·have:=Jd7 10 g.1;refine .bind (Jcy s0) λM F=>?_;have L:zFt 0 S .s M:=F.1;refine .bind ((J1h (B:=0) (S:=S) (x1:=(x1,J1 .i64 10 g.1,1)) (⟨s0,J8,fkn 1⟩)).eqn) λk A=>.nef (λz=>?_) λz=>?_
   ·have v20:=J7o (x:=(x1,J1 .i64 10 g.1,1)) (⟨s0,J8,fkn 1⟩) A.2 z;have:=J3.1 A.1.1;have:1<=(1:Int)/\(1:Int)<=8/\0<=(J1 .i64 10 g.1)/\(J1 .i64 10 g.1)<=J0 x1/\(1:Int)<=J0 x1-(J1 .i64 10 g.1)/\((1:Int)<=4->0<=k.1/\k.1<=4294967295)/\((1:Int)=1->k.1<=255)/\((1:Int)=2->k.1<=65535):=v20.1;have:=Jn6 (J0 x1) (J1 .i64 10 g.1);have:=Jn6 (JI .i64 (J0 x1) (J1 .i64 10 g.1)) 1;have:=JEN 17 k.1;refine .lt (λW=>?_) λW=>?_
    ·exact .some (⟨fzr,fkn 5⟩)
    ·refine Jf (τ:=Int×Int×(List T_api_Row)) (λq=>(x1,M,q.1,k.1,q.2.1,[],0,0,[],[],q.2.2,y2.1,J.1,[],[])) (λq=>zFt 0 0 zI q.1/\zFt 0 0 zI q.2.1/\zFt 255 0 (.l Jd) q.2.2/\(0<=q.2.1)/\(q.2.1<=k.1)/\(q.1+17*(k.1-q.2.1)<=J0 x1)/\(0<=q.1)/\(J0 q.2.2<=q.2.1)) (λq=>k.1-q.2.1) ?_ (J1 .i64 (J1 .i64 10 g.1) 1,0,[]) rfl ?_
     ·rintro⟨j,r,e⟩ E;dsimp only at E;obtain⟨C,H,n,a8,ad,ab,aa,a7⟩:=E;unfold J9z
      try dsimp only
      have:=J3.1 H;have:=J3.1 C;have:J0 e<=255:=n.1;have:=J4 (l:=e);have:J0 e=_:=Jk n;refine .lt (λG=>?_) λG=>?_
      ·refine .bind ((J1h (B:=0) (S:=S) (x1:=(x1,j,1)) (⟨s0,C,fkn 1⟩)).eqn) λy8 Y=>.bind ((J1h (B:=0) (S:=S) (x1:=(x1,J1 .i64 j 1,8)) (⟨s0,J8,fkn 8⟩)).eqn) λy9 Q=>.bind ((J1h (B:=0) (S:=S) (x1:=(x1,J1 .i64 j 9,8)) (⟨s0,J8,fkn 8⟩)).eqn) λa5 U=>.bind (J0u (B:=256) (Bl:=255) (Bm:=1) (S:=0) (J0 e) 1 n (J0j (B:=1) (S:=0) (t:=Jd) oo (⟨Y.1.1,Q.1.1,U.1.1⟩))) λo D=>?_;have:J0 o=_:=Jk D.1;have a1:zFt 255 0 (.l Jd) o:=⟨(by omega:J0 o<=255),λx hx=>D.1.2 x hx⟩;have:=Jd7 r 1;have:=Jd7 j 17;exact .some ⟨(J1 .i64 j 17,J1 .i64 r 1,o),rfl,⟨J8,J8,a1,om,om,om,om,om⟩,om,om⟩
      ·refine .inr ?_;refine .bind (JmD L) λV w=>.ne (λR=>?_) λR=>?_
       ·exact .some (⟨fzr,w.2⟩)
       ·refine .bind (Jw8 s0) λI O=>?_;have P:zFt 0 S .s I:=O.1;refine .bind (Jo6 P) λT v=>.ne (λZ=>?_) λZ=>?_
        ·exact .some (⟨fzr,v.2⟩)
        ·have a0:zFt 16384 1073741824 J1d (y2.1,J.1,V.1,e,T.1):=⟨h1.1.1,h2.1.1,w.1.u,n.u,v.1.u⟩;refine .bind (JgK a0) λa9 a6=>.not (λa2=>?_) λa2=>?_
         ·exact .some (⟨fzr,fkn 24⟩)
         ·exact .some (⟨⟨h1.1.1,h2.1.1,w.1,n.u,v.1.u⟩,fk0⟩)
     ·have:=Jd7 (J1 .i64 10 g.1) 1
      try dsimp only
      exact⟨J8,fk0,Jc,om,om,om,om,om⟩
   ·exact .some (⟨fzr,fkn 5⟩)
 ·exact .some (⟨fzr,fkn 5⟩)
theorem JoM{B S:Int}{x1:JO}(h:zFt B S JT x1)(E:BG B S:=by omega):Tot (J43 x1) λy=>zFt 4096 0 (.pr J1d (.pr zI .b)) y:=by
 unfold J43;refine .bind ((J2v h).eqn) λI h1=>.not (λo=>?_) λo=>?_
 ·exact .some (⟨fzr,fk0,trivial⟩)
 ·have v3:=J26 h h1.2 o;have:=J4 (l:=x1.2.1);have:J0 x1.2.1=_:=Jk h.2.1;have h10:zFt 4096 8192 JT x1:=v3.2;have:=J0o (J0 x1.2.1) 1;refine Jf (τ:=Int) (λq=>(q,x1,0,0,[],[],[])) (λq=>(zFt 0 0 zI q/\q<=JI .i64 (J0 x1.2.1) 1)) (λq=>q-0) ?_ (JI .i64 (J0 x1.2.1) 1) rfl ?_
  ·rintro e ⟨w,D⟩;unfold J9y
   try dsimp only
   have:=J3.1 w;refine .ge (λk=>?_) λk=>?_
   ·refine .bind (Jh h10.2.1) λH C=>.ne (λj=>?_) λj=>?_
    ·have:=J0o e 1;exact .some ⟨JI .i64 e 1,rfl,⟨J2d,om⟩,om,om⟩
    ·refine .bind (Jh h10.2.1) λA n=>?_;have x:zFt 16384 1073741824 .s A.2.2.2.2.2.2.2:=n.1.z.2.2.2.2.2.2.2.u;refine .bind (JoE x) λG g=>.eq (λr=>?_) λr=>?_
     ·refine .bind (Jh h10.2.1) λF v=>.some (⟨g.1,v.1.z.1,trivial⟩)
     ·have:=J0o e 1;exact .some ⟨JI .i64 e 1,rfl,⟨J2d,om⟩,om,om⟩
   ·exact .some (⟨fzr,fk0,trivial⟩)
  ·try dsimp only
   exact⟨J2d,oo⟩
theorem JpT{B S:Int}{x1:J6t}(h:zFt B S tq8 x1)(j:BG B S:=by omega):Tot (J4y x1) λy=>zFt 4096 0 Jvw y:=by
 unfold J4y;refine .bind (JoM h.1) λn h1=>.not (λe=>?_) λe=>?_
 ·have:=J3.1 h.1.1;refine .gt (λc3=>?_) λc3=>?_
  ·exact .some (⟨fzr,fkn 24⟩)
  ·refine .bind (Jj8 h.2) λk h5=>.some (⟨⟨h.2,fkn 1,fk0,Jc,Jc,Jc,h5.1.u⟩,fk0⟩)
 ·have:=J3.1 h1.1.1;refine .ne (λg=>?_) λg=>?_
  ·exact .some (⟨fzr,fkn 24⟩)
  ·exact .some (⟨⟨h.2,h1.1.2.1,h1.2.1,h1.1.c.1,Jc,h1.1.d⟩,fk0⟩)
end Go.Am
end
section
namespace Go.Am
set_option linter.unusedVariables false
set_option maxRecDepth 20000
set_option maxHeartbeats 4000000
section
variable {B S:Int}
theorem Jdz{un:List T_api_Row}{n:J2}(h:zFt B S (.l Jd) un)(hn:zFt B S J6 n)(M:BS B S 0 0:=by omega)(Q:B<=17179869183:=by omega):Tot (Jg Jac (un,false,0,n,[])) λy=>zFt (B+1) S (.l Jd) y/\J0 y<=J0 un+1:=by
 have hl:J0 un<=B:=h.1;have G:=J4 (l:=un);refine Jf (τ:=Bool×Int×List T_api_Row) (λq=>(un,q.1,q.2.1,n,q.2.2)) (λq=>0<=q.2.1/\q.2.1<=J0 un/\zFt (B+1) S (.l Jd) q.2.2/\J0 q.2.2<=q.2.1+1/\(q.1=false->J0 q.2.2<=q.2.1)) (λq=>J0 un-q.2.1) ?_ (false,0,[]) rfl ⟨J0C _,G,Jc,by show(0:Int)<=0+1;omega,λ_=>J0C _⟩;rintro⟨done,i,out⟩ ⟨E,h1,h2,h3,h4⟩;dsimp only at E h1 h2 h3 h4;unfold Jac;dsimp only;have:=Jb i 1;have app: ∀{x:T_api_Row} {l:List T_api_Row},zFt (B+1) S (.l Jd) l->zFt (B+1) S Jd x->J0 l+1<=B+1->Tot (JA 24 l [x]) λr=>zFt (B+1) S (.l Jd) r/\J0 r=J0 l+1:=λhl hx I=>
  (J0u (B:=B+1) (Bl:=B+1) (Bm:=B+1) (S:=S) _ 1 hl (J0j oo hx) rfl rfl (J0C _) (J0C _) I oo (by decide)).mono λ_ h=>⟨h.1,h.2.1⟩
 have k:zFt (B+1) S Jd (n.2.2.2.2.2.2.1.1,n.1,n.1):=⟨hn.2.2.2.2.2.2.1.1,hn.1,hn.1⟩;have w:Tot (Jz n) λ_=>True:=(J1R hn).mono λ_ _=>trivial;have o: ∀{d:Bool} {l:List T_api_Row},i<J0 un->zFt (B+1) S (.l Jd) l->J0 l<=i+2->(d=false->J0 l<=i+1)->(∃c':Bool×Int×List T_api_Row,(un,d,J1 .i64 i 1,n,l)=(un,c'.1,c'.2.1,n,c'.2.2)/\(0<=c'.2.1/\c'.2.1<=J0 un/\zFt (B+1) S (.l Jd) c'.2.2/\J0 c'.2.2<=c'.2.1+1/\(c'.1=false->J0 c'.2.2<=c'.2.1))/\J0 un-c'.2.1<J0 un-i/\0<=J0 un-i):=fun{d l} a1 a2 a3 a4=>
  ⟨(d,J1 .i64 i 1,l),rfl,⟨by show 0<=J1 .i64 i 1;omega,by show J1 .i64 i 1<=_;omega,a2,by show J0 l<=J1 .i64 i 1+1;omega,λe=>by show J0 l<=J1 .i64 i 1;have:=a4 e;omega⟩,by show J0 un-J1 .i64 i 1<J0 un-i;omega,oo⟩
 refine .lt (λc=>?_) λc=>Tot.map (P:=λy:List T_api_Row=>zFt (B+1) S (.l Jd) y/\J0 y<=J0 un+1) ?_ λ_ h=>h
 ·have L:Tot (idx un i) λr=>zFt (B+1) S Jd r:=(Jh h E c).mono λ_ h=>h.1.u;refine .bind L λg f4=>?_
  have body: ∀{d:Bool} {l:List T_api_Row},zFt (B+1) S (.l Jd) l->J0 l<=i+1->(d=false->J0 l<=i)->Tot (ρ:=(TQ29)⊕(List T_api_Row)) (if eqI g.1 n.2.2.2.2.2.2.1.1 then
     (Jz n).bind λA=>
     if A then
      (JA 24 l [(g.1,g.2.1,n.1)]).bind λF=>
      some (.inl (un,true,J1 .i64 i 1,n,F))
     else
      if geI n.2.2.2.2.2.1 g.2.2 then
       some (.inl (un,true,J1 .i64 i 1,n,l))
      else
       if geI n.2.2.2.2.2.1 g.2.1 then
        (JA 24 l [(g.1,J1 .i64 n.2.2.2.2.2.1 1,g.2.2)]).bind λv=>
        some (.inl (un,true,J1 .i64 i 1,n,v))
       else
        (JA 24 l [g]).bind λD=>
        some (.inl (un,true,J1 .i64 i 1,n,D))
    else
     (JA 24 l [g]).bind λJ=>
     some (.inl (un,d,J1 .i64 i 1,n,J))) λr=>match r with
      | .inl z=> ∃c':Bool×Int×List T_api_Row,z=(un,c'.1,c'.2.1,n,c'.2.2)/\(0<=c'.2.1/\c'.2.1<=J0 un/\zFt (B+1) S (.l Jd) c'.2.2/\J0 c'.2.2<=c'.2.1+1/\(c'.1=false->J0 c'.2.2<=c'.2.1))/\J0 un-c'.2.1<J0 un-i/\0<=J0 un-i
      | .inr y=>zFt (B+1) S (.l Jd) y/\J0 y<=J0 un+1:=fun{d l} b1 b2 K=>
   .eq (λ_=>.bind w λA _=>.ite (λ_=>.bind (app b1 ⟨f4.1,f4.2.1,hn.1⟩ oo) λF C=>.some (o c C.1 (by have:=C.2;omega) λe=>by cases e)) λ_=>.ge (λ_=>.some (o c b1 oo λe=>by cases e)) λ_=>.ge (λ_=>.bind (app b1 ⟨f4.1,J8,f4.2.2⟩ oo) λv j=>.some (o c j.1 (by have:=j.2;omega) λe=>by cases e)) λ_=>.bind (app b1 f4 oo) λv j=>.some (o c j.1 (by have:=j.2;omega) λe=>by cases e)) λ_=>.bind (app b1 f4 oo) λv j=>.some (o c j.1 (by have:=j.2;omega) λe=>by have:=j.2;have:=K e;omega)
  refine .gt (λ_=>.not (λd=>.bind w λN _=>.ite (λ_=>.bind (app h2 k (by have:=h4 d;omega)) λO H=>?_) λ_=>?_) λd=>?_) λ_=>?_
  ·exact(body (d:=true) H.1 (by have:=H.2;have:=h4 d;omega) λe=>by cases e).mono λr h=>by cases r<;>exact h
  all_goals
   exact(body (d:=done) h2 h3 h4).mono λr h=>by cases r<;>exact h
 ·exact .not (λd=>.bind w λy _=>.ite (λ_=>.bind (app h2 k (by have:=h4 d;omega)) λy f=>.some ⟨f.1,by have:=f.2;have:=h4 d;omega⟩) λ_=>.some ⟨h2,oo⟩) λ_=>.some ⟨h2,oo⟩
theorem J5V{x1:JAv}(h:zFt B S JoF x1)(e:BS B S 0 0:=by omega)(g:B<=17179869183:=by omega):Tot (J1l x1) λy=>zFt (B+1) S (.l Jd) y/\J0 y<=J0 x1.1+1:=by unfold J1l;refine .bind (J1R h.2) λj _=>.not (λ_=>.ne (λ_=>.some ⟨h.1.u,oo⟩) λ_=>Jdz h.1 h.2) λ_=>Jdz h.1 h.2
end
theorem Ju6{B S:Int}{x1:J1t×J2}(h:zFt B S (.pr J35 J6) x1)(p0:J0 x1.1.2.2.2.2.2.1<=16000)(aj:BG B S:=by omega):Tot (J5l x1) λy=>zFt B S Jvw y/\(J0 y.1.2.2.2.2.2.1<=J0 x1.1.2.2.2.2.2.1+1):=by
 unfold J5l;have h4:zFt 16000 S (.l Jd) x1.1.2.2.2.2.2.1:=⟨(by omega:J0 x1.1.2.2.2.2.2.1<=16000),λx hx=>h.1.g.1.2 x hx⟩;refine .gt (λc5=>?_) λc5=>?_
 ·refine .bind ((J3e (B:=B) (S:=S) (x1:=(x1.1.2.2.2.1,x1.2.2.2.1)) (⟨h.1.d.1,h.2.z.2.2.1⟩)).eqn) λy2 h7=>.lt (λa3=>?_) λa3=>?_
  ·refine .bind (Jgp (B:=B) (S:=S) (⟨h.1.d.1,h.2.z.2.2.1⟩)) λy3 v=>.ne (λZ=>?_) λZ=>?_
   ·exact .some ⟨(⟨h.1,v.2⟩),om⟩
   ·have a6:zFt 16384 S JoC (y3.1,x1.2):=⟨v.1.u,h.2.z.u⟩;refine .bind (J5B a6) λy4 j=>.ne (λa1=>?_) λa1=>?_
    ·exact .some ⟨(⟨⟨h.1.1,h.1.2.1,h.1.c.1,v.1.u,h.1.e⟩,j.2⟩),om⟩
    ·refine .bind (J5i (B:=B) (S:=S) (⟨h.1.h,h.2.z.u⟩)) λy5 q=>.ne (λa0=>?_) λa0=>?_
     ·exact .some ⟨(⟨⟨h.1.1,J4q h.1.2.1 J8,h.1.c.1,j.1.u,h.1.e⟩,q.2⟩),om⟩
     ·refine .bind (J1R (B:=0) (S:=S) h.2.z) λy6 ae=>.ite (λO=>?_) λO=>?_
      ·have:=J3.1 h.2.z.2.2.2.2.2.2.1.1;refine .ge (λP=>?_) λP=>?_
       ·exact .some ⟨(⟨⟨h.1.1,J4q h.1.2.1 J8,h.1.c.1,j.1.u,h.1.e.1,h4.u,q.1.u⟩,fkn 1⟩),om⟩
       ·refine .bind (J5V (B:=16000) (S:=S) (⟨h4,h.2.z.u⟩)) λL F=>?_;have W:zFt 16001 S (.l Jd) L:=F.1.u;have:J0 L<=J0 x1.1.2.2.2.2.2.1+1:=F.2;exact .some ⟨(⟨⟨h.1.1,J4q h.1.2.1 J8,h.1.c.1,j.1.u,h.1.e.1,W.u,q.1.u⟩,fk0⟩),om⟩
      ·refine .bind (J5V (B:=16000) (S:=S) (⟨h4,h.2.z.u⟩)) λY w=>?_;have M:zFt 16001 S (.l Jd) Y:=w.1.u;have:J0 Y<=J0 x1.1.2.2.2.2.2.1+1:=w.2;exact .some ⟨(⟨⟨h.1.1,J4q h.1.2.1 J8,h.1.c.1,j.1.u,h.1.e.1,M.u,q.1.u⟩,fk0⟩),om⟩
  ·refine .bind (J5B (B:=B) (S:=S) (⟨h.1.d.1,h.2.z.u⟩)) λy9 k=>.ne (λa8=>?_) λa8=>?_
   ·exact .some ⟨(⟨h.1,k.2⟩),om⟩
   ·refine .bind (J5i (B:=B) (S:=S) (⟨h.1.h,h.2.z.u⟩)) λac r=>.ne (λa5=>?_) λa5=>?_
    ·exact .some ⟨(⟨⟨h.1.1,J4q h.1.2.1 J8,h.1.c.1,k.1.u,h.1.e⟩,r.2⟩),om⟩
    ·refine .bind (J1R (B:=0) (S:=S) h.2.z) λai ah=>.ite (λa4=>?_) λa4=>?_
     ·have:=J3.1 h.2.z.2.2.2.2.2.2.1.1;refine .ge (λK=>?_) λK=>?_
      ·exact .some ⟨(⟨⟨h.1.1,J4q h.1.2.1 J8,h.1.c.1,k.1.u,h.1.e.1,h4.u,r.1.u⟩,fkn 1⟩),om⟩
      ·refine .bind (J5V (B:=16000) (S:=S) (⟨h4,h.2.z.u⟩)) λG J=>?_;have a2:zFt 16001 S (.l Jd) G:=J.1.u;have:J0 G<=J0 x1.1.2.2.2.2.2.1+1:=J.2;exact .some ⟨(⟨⟨h.1.1,J4q h.1.2.1 J8,h.1.c.1,k.1.u,h.1.e.1,a2.u,r.1.u⟩,fk0⟩),om⟩
     ·refine .bind (J5V (B:=16000) (S:=S) (⟨h4,h.2.z.u⟩)) λC H=>?_;have R:zFt 16001 S (.l Jd) C:=H.1.u;have:J0 C<=J0 x1.1.2.2.2.2.2.1+1:=H.2;exact .some ⟨(⟨⟨h.1.1,J4q h.1.2.1 J8,h.1.c.1,k.1.u,h.1.e.1,R.u,r.1.u⟩,fk0⟩),om⟩
 ·refine .bind (J5B (B:=B) (S:=S) (⟨h.1.d.1,h.2.z.u⟩)) λaf n=>.ne (λU=>?_) λU=>?_
  ·exact .some ⟨(⟨h.1,n.2⟩),om⟩
  ·refine .bind (J5i (B:=B) (S:=S) (⟨h.1.h,h.2.z.u⟩)) λad o=>.ne (λT=>?_) λT=>?_
   ·exact .some ⟨(⟨⟨h.1.1,J4q h.1.2.1 J8,h.1.c.1,n.1.u,h.1.e⟩,o.2⟩),om⟩
   ·refine .bind (J1R (B:=0) (S:=S) h.2.z) λag ab=>.ite (λV=>?_) λV=>?_
    ·have:=J3.1 h.2.z.2.2.2.2.2.2.1.1;refine .ge (λQ=>?_) λQ=>?_
     ·exact .some ⟨(⟨⟨h.1.1,J4q h.1.2.1 J8,h.1.c.1,n.1.u,h.1.e.1,h4.u,o.1.u⟩,fkn 1⟩),om⟩
     ·refine .bind (J5V (B:=16000) (S:=S) (⟨h4,h.2.z.u⟩)) λD A=>?_;have N:zFt 16001 S (.l Jd) D:=A.1.u;have:J0 D<=J0 x1.1.2.2.2.2.2.1+1:=A.2;exact .some ⟨(⟨⟨h.1.1,J4q h.1.2.1 J8,h.1.c.1,n.1.u,h.1.e.1,N.u,o.1.u⟩,fk0⟩),om⟩
    ·refine .bind (J5V (B:=16000) (S:=S) (⟨h4,h.2.z.u⟩)) λE I=>?_;have a7:zFt 16001 S (.l Jd) E:=I.1.u;have:J0 E<=J0 x1.1.2.2.2.2.2.1+1:=I.2;exact .some ⟨(⟨⟨h.1.1,J4q h.1.2.1 J8,h.1.c.1,n.1.u,h.1.e.1,a7.u,o.1.u⟩,fk0⟩),om⟩
theorem Jl1{B S:Int}{x1:J6t}(h:zFt B S tq8 x1)(a9:BG B S:=by omega):Tot (J3D x1) λy=>zFt 400000001 1073741824 Jvw y:=by
 unfold J3D;refine .bind ((J2v h.1).eqn) λy2 h1=>.not (λO=>?_) λO=>?_
 ·exact .some (⟨fzr,fkn 26⟩)
 ·have v3:=J26 h.1 h1.2 O;have:=J4 (l:=x1.1.2.1);have:J0 x1.1.2.1=_:=Jk h.1.2.1;have h10:zFt 4096 8192 JT x1.1:=v3.2;refine .ltf (λM=>?_) λM=>?_
  ·refine .gt (λR=>?_) λR=>?_
   ·exact .some (⟨fzr,fkn 1⟩)
   ·have N:zFt 16384 1073741824 tq8 (x1.1,x1.2):=⟨h10.u,h.2⟩;refine .bind (JpT N) λC A=>.ne (λZ=>?_) λZ=>?_
    ·exact .some (⟨fzr,A.2⟩)
    ·refine Jf (τ:=Int×J1t) (λq=>(q.1,x1.1,(0,0,0,[],[],[],[]),q.2)) (λq=>zFt 0 0 zI q.1/\zFt 16384 1073741824 J35 q.2/\(0<=q.1)/\(q.1<=J0 x1.1.2.1)/\(J0 q.2.2.2.2.2.2.1<=4096+q.1)) (λq=>J0 x1.1.2.1-q.1) ?_ (0,C.1) rfl ?_
     ·rintro⟨r,e⟩ G;dsimp only at G;obtain⟨U,j,z20,a5,z22⟩:=G;unfold J8N
      try dsimp only
      have:=J3.1 U;have:J0 e.2.2.2.2.2.1<=16384:=j.2.2.2.2.2.1.1;have:=J4 (l:=e.2.2.2.2.2.1);have:J0 e.2.2.2.2.2.1=_:=Jk j.2.2.2.2.2.1;refine .lt (λT=>?_) λT=>?_
      ·refine .bind (Jh h10.2.1) λy5 a2=>.le (λJ=>?_) λJ=>?_
       ·have a3:zFt 8192 1073741824 (.l Jd) e.2.2.2.2.2.1:=⟨(by omega:J0 e.2.2.2.2.2.1<=8192),λx hx=>j.2.2.2.2.2.1.2 x hx⟩;have:=Jb r 1;exact .some ⟨(J1 .i64 r 1,e),rfl,⟨J8,j,om,om,om⟩,om,om⟩
       ·refine .bind (Jh h10.2.1) λy6 W=>.bind (Ju6 (B:=16384) (S:=1073741824) (⟨j,W.1.z.u⟩) om) λw D=>?_;have v:zFt 16384 1073741824 Jvw w:=D.1.u;have:J0 w.1.2.2.2.2.2.1<=16384:=v.1.g.1.1;have:=J4 (l:=w.1.2.2.2.2.2.1);have:J0 w.1.2.2.2.2.2.1=_:=Jk v.1.g.1;have:J0 w.1.2.2.2.2.2.1<=J0 e.2.2.2.2.2.1+1:=D.2;refine .ne (λQ=>?_) λQ=>?_
        ·exact .some (⟨fzr,v.2⟩)
        ·have a6:zFt 8192 1073741824 (.l Jd) w.1.2.2.2.2.2.1:=⟨(by omega:J0 w.1.2.2.2.2.2.1<=8192),λx hx=>v.1.g.1.2 x hx⟩;have:=Jb r 1;exact .some ⟨(J1 .i64 r 1,w.1),rfl,⟨J8,v.1,om,om,om⟩,om,om⟩
      ·refine .inr ?_;have:J0 e.2.2.2.1<=16384:=j.2.2.2.1.1;have:=J4 (l:=e.2.2.2.1);have:J0 e.2.2.2.1=_:=Jk j.2.2.2.1;refine Jf (τ:=Int×(List Jo)) (λq=>(q.1,x1.1,(0,0,0,[],[],[],[]),e,q.2)) (λq=>(zFt 0 0 zI q.1/\0<=q.1/\(q.1<=J0 e.2.2.2.1\/q.1<=0))/\(zFt 16384 1073741824 (.l Jm) q.2/\J0 q.2<=1*q.1+0)) (λq=>J0 e.2.2.2.1-q.1) ?_ (0,[]) rfl ?_
       ·rintro⟨o,k⟩ F;dsimp only at F;obtain⟨⟨Y,a0,a4⟩,n,aa⟩:=F;unfold J8O
        try dsimp only
        have:=J3.1 Y;refine .lt (λP=>?_) λP=>?_
        ·refine .bind (Jh j.2.2.2.1) λy9 a8=>.gt (λV=>?_) λV=>?_
         ·refine .bind (Jh j.2.2.2.1) λa1 L=>?_;have:J0 k<=16384:=n.1;have:=J4 (l:=k);have:J0 k=_:=Jk n;refine .bind (J0u (B:=16384) (Bl:=16384) (Bm:=16384) (S:=1073741824) (J0 k) 1 n (J0j (B:=16384) (S:=1073741824) (t:=Jm) oo L.1)) λI H=>?_;have:=Jb o 1;have:J0 I=_:=Jk H.1;exact .some ⟨(J1 .i64 o 1,I),rfl,⟨⟨J8,om,om⟩,H.1,om⟩,om,om⟩
         ·have:=Jb o 1;have:J0 k=_:=Jk n;exact .some ⟨(J1 .i64 o 1,k),rfl,⟨⟨J8,om,om⟩,n,om⟩,om,om⟩
        ·refine .inr ?_;refine .bind (Jrp (B:=16384) (S:=1073741824) (⟨h10.u,n⟩)) λa7 E=>.ne (λK=>?_) λK=>?_
         ·exact .some (⟨fzr,E.2⟩)
         ·exact .some (⟨⟨j.1,j.2.1,j.2.2.1,n.u,E.1.u,j.2.2.2.2.2.u⟩,fk0⟩)
       ·have:J0 ([]:List Jo)=0:=rfl
        try dsimp only
        exact⟨⟨fk0,oo,oo⟩,Jc,oo⟩
     ·have:J0 C.1.2.2.2.2.2.1<=4096:=A.1.g.1.1;have:=J4 (l:=C.1.2.2.2.2.2.1);have:J0 C.1.2.2.2.2.2.1=_:=Jk A.1.g.1
      try dsimp only
      exact⟨fk0,A.1.u,om,om,om⟩
  ·exact .some (⟨fzr,fkn 1⟩)
theorem Jqb{B S:Int}{x1:JO×J1t×Int}(h:zFt B S (.pr JT Jvw) x1)(N:BG B S:=by omega):Tot (J4H x1) λy=>zFt 16384 1073741824 tq1 y:=by
 unfold J4H;refine .bind (Jjd h.c) λv h1=>.ne (λJ=>?_) λJ=>?_
 ·exact .some (⟨fzr,fkn 1⟩)
 ·refine .bind ((J1m (B:=B) (S:=S) (x1:=(x1.2.1.1,x1.2.1.2.1,x1.1,v.1,(x1.2.1.2.2.2.2.1,[]),x1.2.1.2.2.2.1,x1.2.1.2.2.2.2.2.2,x1.2.1.2.2.2.2.2.1)) (⟨h.2.1.1,h.2.1.2.1,h.1,h1.1.u,⟨h.2.1.e.1,Jc⟩,h.2.1.d.1,h.2.1.h,h.2.1.g.1⟩)).eqn) λP h4=>.not (λG=>?_) λG=>?_
  ·exact .some (⟨fzr,fkn 15⟩)
  ·have I:=J1w (x:=(x1.2.1.1,x1.2.1.2.1,x1.1,v.1,(x1.2.1.2.2.2.2.1,[]),x1.2.1.2.2.2.1,x1.2.1.2.2.2.2.2.2,x1.2.1.2.2.2.2.2.1)) (⟨h.2.1.1,h.2.1.2.1,h.1,h1.1.u,⟨h.2.1.e.1,Jc⟩,h.2.1.d.1,h.2.1.h,h.2.1.g.1⟩) h4.2 G;have j:zFt 4096 8192 J9 (x1.2.1.1,x1.2.1.2.1,x1.1,v.1,(x1.2.1.2.2.2.2.1,[]),x1.2.1.2.2.2.1,x1.2.1.2.2.2.2.2.2,x1.2.1.2.2.2.2.2.1):=I.2;have:J0 x1.2.1.2.2.2.1<=4096:=j.g.1.1;have:=J4 (l:=x1.2.1.2.2.2.1);have:J0 x1.2.1.2.2.2.1=_:=Jk j.g.1;refine Jf (τ:=Jb0) (λq=>(q.1,x1.1,x1.2.1,(0,0,(0,[],0),(0,[],0),([],[]),[],[],[]),v.1,q.2)) (λq=>(zFt 0 0 zI q.1/\0<=q.1/\(q.1<=J0 x1.2.1.2.2.2.1\/q.1<=0))/\zFt 16384 1073741824 J9 q.2) (λq=>J0 x1.2.1.2.2.2.1-q.1) ?_ (0,(x1.2.1.1,x1.2.1.2.1,x1.1,v.1,(x1.2.1.2.2.2.2.1,[]),x1.2.1.2.2.2.1,x1.2.1.2.2.2.2.2.2,x1.2.1.2.2.2.2.2.1)) rfl ?_
   ·rintro⟨k,o⟩ z;dsimp only at z;obtain⟨⟨F,L,O⟩,n⟩:=z;unfold Jak
    try dsimp only
    have:=J3.1 F;refine .lt (λD=>?_) λD=>?_
    ·refine .bind (Jh j.g.1) λQ M=>.eq (λH=>?_) λH=>?_
     ·have:=Jb k 1;exact .some ⟨(J1 .i64 k 1,o),rfl,⟨⟨J8,om,om⟩,n⟩,om,om⟩
     ·refine .bind (Jh j.g.1) λE w=>.bind ((J56 (B:=16384) (S:=1073741824) (x1:=(o,0,4,E.1,0,0,0,(0,0,(false,[]),false,[]),[])) (⟨n,fk0,fkn 4,w.1.1,fk0,fk0,fk0,⟨fk0,fk0,⟨trivial,Je⟩,trivial,Je⟩,Je⟩)).eqn) λC r=>.ne (λA=>?_) λA=>?_
      ·exact .some (⟨fzr,r.1.1.c⟩)
      ·have K:Has C.1.2.2.2.2.2.1 E.1:=Jj5 (⟨n,fk0,fkn 4,w.1.1,fk0,fk0,fk0,⟨fk0,fk0,⟨trivial,Je⟩,trivial,Je⟩,Je⟩) r.2 A;have:=Jb k 1;exact .some ⟨(J1 .i64 k 1,C.1),rfl,⟨⟨J8,om,om⟩,r.1.1.1⟩,om,om⟩
    ·exact .some (⟨n,fk0⟩)
   ·try dsimp only
    exact⟨⟨fk0,oo,oo⟩,j.1,j.2.1,j.c.1.u,j.d.1.u,⟨j.e.1.1.u,Jc⟩,j.g.u⟩
theorem Jw1{B S:Int}{x1:JAt}(h:zFt B S (.pr JV JB) x1)(o:BH B S:=by omega)(r:S<=9223372036854775807:=by omega):Tot (J4k x1) λy=>zFt B S tq3 y:=by
 unfold J4k;refine .bind (JsO (B:=0) (S:=S) h.2.z.1) λn h1=>.ne (λg=>?_) λg=>?_
 ·exact .some (⟨⟨fzr,Jc,fk0,Jc,trivial,Jc⟩,h1.2⟩)
 ·have h5:zFt 16384 1073741824 tq8 (n.1,x1.2.2.1):=⟨h1.1.u,h.2.z.2.1⟩;refine .bind (Jl1 h5) λq h4=>.ne (λk=>?_) λk=>?_
  ·exact .some (⟨⟨fzr,Jc,fk0,Jc,trivial,Jc⟩,h4.2⟩)
  ·refine .bind (Jqb (B:=400000001) (S:=1073741824) (⟨h1.1.u,h4.1,h.2.z.2.2⟩)) λv e=>.ne (λj=>?_) λj=>?_
   ·exact .some (⟨⟨fzr,Jc,fk0,Jc,trivial,Jc⟩,e.2⟩)
   ·exact .some (⟨⟨e.1.u,h.1⟩,fk0⟩)
theorem JwF{B S:Int}{x1:JAt}(h:zFt B S (.pr JV JB) x1)(e:BH B S:=by omega)(g:S<=9223372036854775807:=by omega):Tot (J7P x1) λy=>zFt B S tq3 y:=by unfold J7P;refine .bind (Jw1 (B:=B) (S:=S) (⟨h.1,h.2.z.1.u,h.2.z.2.1,h.2.z.2.2⟩)) λj h1=>.some (h1)
theorem Jev{B S:Int}{x1:TQ4}(h:zFt B S (.pr J0X tq0) x1)(p0:J0 x1.2.2.2.2.2.2.2.2.2.2.2.2.2.2.2.2.2.2.2.2.1<=16000)(U:J0 x1.2.2.2.2.2.2.2.2.2.2.2.2.2.2.2.2.2.2.2.2.2<=16000)(P:BG B S:=by omega)(V:S<=9223372036854775807:=by omega):Tot (J1Z x1) λy=>zFt B S JAe y/\(J0 y.2.2.2.2.2.2.2.2.2.2.2.2.2.2.2.2.2.2.2.2.1<=J0 x1.2.2.2.2.2.2.2.2.2.2.2.2.2.2.2.2.2.2.2.2.1+1/\J0 y.2.2.2.2.2.2.2.2.2.2.2.2.2.2.2.2.2.2.2.2.2<=J0 x1.2.2.2.2.2.2.2.2.2.2.2.2.2.2.2.2.2.2.2.2.2+1):=by
 unfold J1Z;have:=J4 (l:=x1.2.2.2.2.2.2.2.2.2.2.2.2.2.2.2.2.2.2.2.2.1);have J:zFt 16000 S (.l zI) x1.2.2.2.2.2.2.2.2.2.2.2.2.2.2.2.2.2.2.2.2.1:=⟨(by omega:J0 x1.2.2.2.2.2.2.2.2.2.2.2.2.2.2.2.2.2.2.2.2.1<=16000),λx hx=>h.k.k.c.1.2 x hx⟩;have G:zFt 16000 S (.l J0B) x1.2.2.2.2.2.2.2.2.2.2.2.2.2.2.2.2.2.2.2.2.2:=⟨(by omega:J0 x1.2.2.2.2.2.2.2.2.2.2.2.2.2.2.2.2.2.2.2.2.2<=16000),λx hx=>h.k.k.e x hx⟩;refine .bind (Jr7 (B:=B) (S:=S) (⟨⟨⟨h.2.1,h.c.1,⟨h.d.1,h.e.1,h.g.1⟩,⟨h.h.1,h.i.1,h.j.1⟩,⟨h.k.1,h.k.2.1⟩,h.k.c.1,h.k.d.1,h.k.e.1⟩,h.k.g.1,h.k.h.1,h.k.i.1,trivial,h.k.k.1⟩,h.1.z.2.2.2.1,h.1.z.2.2.1,h.1.z.2.2.2.2.1⟩)) λK I=>.bind (JwF (B:=B) (S:=S) (⟨I.1,I.2.z.u,h.2.1,h.h.1⟩)) λD n=>Jf (τ:=JsD) (λq=>(D.2,q.1,x1.2.1,x1.2.2.1,x1.2.2.2.1,x1.2.2.2.2.1,x1.2.2.2.2.2.1,x1.2.2.2.2.2.2.1,x1.2.2.2.2.2.2.2.1,x1.2.2.2.2.2.2.2.2.1,x1.2.2.2.2.2.2.2.2.2.1,x1.2.2.2.2.2.2.2.2.2.2.1,x1.2.2.2.2.2.2.2.2.2.2.2.1,x1.2.2.2.2.2.2.2.2.2.2.2.2.1,x1.2.2.2.2.2.2.2.2.2.2.2.2.2.1,x1.2.2.2.2.2.2.2.2.2.2.2.2.2.2.1,x1.2.2.2.2.2.2.2.2.2.2.2.2.2.2.2.1,x1.2.2.2.2.2.2.2.2.2.2.2.2.2.2.2.2.1,x1.2.2.2.2.2.2.2.2.2.2.2.2.2.2.2.2.2.1,x1.2.2.2.2.2.2.2.2.2.2.2.2.2.2.2.2.2.2.1,x1.2.2.2.2.2.2.2.2.2.2.2.2.2.2.2.2.2.2.2.1,q.2,x1.2.2.2.2.2.2.2.2.2.2.2.2.2.2.2.2.2.2.2.2.2,x1.1,(0,0,0,(false,[]),0),K.1,D.1)) (λq=>zFt 0 0 zI q.1/\zFt 16000 S (.l zI) q.2/\(0<=q.1)/\(q.1<=J0 q.2)/\(J0 q.2=J0 x1.2.2.2.2.2.2.2.2.2.2.2.2.2.2.2.2.2.2.2.2.1)) (λq=>J0 q.2-q.1) ?_ (0,x1.2.2.2.2.2.2.2.2.2.2.2.2.2.2.2.2.2.2.2.2.1) rfl ?_
 ·rintro⟨o,r⟩ w;dsimp only at w;obtain⟨H,v,N,L,O⟩:=w;unfold J5r
  try dsimp only
  have:=J3.1 H;refine .lt (λC=>?_) λC=>?_
  ·refine .bind (J6d (l:=r)) λ_ _=>.bind (JbP v) λT M=>?_;have:=Jb o 1;have:J0 (J0z r (Int.toNat o) 0)<=16000:=(J4x (t:=zI) (i:=Int.toNat o) (x:=0) v fk0).1;have:=J4 (l:=J0z r (Int.toNat o) 0);have:J0 (J0z r (Int.toNat o) 0)=J0 r:=J6r;exact .some ⟨(J1 .i64 o 1,J0z r (Int.toNat o) 0),rfl,⟨J8,J4x (t:=zI) (i:=Int.toNat o) (x:=0) v fk0,om,om,om⟩,om,om⟩
  ·refine .inr ?_;refine .ne (λA=>?_) λA=>?_
   ·refine .bind (J5h n.2) λQ E=>.some ⟨(⟨E.u,h.2.1,h.c.1,h.d.1,h.e.1,h.g.1,h.h.1,h.i.1,h.j.1,h.k.1,h.k.2.1,h.k.c.1,h.k.d.1,h.k.e.1,h.k.g.1,h.k.h.1,h.k.i.1,trivial,h.k.k.1,trivial,v.u,G.u⟩),om⟩
   ·refine .bind (J5h (B:=0) (S:=0) fk0) λR F=>.some ⟨(⟨F.u,n.1.1.1,n.1.1.2.1,n.1.1.c.1.1,n.1.1.c.1.2.1,n.1.1.c.1.c,n.1.1.d.1.1,n.1.1.d.1.2.1,n.1.1.d.1.c,n.1.1.e.1.1,n.1.1.e.1.2,n.1.1.g.1,n.1.1.h.1,n.1.1.i,n.1.2.1,n.1.c.1,n.1.d.1,trivial,n.1.g,trivial,v.u,G.u⟩),om⟩
 ·try dsimp only
  exact⟨fk0,J,om,om,om⟩
theorem J3y{B S:Int}{x1:TQ2}(h:zFt B S (.pr Jl (.pr zI tq0)) x1)(q:BH B S:=by omega):Tot (J0R x1) λy=>zFt B S JAe y/\(J0 y.2.2.2.2.2.2.2.2.2.2.2.2.2.2.2.2.2.2.2.2.1=J0 x1.2.2.2.2.2.2.2.2.2.2.2.2.2.2.2.2.2.2.2.2.2.1/\J0 y.2.2.2.2.2.2.2.2.2.2.2.2.2.2.2.2.2.2.2.2.2=J0 x1.2.2.2.2.2.2.2.2.2.2.2.2.2.2.2.2.2.2.2.2.2.2):=by
 unfold J0R;refine .eq (λo=>?_) λo=>?_
 ·refine .bind (J5h h.2.1) λv h3=>.some ⟨(⟨h3.u,h.1.1.1,h.1.1.2.1,h.1.1.c.1.1,h.1.1.c.1.2.1,h.1.1.c.1.c,h.1.1.d.1.1,h.1.1.d.1.2.1,h.1.1.d.1.c,h.1.1.e.1.1,h.1.1.e.1.2,h.1.1.g.1,h.1.1.h.1,h.1.1.i,h.1.2.1,h.1.c.1,h.1.d.1,trivial,h.1.g,trivial,h.k.k.d⟩),om⟩
 ·refine .bind (J5h h.2.1) λr n=>.some ⟨(⟨n.u,h.c.1,h.d.1,h.e.1,h.g.1,h.h.1,h.i.1,h.j.1,h.k.1,h.k.2.1,h.k.c.1,h.k.d.1,h.k.e.1,h.k.g.1,h.k.h.1,h.k.i.1,h.k.j.1,trivial,h.k.k.2.1,trivial,h.k.k.d⟩),om⟩
theorem JeZ{B S:Int}{x1:TQ4}(h:zFt B S (.pr J0X tq0) x1)(p0:J0 x1.2.2.2.2.2.2.2.2.2.2.2.2.2.2.2.2.2.2.2.2.1<=16000)(p1:J0 x1.2.2.2.2.2.2.2.2.2.2.2.2.2.2.2.2.2.2.2.2.2<=16000)(ac:BH B S:=by omega)(hB:B<=1000000:=by omega)(hS:S<=1000000000000:=by omega):Tot (J2c x1) λy=>zFt B S JAe y/\(J0 y.2.2.2.2.2.2.2.2.2.2.2.2.2.2.2.2.2.2.2.2.1<=J0 x1.2.2.2.2.2.2.2.2.2.2.2.2.2.2.2.2.2.2.2.2.1+1/\J0 y.2.2.2.2.2.2.2.2.2.2.2.2.2.2.2.2.2.2.2.2.2<=J0 x1.2.2.2.2.2.2.2.2.2.2.2.2.2.2.2.2.2.2.2.2.2+1):=by
 unfold J2c;have:=J4 (l:=x1.2.2.2.2.2.2.2.2.2.2.2.2.2.2.2.2.2.2.2.2.1);have:J0 x1.2.2.2.2.2.2.2.2.2.2.2.2.2.2.2.2.2.2.2.2.2=_:=Jk h.k.k.d;have D:zFt 16000 S (.l zI) x1.2.2.2.2.2.2.2.2.2.2.2.2.2.2.2.2.2.2.2.2.1:=⟨(by omega:J0 x1.2.2.2.2.2.2.2.2.2.2.2.2.2.2.2.2.2.2.2.2.1<=16000),λx hx=>h.k.k.c.1.2 x hx⟩;have C:zFt 16000 S (.l J0B) x1.2.2.2.2.2.2.2.2.2.2.2.2.2.2.2.2.2.2.2.2.2:=⟨(by omega:J0 x1.2.2.2.2.2.2.2.2.2.2.2.2.2.2.2.2.2.2.2.2.2<=16000),λx hx=>h.k.k.e x hx⟩;refine .eq (λc8=>?_) λc8=>?_
 ·refine .bind (JqW (B:=B) (S:=S) (⟨⟨h.2.1,h.c.1,⟨h.d.1,h.e.1,h.g.1⟩,⟨h.h.1,h.i.1,h.j.1⟩,⟨h.k.1,h.k.2.1⟩,h.k.c.1,h.k.d.1,h.k.e.1⟩,h.k.g.1,h.k.h.1,h.k.i.1,trivial,h.k.k.1⟩)) λy2 h10=>.eq (λT=>?_) λT=>?_
  ·refine .bind (J0u (B:=16001) (Bl:=16000) (Bm:=1) (S:=S) (J0 x1.2.2.2.2.2.2.2.2.2.2.2.2.2.2.2.2.2.2.2.2.1) 1 D ((J0j (B:=1) (S:=0) (t:=zI) oo h10.2.1).u)) λy3 O=>.bind (J3y (B:=B) (S:=S) (⟨h10.1,h10.c,h.2.1,h.c.1,h.d.1,h.e.1,h.g.1,h.h.1,h.i.1,h.j.1,h.k.1,h.k.2.1,h.k.c.1,h.k.d.1,h.k.e.1,h.k.g.1,h.k.h.1,h.k.i.1,trivial,h.k.k.1,trivial,O.1.u,C.u⟩)) λN n=>?_;have:J0 N.2.2.2.2.2.2.2.2.2.2.2.2.2.2.2.2.2.2.2.2.2=_:=Jk n.1.k.k.d;have:J0 N.2.2.2.2.2.2.2.2.2.2.2.2.2.2.2.2.2.2.2.2.1=J0 y3/\J0 N.2.2.2.2.2.2.2.2.2.2.2.2.2.2.2.2.2.2.2.2.2=J0 x1.2.2.2.2.2.2.2.2.2.2.2.2.2.2.2.2.2.2.2.2.2:=n.2;exact .some ⟨(⟨⟨n.1.1.z.1,h10.2.1,n.1.1.z.2.2.u⟩,n.1.2.1,n.1.c.1,n.1.d.1,n.1.e.1,n.1.g.1,n.1.h.1,n.1.i.1,n.1.j.1,n.1.k.1,n.1.k.2.1,n.1.k.c.1,n.1.k.d.1,n.1.k.e.1,n.1.k.g.1,n.1.k.h.1,n.1.k.i.1,trivial,n.1.k.k.1,trivial,n.1.k.k.c⟩),om⟩
  ·refine .bind (J3y (B:=B) (S:=S) (⟨h10.1,h10.c,h.2.1,h.c.1,h.d.1,h.e.1,h.g.1,h.h.1,h.i.1,h.j.1,h.k.1,h.k.2.1,h.k.c.1,h.k.d.1,h.k.e.1,h.k.g.1,h.k.h.1,h.k.i.1,trivial,h.k.k.1,trivial,D.u,C.u⟩)) λM o=>?_;have:J0 M.2.2.2.2.2.2.2.2.2.2.2.2.2.2.2.2.2.2.2.2.2=_:=Jk o.1.k.k.d;have:J0 M.2.2.2.2.2.2.2.2.2.2.2.2.2.2.2.2.2.2.2.2.1=J0 x1.2.2.2.2.2.2.2.2.2.2.2.2.2.2.2.2.2.2.2.2.1/\J0 M.2.2.2.2.2.2.2.2.2.2.2.2.2.2.2.2.2.2.2.2.2=J0 x1.2.2.2.2.2.2.2.2.2.2.2.2.2.2.2.2.2.2.2.2.2:=o.2;exact .some ⟨(⟨⟨o.1.1.z.1,h10.2.1,o.1.1.z.2.2.u⟩,o.1.2.1,o.1.c.1,o.1.d.1,o.1.e.1,o.1.g.1,o.1.h.1,o.1.i.1,o.1.j.1,o.1.k.1,o.1.k.2.1,o.1.k.c.1,o.1.k.d.1,o.1.k.e.1,o.1.k.g.1,o.1.k.h.1,o.1.k.i.1,trivial,o.1.k.k.1,trivial,o.1.k.k.c⟩),om⟩
 ·refine .eq (λQ=>?_) λQ=>?_
  ·refine .bind (JfU (B:=B) (S:=S) (⟨h.1.z.u,h.2.1,h.c.1,h.d.1,h.e.1,h.g.1,h.h.1,h.i.1,h.j.1,h.k.1,h.k.2.1,h.k.c.1,h.k.d.1,h.k.e.1,h.k.g.1,h.k.h.1,h.k.i.1,trivial,h.k.k.1,trivial,D.u,C.u⟩) om om) λW w=>?_;have:J0 W.2.2.2.2.2.2.2.2.2.2.2.2.2.2.2.2.2.2.2.2.1<=J0 x1.2.2.2.2.2.2.2.2.2.2.2.2.2.2.2.2.2.2.2.2.1+1/\J0 W.2.2.2.2.2.2.2.2.2.2.2.2.2.2.2.2.2.2.2.2.2<=J0 x1.2.2.2.2.2.2.2.2.2.2.2.2.2.2.2.2.2.2.2.2.2+1:=w.2;exact .some ⟨(⟨w.1.1.z.u,w.1.2.1,w.1.c.1,w.1.d.1,w.1.e.1,w.1.g.1,w.1.h.1,w.1.i.1,w.1.j.1,w.1.k.1,w.1.k.2.1,w.1.k.c.1,w.1.k.d.1,w.1.k.e.1,w.1.k.g.1,w.1.k.h.1,w.1.k.i.1,trivial,w.1.k.k.1,trivial,w.1.k.k.c⟩),om⟩
  ·refine .eq (λa3=>?_) λa3=>?_
   ·refine .bind (Jqd (B:=B) (S:=S) (⟨⟨⟨h.2.1,h.c.1,⟨h.d.1,h.e.1,h.g.1⟩,⟨h.h.1,h.i.1,h.j.1⟩,⟨h.k.1,h.k.2.1⟩,h.k.c.1,h.k.d.1,h.k.e.1⟩,h.k.g.1,h.k.h.1,h.k.i.1,trivial,h.k.k.1⟩,h.1.z.2.2.1⟩)) λy7 I=>.bind (J3y (B:=B) (S:=S) (⟨I.1,I.2,h.2.1,h.c.1,h.d.1,h.e.1,h.g.1,h.h.1,h.i.1,h.j.1,h.k.1,h.k.2.1,h.k.c.1,h.k.d.1,h.k.e.1,h.k.g.1,h.k.h.1,h.k.i.1,trivial,h.k.k.1,trivial,D.u,C.u⟩)) λL q=>?_;have:J0 L.2.2.2.2.2.2.2.2.2.2.2.2.2.2.2.2.2.2.2.2.2=_:=Jk q.1.k.k.d;have:J0 L.2.2.2.2.2.2.2.2.2.2.2.2.2.2.2.2.2.2.2.2.1=J0 x1.2.2.2.2.2.2.2.2.2.2.2.2.2.2.2.2.2.2.2.2.1/\J0 L.2.2.2.2.2.2.2.2.2.2.2.2.2.2.2.2.2.2.2.2.2=J0 x1.2.2.2.2.2.2.2.2.2.2.2.2.2.2.2.2.2.2.2.2.2:=q.2;exact .some ⟨(⟨q.1.1.z.u,q.1.2.1,q.1.c.1,q.1.d.1,q.1.e.1,q.1.g.1,q.1.h.1,q.1.i.1,q.1.j.1,q.1.k.1,q.1.k.2.1,q.1.k.c.1,q.1.k.d.1,q.1.k.e.1,q.1.k.g.1,q.1.k.h.1,q.1.k.i.1,trivial,q.1.k.k.1,trivial,q.1.k.k.c⟩),om⟩
   ·refine .eq (λZ=>?_) λZ=>?_
    ·refine .bind (Jib (B:=B) (S:=S) (⟨⟨h.2.1,h.c.1,⟨h.d.1,h.e.1,h.g.1⟩,⟨h.h.1,h.i.1,h.j.1⟩,⟨h.k.1,h.k.2.1⟩,h.k.c.1,h.k.d.1,h.k.e.1⟩,h.k.g.1,h.k.h.1,h.k.i.1,trivial,h.k.k.1⟩)) λy9 K=>.bind (J3y (B:=B) (S:=S) (⟨K.1,K.c,h.2.1,h.c.1,h.d.1,h.e.1,h.g.1,h.h.1,h.i.1,h.j.1,h.k.1,h.k.2.1,h.k.c.1,h.k.d.1,h.k.e.1,h.k.g.1,h.k.h.1,h.k.i.1,trivial,h.k.k.1,trivial,D.u,C.u⟩)) λF r=>?_;have:J0 F.2.2.2.2.2.2.2.2.2.2.2.2.2.2.2.2.2.2.2.2.2=_:=Jk r.1.k.k.d;have:J0 F.2.2.2.2.2.2.2.2.2.2.2.2.2.2.2.2.2.2.2.2.1=J0 x1.2.2.2.2.2.2.2.2.2.2.2.2.2.2.2.2.2.2.2.2.1/\J0 F.2.2.2.2.2.2.2.2.2.2.2.2.2.2.2.2.2.2.2.2.2=J0 x1.2.2.2.2.2.2.2.2.2.2.2.2.2.2.2.2.2.2.2.2.2:=r.2;exact .some ⟨(⟨r.1.1.z.u,r.1.2.1,r.1.c.1,r.1.d.1,r.1.e.1,r.1.g.1,r.1.h.1,r.1.i.1,r.1.j.1,r.1.k.1,r.1.k.2.1,r.1.k.c.1,r.1.k.d.1,r.1.k.e.1,r.1.k.g.1,r.1.k.h.1,r.1.k.i.1,trivial,r.1.k.k.1,trivial,r.1.k.k.c⟩),om⟩
    ·refine .eq (λR=>?_) λR=>?_
     ·refine .bind (J8g (B:=B) (S:=S) (⟨h.d.1,h.e.1,h.g.1⟩)) λab a0=>.bind (J9e (B:=B) (S:=S) (⟨⟨h.d.1,h.e.1,h.g.1⟩,a0⟩)) λaa E=>.eq (λU=>?_) λU=>?_
      ·refine .bind (J5h E.1.2) λa6 a1=>.some ⟨(⟨a1.u,h.2.1,h.c.1,E.1.1.1,E.1.1.2.1.u,E.1.1.c,h.h.1,h.i.1,h.j.1,h.k.1,h.k.2.1,h.k.c.1,h.k.d.1,h.k.e.1,h.k.g.1,h.k.h.1,h.k.i.1,trivial,h.k.k.1,trivial,D.u,C.u⟩),om⟩
      ·refine .bind (J5h E.1.2) λa8 P=>.some ⟨(⟨P.u,h.2.1,h.c.1,h.d.1,h.e.1,h.g.1,h.h.1,h.i.1,h.j.1,h.k.1,h.k.2.1,h.k.c.1,h.k.d.1,h.k.e.1,h.k.g.1,h.k.h.1,h.k.i.1,trivial,h.k.k.1,trivial,D.u,C.u⟩),om⟩
     ·refine .eq (λV=>?_) λV=>?_
      ·refine .bind (Jev (B:=B) (S:=S) (⟨h.1.z.u,h.2.1,h.c.1,h.d.1,h.e.1,h.g.1,h.h.1,h.i.1,h.j.1,h.k.1,h.k.2.1,h.k.c.1,h.k.d.1,h.k.e.1,h.k.g.1,h.k.h.1,h.k.i.1,trivial,h.k.k.1,trivial,D.u,C.u⟩) om om) λJ A=>?_;have:J0 J.2.2.2.2.2.2.2.2.2.2.2.2.2.2.2.2.2.2.2.2.1<=J0 x1.2.2.2.2.2.2.2.2.2.2.2.2.2.2.2.2.2.2.2.2.1+1/\J0 J.2.2.2.2.2.2.2.2.2.2.2.2.2.2.2.2.2.2.2.2.2<=J0 x1.2.2.2.2.2.2.2.2.2.2.2.2.2.2.2.2.2.2.2.2.2+1:=A.2;exact .some ⟨(⟨A.1.1.z.u,A.1.2.1,A.1.c.1,A.1.d.1,A.1.e.1,A.1.g.1,A.1.h.1,A.1.i.1,A.1.j.1,A.1.k.1,A.1.k.2.1,A.1.k.c.1,A.1.k.d.1,A.1.k.e.1,A.1.k.g.1,A.1.k.h.1,A.1.k.i.1,trivial,A.1.k.k.1,trivial,A.1.k.k.c⟩),om⟩
      ·refine .eq (λa2=>?_) λa2=>?_
       ·refine .bind (Jvx (B:=B) (S:=S) (⟨⟨h.2.1,h.c.1,⟨h.d.1,h.e.1,h.g.1⟩,⟨h.h.1,h.i.1,h.j.1⟩,⟨h.k.1,h.k.2.1⟩,h.k.c.1,h.k.d.1,h.k.e.1⟩,h.k.g.1,h.k.h.1,h.k.i.1,trivial,h.k.k.1⟩)) λa9 H=>.bind (J3y (B:=B) (S:=S) (⟨H.1,H.c,h.2.1,h.c.1,h.d.1,h.e.1,h.g.1,h.h.1,h.i.1,h.j.1,h.k.1,h.k.2.1,h.k.c.1,h.k.d.1,h.k.e.1,h.k.g.1,h.k.h.1,h.k.i.1,trivial,h.k.k.1,trivial,D.u,C.u⟩)) λG v=>?_;have:J0 G.2.2.2.2.2.2.2.2.2.2.2.2.2.2.2.2.2.2.2.2.2=_:=Jk v.1.k.k.d;have:J0 G.2.2.2.2.2.2.2.2.2.2.2.2.2.2.2.2.2.2.2.2.1=J0 x1.2.2.2.2.2.2.2.2.2.2.2.2.2.2.2.2.2.2.2.2.1/\J0 G.2.2.2.2.2.2.2.2.2.2.2.2.2.2.2.2.2.2.2.2.2=J0 x1.2.2.2.2.2.2.2.2.2.2.2.2.2.2.2.2.2.2.2.2.2:=v.2;exact .some ⟨(⟨v.1.1.z.u,v.1.2.1,v.1.c.1,v.1.d.1,v.1.e.1,v.1.g.1,v.1.h.1,v.1.i.1,v.1.j.1,v.1.k.1,v.1.k.2.1,v.1.k.c.1,v.1.k.d.1,v.1.k.e.1,v.1.k.g.1,v.1.k.h.1,v.1.k.i.1,trivial,v.1.k.k.1,trivial,v.1.k.k.c⟩),om⟩
       ·refine .bind (J09 (B:=0) (S:=0) (fkn 1)) λa7 Y=>.some ⟨(⟨Y.1.u,h.2.1,h.c.1,h.d.1,h.e.1,h.g.1,h.h.1,h.i.1,h.j.1,h.k.1,h.k.2.1,h.k.c.1,h.k.d.1,h.k.e.1,h.k.g.1,h.k.h.1,h.k.i.1,trivial,h.k.k.1,trivial,D.u,C.u⟩),om⟩
theorem Jxr{B S:Int}{x1:Jt×(List J3H)}(h:zFt B S (.pr Jl (.l J0X)) x1)(av:BH B S:=by omega)(hB:B<=1000000:=by omega)(hS:S<=1000000000000:=by omega):Tot (J6q x1) λy=>zFt B S (.pr Jl (.pr (.l J00) (.l J0B))) y:=by
 unfold J6q;refine Jf (τ:=Int×(List Int)×(List J53)×Int×Int×Int×(List J2)×Int×Int×(List T_api_Frame)×Int×(List T_api_Grant)×(List T_api_Grant)×(List Jo)×(List T_api_Row)×(List T_api_Row)×(List (List UInt8))×Int×(List Int)×Bool×(List JQ)×Bool×(List J0f)) (λq=>(x1.2,q.1,x1.1,((0,0,(0,[],0),(0,[],0),([],[]),[],[],[]),[],0,[],false,[]),q.2.1,q.2.2.1,q.2.2.2.1,q.2.2.2.2.1,q.2.2.2.2.2.1,q.2.2.2.2.2.2.1,q.2.2.2.2.2.2.2.1,q.2.2.2.2.2.2.2.2.1,q.2.2.2.2.2.2.2.2.2.1,q.2.2.2.2.2.2.2.2.2.2.1,q.2.2.2.2.2.2.2.2.2.2.2.1,q.2.2.2.2.2.2.2.2.2.2.2.2.1,q.2.2.2.2.2.2.2.2.2.2.2.2.2.1,q.2.2.2.2.2.2.2.2.2.2.2.2.2.2.1,q.2.2.2.2.2.2.2.2.2.2.2.2.2.2.2.1,q.2.2.2.2.2.2.2.2.2.2.2.2.2.2.2.2.1,q.2.2.2.2.2.2.2.2.2.2.2.2.2.2.2.2.2.1,q.2.2.2.2.2.2.2.2.2.2.2.2.2.2.2.2.2.2.1,q.2.2.2.2.2.2.2.2.2.2.2.2.2.2.2.2.2.2.2.1,q.2.2.2.2.2.2.2.2.2.2.2.2.2.2.2.2.2.2.2.2.1,q.2.2.2.2.2.2.2.2.2.2.2.2.2.2.2.2.2.2.2.2.2.1,q.2.2.2.2.2.2.2.2.2.2.2.2.2.2.2.2.2.2.2.2.2.2)) (λq=>zFt 0 0 zI q.1/\zFt 1000 S (.l zI) q.2.1/\zFt 1000 S (.l J0B) q.2.2.1/\zFt 0 0 zI q.2.2.2.1/\zFt 0 0 zI q.2.2.2.2.1/\zFt 0 0 zI q.2.2.2.2.2.1/\zFt B S (.l J6) q.2.2.2.2.2.2.1/\zFt 0 0 zI q.2.2.2.2.2.2.2.1/\zFt 0 0 zI q.2.2.2.2.2.2.2.2.1/\zFt B S (.l J07) q.2.2.2.2.2.2.2.2.2.1/\zFt 0 0 zI q.2.2.2.2.2.2.2.2.2.2.1/\zFt B S (.l Ja) q.2.2.2.2.2.2.2.2.2.2.2.1/\zFt B S (.l Ja) q.2.2.2.2.2.2.2.2.2.2.2.2.1/\zFt B S (.l Jm) q.2.2.2.2.2.2.2.2.2.2.2.2.2.1/\zFt B S (.l Jd) q.2.2.2.2.2.2.2.2.2.2.2.2.2.2.1/\zFt B S (.l Jd) q.2.2.2.2.2.2.2.2.2.2.2.2.2.2.2.1/\zFt B S (.l .s) q.2.2.2.2.2.2.2.2.2.2.2.2.2.2.2.2.1/\zFt 0 0 zI q.2.2.2.2.2.2.2.2.2.2.2.2.2.2.2.2.2.1/\zFt B S (.l zI) q.2.2.2.2.2.2.2.2.2.2.2.2.2.2.2.2.2.2.1/\zFt B S (.l JP) q.2.2.2.2.2.2.2.2.2.2.2.2.2.2.2.2.2.2.2.2.1/\zFt 1000 S (.l J00) q.2.2.2.2.2.2.2.2.2.2.2.2.2.2.2.2.2.2.2.2.2.2/\(0<=q.1)/\(q.1<=1000)/\(J0 q.2.1<=q.1)/\(J0 q.2.2.1<=q.1)/\(J0 q.2.2.2.2.2.2.2.2.2.2.2.2.2.2.2.2.2.2.2.2.2.2<=q.1)) (λq=>1001-q.1) ?_ (0,[],[],x1.1.1.1,x1.1.1.2.1,x1.1.1.2.2.1.1,x1.1.1.2.2.1.2.1,x1.1.1.2.2.1.2.2,x1.1.1.2.2.2.1.1,x1.1.1.2.2.2.1.2.1,x1.1.1.2.2.2.1.2.2,x1.1.1.2.2.2.2.1.1,x1.1.1.2.2.2.2.1.2,x1.1.1.2.2.2.2.2.1,x1.1.1.2.2.2.2.2.2.1,x1.1.1.2.2.2.2.2.2.2,x1.1.2.1,x1.1.2.2.1,x1.1.2.2.2.1,x1.1.2.2.2.2.1,x1.1.2.2.2.2.2,false,[]) rfl ?_
 ·rintro⟨O,A,w,an,ao,ap,aq,ac,ae,ak,am,af,ah,ai,a8,aa,al,aj,ag,a9,ab,ad,r⟩ Y;dsimp only at Y;obtain⟨i1,i2,N,V,Q,W,R,P,U,G,L,M,F,I,C,D,E,J,K,H,v,az,ax,ay,au,aw⟩:=Y;unfold Jbs
  try dsimp only
  have:J0 A<=1000:=i2.1;have:=J4 (l:=A);have:J0 w<=1000:=N.1;have:=J4 (l:=w);have:J0 w=_:=Jk N;have:J0 r<=1000:=v.1;have:=J4 (l:=r);have:J0 r=_:=Jk v;have:J0 x1.2=_:=Jk h.2;refine .lt (λa5=>?_) λa5=>?_
  ·refine .lt (λa3=>?_) λa3=>?_
   ·refine .not (λa4=>?_) λa4=>?_
    ·refine .bind (Jh h.2) λy3 a6=>.bind (JeZ (B:=B) (S:=S) (⟨a6.1.z.u,V,Q,W,R,P,U,G,L,M,F,I,C,D,E,J,K,trivial,H,trivial,i2.u,N.u⟩) om om) λo n=>?_;have:J0 o.2.2.2.2.2.2.2.2.2.2.2.2.2.2.2.2.2.2.2.2.2=_:=Jk n.1.k.k.d;have:J0 o.2.2.2.2.2.2.2.2.2.2.2.2.2.2.2.2.2.2.2.2.1<=J0 A+1/\J0 o.2.2.2.2.2.2.2.2.2.2.2.2.2.2.2.2.2.2.2.2.2<=J0 w+1:=n.2;refine .bind (J0u (B:=1001) (Bl:=1000) (Bm:=1) (S:=S) (J0 r) 1 v (J0j (B:=1) (S:=S) (t:=J00) oo (n.1.1.z.u))) λT Z=>?_;have a7:zFt 1000 S (.l zI) o.2.2.2.2.2.2.2.2.2.2.2.2.2.2.2.2.2.2.2.2.1:=⟨(by omega:J0 o.2.2.2.2.2.2.2.2.2.2.2.2.2.2.2.2.2.2.2.2.1<=1000),λx hx=>n.1.k.k.c.1.2 x hx⟩;have a2:zFt 1000 S (.l J0B) o.2.2.2.2.2.2.2.2.2.2.2.2.2.2.2.2.2.2.2.2.2:=⟨(by omega:J0 o.2.2.2.2.2.2.2.2.2.2.2.2.2.2.2.2.2.2.2.2.2<=1000),λx hx=>n.1.k.k.e x hx⟩;have:J0 T=_:=Jk Z.1;have a1:zFt 1000 S (.l J00) T:=⟨(by omega:J0 T<=1000),λx hx=>Z.1.2 x hx⟩;have:=Jb O 1;exact .some ⟨(J1 .i64 O 1,o.2.2.2.2.2.2.2.2.2.2.2.2.2.2.2.2.2.2.2.2.1,o.2.2.2.2.2.2.2.2.2.2.2.2.2.2.2.2.2.2.2.2.2,o.2.1,o.2.2.1,o.2.2.2.1,o.2.2.2.2.1,o.2.2.2.2.2.1,o.2.2.2.2.2.2.1,o.2.2.2.2.2.2.2.1,o.2.2.2.2.2.2.2.2.1,o.2.2.2.2.2.2.2.2.2.1,o.2.2.2.2.2.2.2.2.2.2.1,o.2.2.2.2.2.2.2.2.2.2.2.1,o.2.2.2.2.2.2.2.2.2.2.2.2.1,o.2.2.2.2.2.2.2.2.2.2.2.2.2.1,o.2.2.2.2.2.2.2.2.2.2.2.2.2.2.1,o.2.2.2.2.2.2.2.2.2.2.2.2.2.2.2.1,o.2.2.2.2.2.2.2.2.2.2.2.2.2.2.2.2.1,o.2.2.2.2.2.2.2.2.2.2.2.2.2.2.2.2.2.1,o.2.2.2.2.2.2.2.2.2.2.2.2.2.2.2.2.2.2.1,o.2.2.2.2.2.2.2.2.2.2.2.2.2.2.2.2.2.2.2.1,T),rfl,⟨J8,a7,a2,n.1.2.1,n.1.c.1,n.1.d.1,n.1.e.1,n.1.g.1,n.1.h.1,n.1.i.1,n.1.j.1,n.1.k.1,n.1.k.2.1,n.1.k.c.1,n.1.k.d.1,n.1.k.e.1,n.1.k.g.1,n.1.k.h.1,n.1.k.i.1,n.1.k.k.1,a1,om,om,om,om,om⟩,om,om⟩
    ·exact .some (⟨⟨⟨V,Q,⟨W,R,P⟩,⟨U,G,L⟩,⟨M,F⟩,I,C,D⟩,E,J,K,trivial,H⟩,v.u,N.u⟩)
   ·exact .some (⟨⟨⟨V,Q,⟨W,R,P⟩,⟨U,G,L⟩,⟨M,F⟩,I,C,D⟩,E,J,K,trivial,H⟩,v.u,N.u⟩)
  ·exact .some (⟨⟨⟨V,Q,⟨W,R,P⟩,⟨U,G,L⟩,⟨M,F⟩,I,C,D⟩,E,J,K,trivial,H⟩,v.u,N.u⟩)
 ·try dsimp only
  exact⟨fk0,Jc,Jc,h.1.1.1,h.1.1.2.1,h.1.1.c.1.1,h.1.1.c.1.2.1,h.1.1.c.1.c,h.1.1.d.1.1,h.1.1.d.1.2.1,h.1.1.d.1.c,h.1.1.e.1.1,h.1.1.e.1.2,h.1.1.g.1,h.1.1.h.1,h.1.1.i,h.1.2.1,h.1.c.1,h.1.d.1,h.1.g,Jc,om,om,om,om,om⟩
theorem Jg5{B S:Int}{x1:JBL}(h:zFt B S JAc x1)(p0:0<=x1.2.2.2)(w:0<=x1.1)(q:x1.1<=1000)(o:BH B S:=by omega)(A:B<=1000000:=by omega)(z:S<=1000000000000:=by omega):Tot (J2p x1) λy=>zFt B S (.pr Jl J7) y/\(0<=y.2.2):=by unfold J2p;refine .bind (Jj (B:=B) (S:=S) (⟨fkn 4,h.c⟩) om) λC h3=>?_;have:=J3.1 h3.1.c;refine .bind (Jj (B:=B) (S:=S) (⟨fkn 3,h3.1.2⟩) om) λr j=>?_;have:=J3.1 j.1.c;refine .bind (Jx7 (B:=0) (S:=0) (⟨J8,J8⟩)) λx k=>.bind (Jf0 (B:=B) (S:=S) (⟨J8,h.1,trivial,j.1.2⟩) om om om) λn e=>?_;have:0<=n.2.2:=e.2;refine .bind (Jxr (B:=B) (S:=S) (⟨k.1.u,e.1.1⟩)) λv g=>.some ⟨(⟨g.1,e.1.2⟩),om⟩
theorem JgQ{B S:Int}{x1:JBL}(h:zFt B S JAc x1)(p0:0<=x1.2.2.2)(j:0<=x1.1)(n:x1.1<=1000)(g:BH B S:=by omega)(o:B<=1000000:=by omega)(k:S<=1000000000000:=by omega):Tot (J2J x1) λy=>zFt B S (.pr J9 J7) y/\(0<=y.2.2):=by unfold J2J;refine .bind (Jg5 (B:=B) (S:=S) (⟨h.1,trivial,h.c⟩) om om om) λe h3=>?_;have:0<=e.2.2:=h3.2;exact .some ⟨(⟨h3.1.1.1,h3.1.2⟩),om⟩
theorem Jma{B S:Int}{x1:Jbz}(h:zFt B S tq9 x1)(p0:0<=x1.2.2)(n:0<=x1.1)(r:x1.1<=1000)(k:BH B S:=by omega)(v:B<=1000000:=by omega)(q:S<=1000000000000:=by omega):Tot (J6V x1) λy=>zFt B S (.pr zI (.pr JT J7)) y/\(0<=y.2.2.2):=by unfold J6V;refine .bind (JgQ (B:=B) (S:=S) (⟨h.1,trivial,h.2⟩) om om om) λj h3=>?_;have:0<=j.2.2:=h3.2;refine .bind (J8g h3.1.1.c.1) λo e=>.bind (J9e (B:=B) (S:=S) (⟨h3.1.1.c.1,e⟩)) λw g=>.some ⟨(⟨h3.1.1.1,g.1.1.u,h3.1.2⟩),om⟩
theorem J7A{B S:Int}{x1:JDK}(h:zFt B S JI3 x1)(r:BS B S 0 0:=by omega):Tot (J12 x1) λy=>zFt 0 0 zI y:=by
 unfold J12;have s0:zFt 0 S JI3 x1:=h;refine .ltf (λq=>?_) λq=>?_
 ·refine .eq (λo=>?_) λo=>?_
  ·have:=J3.1 s0.1.1;refine .lt (λn=>?_) λn=>?_
   ·exact .some (fkn (-1))
   ·refine .eq (λk=>?_) λk=>?_
    ·refine .eq (λj=>?_) λj=>?_
     ·exact .some fk0
     ·exact .some (fkn 1)
    ·exact .some (fkn 1)
  ·refine .eq (λe=>?_) λe=>?_
   ·have:=J3.1 s0.1.1;refine .eq (λg=>?_) λg=>?_
    ·exact .some fk0
    ·exact .some (fkn 1)
   ·exact .some (fkn 1)
 ·exact .some (fkn (-1))
theorem Jo4{B S:Int}{x1:(List J2)×J2}(h:zFt B S (.pr (.l J6) J6) x1)(ai:BS B S 0 0:=by omega)(hB:B<=17179869183:=by omega):Tot (J5d x1) λy=>zFt (2*B+1) S (.pr (.l J6) .b) y/\(J0 y.1<=J0 x1.1+1):=by
 unfold J5d;have:J0 x1.1<=B:=h.1.1;have:=J4 (l:=x1.1);have:J0 x1.1=_:=Jk h.1;refine Jf (τ:=Int) (λq=>(x1.1,q,x1.2)) (λq=>(zFt 0 0 zI q/\0<=q/\(q<=J0 x1.1\/q<=0))) (λq=>J0 x1.1-q) ?_ 0 rfl ?_
 ·rintro v ⟨i4,w5,z6⟩;unfold J9o
  try dsimp only
  have:=J3.1 i4;refine .lt (λc7=>?_) λc7=>?_
  ·refine .bind (Jh h.1) λy3 O=>.bind (J7A (B:=0) (S:=S) (⟨O.1.z,h.2.z⟩)) λy4 a8=>.lt (λL=>?_) λL=>?_
   ·have:=Jb v 1;exact .some ⟨J1 .i64 v 1,rfl,⟨J8,om,om⟩,om,om⟩
   ·refine .inr ?_;refine .lt (λJ=>?_) λJ=>?_
    ·refine .bind (Jh h.1) λy5 a2=>.bind (J7A (B:=0) (S:=S) (⟨a2.1.z,h.2.z⟩)) λy6 ab=>.eq (λa4=>?_) λa4=>?_
     ·refine .bind (Jh h.1) λy7 aa=>.some ⟨(⟨h.1.u,trivial⟩),om⟩
     ·refine .bind (J6g h.1) λH g=>.clo g.1 oo (by decide) ?_;have:J0 H<=B:=g.1.1;have:J0 H=_:=Jk g.1;refine .bind (J0u (B:=(B+1)) (Bl:=B) (Bm:=1) (S:=S) (J0 H) 1 g.1 (J0j (B:=1) (S:=S) (t:=J6) oo (h.2.z.u))) λx E=>.bind (J3G h.1) λr o=>?_;have:J0 x=_:=Jk E.1;have:J0 r<=B:=o.1.1;have:J0 r=_:=Jk o.1;refine .bind (J0u (B:=(2*B+1)) (Bl:=(B+1)) (Bm:=B) (S:=S) (J0 x) (J0 r) E.1 o.1) λY A=>?_;have:J0 Y=_:=Jk A.1;exact .some ⟨(⟨A.1,trivial⟩),om⟩
    ·refine .bind (J6g h.1) λK F=>.clo F.1 oo (by decide) ?_;refine .bind (J0u (B:=(B+1)) (Bl:=B) (Bm:=1) (S:=S) (J0 K) 1 F.1 (J0j (B:=1) (S:=S) (t:=J6) oo (h.2.z.u))) λQ W=>.bind (J3G h.1) λV a5=>.bind (J0u (B:=(2*B+1)) (Bl:=(B+1)) (Bm:=B) (S:=S) (J0 Q) (J0 V) W.1 a5.1) λae a0=>.some ⟨(⟨a0.1,trivial⟩),om⟩
  ·refine .inr ?_;refine .lt (λT=>?_) λT=>?_
   ·refine .bind (Jh h.1) λaf a1=>.bind (J7A (B:=0) (S:=S) (⟨a1.1.z,h.2.z⟩)) λah ad=>.eq (λP=>?_) λP=>?_
    ·refine .bind (Jh h.1) λag a9=>.some ⟨(⟨h.1.u,trivial⟩),om⟩
    ·refine .bind (J6g h.1) λM D=>.clo D.1 oo (by decide) ?_;refine .bind (J0u (B:=(B+1)) (Bl:=B) (Bm:=1) (S:=S) (J0 M) 1 D.1 (J0j (B:=1) (S:=S) (t:=J6) oo (h.2.z.u))) λR I=>.bind (J3G h.1) λN U=>.bind (J0u (B:=(2*B+1)) (Bl:=(B+1)) (Bm:=B) (S:=S) (J0 R) (J0 N) I.1 U.1) λac a3=>.some ⟨(⟨a3.1,trivial⟩),om⟩
   ·refine .bind (J6g h.1) λj e=>.clo e.1 oo (by decide) ?_;have:J0 j<=B:=e.1.1;have:J0 j=_:=Jk e.1;refine .bind (J0u (B:=(B+1)) (Bl:=B) (Bm:=1) (S:=S) (J0 j) 1 e.1 (J0j (B:=1) (S:=S) (t:=J6) oo (h.2.z.u))) λG C=>.bind (J3G h.1) λw k=>?_;have:J0 G=_:=Jk C.1;have:=J4 (l:=w);have:J0 w=_:=Jk k.1;refine .bind (J0u (B:=(2*B+1)) (Bl:=(B+1)) (Bm:=B) (S:=S) (J0 G) (J0 w) C.1 k.1) λZ n=>?_;have:J0 Z=_:=Jk n.1;exact .some ⟨(⟨n.1,trivial⟩),om⟩
 ·try dsimp only
  exact⟨fk0,oo,oo⟩
theorem Jdd{B S:Int}{x1:Int×Int×T_api_Row}(h:zFt B S (.pr zI (.pr zI Jd)) x1)(r:BS B S 0 0:=by omega):Tot (J2k x1) λy=>zFt 0 0 .b y:=by
 unfold J2k;refine .ge (λq=>?_) λq=>?_
 ·have:=J3.1 h.2.1;refine .le (λc3=>?_) λc3=>?_
  ·refine .le (λo=>?_) λo=>?_
   ·have:=J3.1 h.c.1;refine .ge (λn=>?_) λn=>?_
    ·have:=J3.1 h.d.1;refine .le (λk=>?_) λk=>?_
     ·refine .lt (λg=>?_) λg=>?_
      ·have:=J3.1 h.e;refine .ge (λj=>?_) λj=>?_
       ·exact .some trivial
       ·exact .some trivial
      ·exact .some trivial
     ·exact .some trivial
    ·exact .some trivial
   ·exact .some trivial
  ·exact .some trivial
 ·exact .some trivial
theorem Jgn{B S:Int}{x1:JU}(h:zFt B S J11 x1)(a2:BS B S 0 0:=by omega)(hB:B<=9223372036854775807:=by omega):Tot (J2x x1) λy=>zFt 0 0 .b y:=by
 unfold J2x;refine .bind (Jdd (B:=0) (S:=0) (⟨h.1,h.2.1,h.c.1,h.d.1,h.e.1⟩)) λy2 h1=>.nof (λW=>?_) λW=>?_
 ·have:J0 x1.2.2.2.2.2<=B:=h.g.1;have:=J4 (l:=x1.2.2.2.2.2);have:J0 x1.2.2.2.2.2=_:=Jk h.g;refine .gt (λc3=>?_) λc3=>?_
  ·exact .some trivial
  ·refine Jf (τ:=Int) (λq=>(q,x1)) (λq=>(zFt 0 0 zI q/\0<=q/\(q<=J0 x1.2.2.2.2.2\/q<=0))) (λq=>J0 x1.2.2.2.2.2-q) ?_ 0 rfl ?_
   ·rintro j ⟨V,w8,z9⟩;unfold J7N
    try dsimp only
    have:=J3.1 V;refine .lt (λL=>?_) λL=>?_
    ·refine .bind (Jh h.g) λr n=>.bind ((J2X (B:=0) (S:=S) (x1:=r) n.1.z).eqn) λy5 w=>.nof (λk=>?_) λk=>?_
     ·have E:=J2s (x:=r) n.1.z w.2 k;have o:zFt 0 8192 J6 r:=E.2;refine .bind (J1R o) λy6 a4=>.nof (λA=>?_) λA=>?_
      ·have:=J3.1 h.1;refine .ltf (λO=>?_) λO=>?_
       ·have:=J3.1 h.2.1;refine .gtf (λC=>?_) λC=>?_
        ·have:=J3.1 h.c.1;refine .ltf (λM=>?_) λM=>?_
         ·have:=J3.1 h.d.1;refine .gt (λT=>?_) λT=>?_
          ·exact .some trivial
          ·refine .gt (λN=>?_) λN=>?_
           ·have:=J0o j 1;refine .bind (Jh h.g) λy7 K=>.bind (J7A (B:=0) (S:=(S+8192)) (⟨K.1.z.u,o.u⟩)) λy8 a5=>.ge (λQ=>?_) λQ=>?_
            ·exact .some trivial
            ·refine .gt (λD=>?_) λD=>?_
             ·refine .bind (Jh h.g) λy9 Z=>.eq (λv=>?_) λv=>?_
              ·refine .bind (Jh h.g) λa0 a1=>.ne (λG=>?_) λG=>?_
               ·exact .some trivial
               ·have:=Jb j 1;exact .some ⟨J1 .i64 j 1,rfl,⟨J8,om,om⟩,om,om⟩
              ·refine .ge (λU=>?_) λU=>?_
               ·exact .some trivial
               ·have:=Jb j 1;exact .some ⟨J1 .i64 j 1,rfl,⟨J8,om,om⟩,om,om⟩
             ·refine .ge (λH=>?_) λH=>?_
              ·exact .some trivial
              ·have:=Jb j 1;exact .some ⟨J1 .i64 j 1,rfl,⟨J8,om,om⟩,om,om⟩
           ·refine .gt (λP=>?_) λP=>?_
            ·have:=J0o j 1;refine .bind (Jh h.g) λa7 Y=>.eq (λF=>?_) λF=>?_
             ·refine .bind (Jh h.g) λa3 a6=>.ne (λJ=>?_) λJ=>?_
              ·exact .some trivial
              ·have:=Jb j 1;exact .some ⟨J1 .i64 j 1,rfl,⟨J8,om,om⟩,om,om⟩
             ·refine .ge (λI=>?_) λI=>?_
              ·exact .some trivial
              ·have:=Jb j 1;exact .some ⟨J1 .i64 j 1,rfl,⟨J8,om,om⟩,om,om⟩
            ·refine .ge (λR=>?_) λR=>?_
             ·exact .some trivial
             ·have:=Jb j 1;exact .some ⟨J1 .i64 j 1,rfl,⟨J8,om,om⟩,om,om⟩
         ·exact .some trivial
        ·exact .some trivial
       ·exact .some trivial
      ·exact .some trivial
     ·exact .some trivial
    ·exact .some trivial
   ·try dsimp only
    exact⟨fk0,oo,oo⟩
 ·exact .some trivial
theorem JcI{B S:Int}{x1:JJb}(h:zFt B S (.pr (.l J6) (.pr zI (.pr zI Jd))) x1)(af:BS B S 0 0:=by omega)(hB:B<=17179869183:=by omega):Tot (J3M x1) λy=>zFt B S (.pr J11 zI) y:=by
 unfold J3M;refine .bind (Jdd (B:=0) (S:=0) (h.2)) λy2 h1=>.not (λc2=>?_) λc2=>?_
 ·exact .some (⟨fzr,fkn 1⟩)
 ·have:J0 x1.1<=B:=h.1.1;have:=J4 (l:=x1.1);have:J0 x1.1=_:=Jk h.1;refine Jf (τ:=Int) (λq=>(x1.1,x1.2.1,x1.2.2.1,x1.2.2.2.1,x1.2.2.2.2.1,x1.2.2.2.2.2,q,0,0,0,0,0,[])) (λq=>(zFt 0 0 zI q/\0<=q/\(q<=J0 x1.1\/q<=0))) (λq=>J0 x1.1-q) ?_ 0 rfl ?_
  ·rintro C ⟨i6,w7,z8⟩;unfold Jaz
   try dsimp only
   have:=J3.1 i6;have:=J4 (l:=x1.1);refine .lt (λc9=>?_) λc9=>?_
   ·refine .bind (Jh h.1) λU D=>.bind ((J2X (B:=0) (S:=S) (x1:=U) D.1.z).eqn) λy5 N=>.not (λG=>?_) λG=>?_
    ·exact .some (⟨fzr,fkn 12⟩)
    ·have ak:=J2s (x:=U) D.1.z N.2 G;have:=Jb C 1;exact .some ⟨J1 .i64 C 1,rfl,⟨J8,om,om⟩,om,om⟩
   ·refine .inr ?_;refine Jf (τ:=Bool×Int×JU) (λq=>(x1.1,x1.2.1,x1.2.2.1,x1.2.2.2.1,x1.2.2.2.2.1,q.1,q.2.1,(0,0,0,0,0,[]),q.2.2)) (λq=>zFt 0 0 zI q.2.1/\zFt B S J11 q.2.2/\(0<=q.2.1)/\(q.2.1<=J0 x1.1)/\(J0 q.2.2.2.2.2.2.2<=q.2.1)) (λq=>J0 x1.1-q.2.1) ?_ (false,0,(x1.2.1,x1.2.2.1,x1.2.2.2.1,x1.2.2.2.2.1,x1.2.2.2.2.2,[])) rfl ?_
    ·rintro⟨o,n,j⟩ E;dsimp only at E;obtain⟨a2,k,al,a9,ab⟩:=E;unfold JaR
     try dsimp only
     have:=J3.1 a2;have:J0 j.2.2.2.2.2<=B:=k.2.2.2.2.2.1;have:=J4 (l:=j.2.2.2.2.2);have:J0 j.2.2.2.2.2=_:=Jk k.2.2.2.2.2;refine .lt (λP=>?_) λP=>?_
     ·refine .bind (Jh h.1) λI w=>.bind (J1R (B:=0) (S:=S) w.1.z) λy8 ac=>.nof (λL=>?_) λL=>?_
      ·have:=J3.1 w.1.z.2.2.2.2.2.2.1.1;refine .ltf (λW=>?_) λW=>?_
       ·have:=J3.1 h.e.1;refine .gtf (λO=>?_) λO=>?_
        ·have:=J3.1 w.1.z.1;refine .ltf (λR=>?_) λR=>?_
         ·have:=J3.1 h.c.1;refine .gt (λV=>?_) λV=>?_
          ·have am:zFt B S (.l J6) j.2.2.2.2.2:=⟨(by omega:J0 j.2.2.2.2.2<=B),λx hx=>k.2.2.2.2.2.2 x hx⟩;have:=Jb n 1;exact .some ⟨(o,J1 .i64 n 1,j),rfl,⟨J8,k,om,om,om⟩,om,om⟩
          ·refine Jf (τ:=Bool×Int) (λq=>(x1.1,x1.2.1,x1.2.2.1,x1.2.2.2.1,x1.2.2.2.2.1,q.1,n,q.2,(0,0,0,0,0,[]),j,I)) (λq=>(zFt 0 0 zI q.2/\0<=q.2/\(q.2<=J0 j.2.2.2.2.2\/q.2<=0))) (λq=>J0 j.2.2.2.2.2-q.2) ?_ (o,0) rfl ?_
           ·rintro⟨H,r⟩ F;dsimp only at F;obtain⟨T,an,aj⟩:=F;unfold Jaw
            try dsimp only
            have:=J3.1 T;refine .lt (λQ=>?_) λQ=>?_
            ·refine .itf (λM=>?_) λM=>?_
             ·refine .bind (Jh k.2.2.2.2.2) λa6 ad=>.eq (λa1=>?_) λa1=>?_
              ·refine .bind (Jh k.2.2.2.2.2) λa0 ai=>?_;have:=Jb r 1;exact .some ⟨(Js (eqT J6 a0 I),J1 .i64 r 1),rfl,⟨J8,om,om⟩,om,om⟩
              ·have:=Jb r 1;exact .some ⟨(false,J1 .i64 r 1),rfl,⟨J8,om,om⟩,om,om⟩
             ·have:=Jb r 1;exact .some ⟨(true,J1 .i64 r 1),rfl,⟨J8,om,om⟩,om,om⟩
            ·refine .inr ?_;refine .bind (Jo4 (B:=B) (S:=S) (⟨k.2.2.2.2.2,w.1.z.u⟩)) λv A=>?_;have:J0 v.1=_:=Jk A.1.1;have:J0 v.1<=J0 j.2.2.2.2.2+1:=A.2;have K:zFt B S (.l J6) v.1:=⟨(by omega:J0 v.1<=B),λx hx=>A.1.1.2 x hx⟩;have:=Jb n 1;exact .some ⟨(H,J1 .i64 n 1,(j.1,j.2.1,j.2.2.1,j.2.2.2.1,j.2.2.2.2.1,v.1)),rfl,⟨J8,⟨k.1,k.2.1,k.2.2.1,k.2.2.2.1,k.2.2.2.2.1,K⟩,om,om,om⟩,om,om⟩
           ·try dsimp only
            exact⟨fk0,oo,oo⟩
         ·have ag:zFt B S (.l J6) j.2.2.2.2.2:=⟨(by omega:J0 j.2.2.2.2.2<=B),λx hx=>k.2.2.2.2.2.2 x hx⟩;have:=Jb n 1;exact .some ⟨(o,J1 .i64 n 1,j),rfl,⟨J8,k,om,om,om⟩,om,om⟩
        ·have aa:zFt B S (.l J6) j.2.2.2.2.2:=⟨(by omega:J0 j.2.2.2.2.2<=B),λx hx=>k.2.2.2.2.2.2 x hx⟩;have:=Jb n 1;exact .some ⟨(o,J1 .i64 n 1,j),rfl,⟨J8,k,om,om,om⟩,om,om⟩
       ·have ah:zFt B S (.l J6) j.2.2.2.2.2:=⟨(by omega:J0 j.2.2.2.2.2<=B),λx hx=>k.2.2.2.2.2.2 x hx⟩;have:=Jb n 1;exact .some ⟨(o,J1 .i64 n 1,j),rfl,⟨J8,k,om,om,om⟩,om,om⟩
      ·have ae:zFt B S (.l J6) j.2.2.2.2.2:=⟨(by omega:J0 j.2.2.2.2.2<=B),λx hx=>k.2.2.2.2.2.2 x hx⟩;have:=Jb n 1;exact .some ⟨(o,J1 .i64 n 1,j),rfl,⟨J8,k,om,om,om⟩,om,om⟩
     ·refine .inr ?_;refine .ite (λZ=>?_) λZ=>?_
      ·exact .some (⟨fzr,fkn 41⟩)
      ·refine .gt (λY=>?_) λY=>?_
       ·exact .some (⟨fzr,fkn 21⟩)
       ·refine .bind (Jgn k) λa8 a7=>.not (λJ=>?_) λJ=>?_
        ·exact .some (⟨fzr,fkn 13⟩)
        ·exact .some (⟨k,fk0⟩)
    ·try dsimp only
     exact⟨fk0,⟨h.2.1,h.c.1,h.d.1,h.e.1,h.g,Jc⟩,om,om,om⟩
  ·try dsimp only
   exact⟨fk0,oo,oo⟩
theorem JrL{B S:Int}{x1:Jp}(h:zFt B S J7 x1)(p0:0<=x1.2)(C:BH B S:=by omega)(L:B<=1000000:=by omega)(K:S<=1000000000000:=by omega):Tot (J4A x1) λy=>zFt B S (.pr J11 (.pr J11 (.pr J11 J7))) y/\(0<=y.2.2.2.2):=by unfold J4A;refine .bind (Jma (B:=B) (S:=S) (⟨fkn 30,h⟩) om om om) λw h2=>?_;have:0<=w.2.2.2:=h2.2;refine .bind (Jj (B:=B) (S:=S) (⟨fkn 3,h2.1.c⟩) om) λE h5=>?_;have:=J3.1 h5.1.c;refine .bind (Jj (B:=B) (S:=S) (⟨fkn 4,h5.1.2⟩) om) λJ v=>?_;have:=J3.1 v.1.c;refine .bind (Jj (B:=B) (S:=S) (⟨fkn 15,v.1.2⟩) om) λG k=>?_;have:=J3.1 k.1.c;refine .bind (Jj (B:=B) (S:=S) (⟨fkn 15,k.1.2⟩) om) λH n=>?_;have:=J3.1 n.1.c;refine .bind (Jj (B:=B) (S:=S) (⟨fkn 3,n.1.2⟩) om) λD e=>?_;have:=J3.1 e.1.c;refine .bind (JcI (B:=B) (S:=S) (⟨h2.1.2.1.2.1,fkn 1,J8,h5.1.1,J8,e.1.1⟩)) λF q=>.bind (Jj (B:=B) (S:=S) (⟨fkn 3,e.1.2⟩) om) λI g=>?_;have:=J3.1 g.1.c;refine .bind (JcI (B:=B) (S:=S) (⟨h2.1.2.1.2.1,J8,J8,h5.1.1,J8,g.1.1⟩)) λx r=>.bind (Jj (B:=B) (S:=S) (⟨fkn 9,g.1.2⟩) om) λA j=>?_;have:=J3.1 j.1.c;refine .bind (JcI (B:=B) (S:=S) (⟨h2.1.2.1.2.1,J8,J8,h5.1.1,J8,j.1.1⟩)) λz o=>.some ⟨(⟨q.1,r.1,o.1,j.1.2⟩),om⟩
end Go.Am
end
section
namespace Go.Am
section
variable (P:Program)
def J9V:Nat->TypeId->Bool
 |0,_=>false
 |n+1,t=>match P.underlying t with
  |some .bool=>true
  |some (.int _)=>true
  |some .string=>true
  |some (.slice e)=>J9V n e&&decide (t<P.types.size/\0<P.cellsOf e)
  |some (.struct fs)=>fs.toList.all (λf=>J9V n f.type)&&decide (t<P.types.size)
  |some (.array _ e)=>J9V n e&&decide (t<P.types.size)
  |_=>false
def J5K:Nat->TypeId->List PV->Prop
 |0,_,_=>False
 |n+1,t,pvs=>match P.underlying t with
  |some .bool=> ∃b,pvs=[.b b]
  |some (.int k)=> ∃z,pvs=[.i k z]/\(Lit.int k z).wf=true
  |some .string=> ∃l,pvs=[.s l]/\l.length<=maxLen
  |some (.slice e)=> ∃rows,pvs=[.sl (P.cellsOf e) rows]/\rows.length<=maxLen/\ ∀row∈rows,row.length=P.cellsOf e/\J5K n e row
  |some (.struct fs)=>pvs.length=P.cellsOf t/\ ∀f∈fs.toList,J5K n f.type ((pvs.drop f.offset).take (P.cellsOf f.type))
  |some (.array m e)=>pvs.length=P.cellsOf t/\ ∀i,i<m->J5K n e ((pvs.drop (i*P.cellsOf e)).take (P.cellsOf e))
  |_=>False
end
section
variable {H:Type} {enc:TypeId×Value->H} {P:Program} {w:World} {base:Nat} {sp:Nat->Bool} {held:Bool}
def JAy(w:World)(pvs:List PV)(cs:List Value):Prop:=pvs.length=cs.length/\ ∀(i:Nat) p v,pvs[i]?=some p->cs[i]?=some v->J0q w (λr _=>r<w.heap.size) p v
theorem JpJ{a:Addr}{v:Value}(h:w.cell? a=some v):a.spot=none/\J0K w a.block a.off=some v/\a.block<w.heap.size:=by
 unfold World.cell? at h;unfold J0K;split at h
 ·rename_i c t fz hb;split at h
  ·cases h
  ·rename_i hs;refine⟨by simpa using hs,by rw[hb];exact h,?_⟩;have:=Array.getElem?_eq_some_iff.1 hb;exact this.1
 ·cases h
theorem JEl{a:Addr}{n:Nat}{cs:List Value}(h:w.cells? base a n=some cs):cs.length=n/\ ∀i v,cs[i]?=some v->w.cell? (a.add i)=some v:=by
 unfold World.cells? at h;split at h
 ·have hl:=mapM_some_length h;refine⟨by simpa using hl,λi v hv=>?_⟩;have hi:i<n:=by have:=(J2I.1 hv).1;simp at hl;omega
  have:=mapM_some_get h i i (by simp[hi]);rw[this,hv]
 ·cases h
theorem JlX{α:Type}(Q:Nat->α->Prop): ∀(m:Nat),(∀i,i<m-> ∃x,Q i x)-> ∃xs:List α,xs.length=m/\ ∀i x,xs[i]?=some x->Q i x
 |0,_=>⟨[],rfl,λi x h=>by simp at h⟩
 |m+1,h=>by
  obtain⟨xs,hl,hx⟩:=JlX Q m (λi hi=>h i (by omega));obtain⟨y,hy⟩:=h m (by omega);refine⟨xs++[y],by simp[hl],λi x hi=>?_⟩;rcases zQ3 i xs.length with g|e
  ·rw[Jkf g]at hi;exact hx i x hi
  ·rw[Jd3 e]at hi;have:i-xs.length=0:=by have:=(J2I.1 hi).1;simp at this;omega
   rw[this]at hi;simp at hi;subst hi;obtain rfl:i=m:=by omega
   exact hy
theorem Jhy{α:Type}: ∀(xs:List (List α)) (j:Nat) (y:List α),xs[j]?=some y->(xs.flatten.drop ((xs.take j).map List.length).sum).take y.length=y
 |[],j,y,h=>by simp at h
 |x::xs,0,y,h=>by simp at h;subst h;simp
 |x::xs,j+1,y,h=>by simp at h;have:=Jhy xs j y h;simp only[JFD,J1n,List.sum_cons,Jei,List.drop_length_add_append];exact this
theorem JGF(hl:laidOutB P=true)(hm:mapsRowed P=true): ∀(n:Nat) (t:TypeId) (cs:List Value) (x:DataW H×List MemPlace) (S:Nat),J9V P n t=true->DataW.trod enc P w base sp held S t cs=some x->
  ∃pvs,J5K P n t pvs/\JAy w pvs cs:=by
 have K:=kids_rows hl hm;intro n
 induction n with
 |zero=>intro t cs x S hp;simp[J9V]at hp
 |succ n ih=>
  intro t cs x S hp h;unfold J9V at hp;unfold J5K;split at hp
  ·rename_i C;obtain⟨b,rfl,_⟩:=DataW.trod_bool C h;refine⟨[.b b],by simp,rfl,λi p v h1 h2=>?_⟩
   match i with
   |0=>simp at h1 h2;subst h1 h2;exact .b _
   |i+1=>simp at h1
  ·rename_i k C;obtain⟨z,rfl,_,ak⟩:=DataW.trod_int C h;refine⟨[.i k z],by simpa using ak,rfl,λi p v h1 h2=>?_⟩
   match i with
   |0=>simp at h1 h2;subst h1 h2;exact .i _ _
   |i+1=>simp at h1
  ·rename_i C;obtain⟨s,rfl,_,ag⟩:=DataW.trod_string C h;refine⟨[.s s.data.toList],⟨_,rfl,by rw[Array.length_toList];exact ag⟩,rfl,λi p v h1 h2=>?_⟩
   match i with
   |0=>simp at h1 h2;subst h1 h2;exact .s _
   |i+1=>simp at h1
  ·rename_i e C;simp only[J03,decide_eq_true_eq]at hp;rcases DataW.trod_slice C h with⟨rfl,_⟩|⟨a,len,cap,a6,rest,n0,_,rfl,_,_,av,hcm,aw,O,_⟩
   ·refine⟨[.sl (P.cellsOf e) []],⟨[],rfl,zQ2 _,by simp⟩,rfl,λi p v h1 h2=>?_⟩
    match i with
    |0=>simp at h1 h2;subst h1 h2;exact .sl0 _ _ _
    |i+1=>simp at h1
   ·
    have ad: ∀i,i<len-> ∃row:List PV,(row.length=P.cellsOf e/\J5K P n e row)/\ ∀j p,row[j]?=some p-> ∃v,w.cell? (a.add (i*P.cellsOf e)|>.add j)=some v/\J0q w (λr _=>r<w.heap.size) p v:=by
     intro i hi;have h1:=O i hi;have h2: ∃y,a6[i]?=some y:=⟨_,zQ9 (by omega)⟩;obtain⟨y,hy⟩:=h2;rw[hy,J2H]at h1;obtain⟨cs',hc,af⟩:=h1;obtain⟨row,q1,q2,q3⟩:=ih e cs' y n0 hp.1 af;obtain⟨c1,c2⟩:=JEl hc;refine⟨row,⟨by omega,q1⟩,λj p hj=>?_⟩;have M:j<cs'.length:=by have:=(J2I.1 hj).1;omega
     have hv:=zQ9 M;exact⟨_,c2 j _ hv,q3 j p _ hj hv⟩
    obtain⟨rows,aj,B⟩:=JlX _ len ad;refine⟨[.sl (P.cellsOf e) rows],⟨rows,rfl,by omega,λrow hr=>?_⟩,rfl,λi p v h1 h2=>?_⟩
    ·obtain⟨i,hi⟩:=J8D hr;exact(B i row hi).1
    match i with
    |i+1=>simp at h1
    |0=>
     simp at h1 h2;subst h1 h2;by_cases h0: ∃(i j:Nat) (row:List PV) (p:PV),rows[i]?=some row/\row[j]?=some p
     ·obtain⟨i0,j0,aa,p0,a8,ao⟩:=h0;have Y:a.spot=none\/P.cellsOf e=0:=by
       rcases Nat.eq_zero_or_pos (P.cellsOf e)with hz|ab
       ·exact .inr hz
       ·have hlen:0<len:=by have:=(J2I.1 a8).1;omega
        have I:=zQ9 (l:=rows) (i:=0) (by omega);have q:=B 0 _ I;have ah:=zQ9 (l:=rows[0]'(by omega)) (i:=0) (by omega);obtain⟨v,hv,_⟩:=q.2 0 _ ah;rw[Nat.zero_mul]at hv;exact .inl (by simpa[Addr.add]using(JpJ hv).1)
      rcases Y with Y|hz
      ·have cell: ∀(i j:Nat) (row:List PV) (p:PV),rows[i]?=some row->row[j]?=some p-> ∃v,(a.block<w.heap.size/\J0K w a.block (a.off+i*P.cellsOf e+j)=some v)/\J0q w (λr _=>r<w.heap.size) p v:=by
        intro i j row p hi hj;obtain⟨v,hv,hr⟩:=(B i row hi).2 j p hj;obtain⟨s1,s2,s3⟩:=JpJ hv;refine⟨v,?_,hr⟩;have e1:((a.add (i*P.cellsOf e)).add j).block=a.block:=by unfold Addr.add;split<;>split<;>rfl
        have e2:((a.add (i*P.cellsOf e)).add j).off=a.off+i*P.cellsOf e+j:=by unfold Addr.add;split<;>split<;>simp_all
        rw[e1]at s3;rw[e1,e2]at s2;exact⟨s3,s2⟩
       have ea:a=⟨a.block,a.off,none⟩:=by cases a;simp_all
       rw[ea,<-aj];refine .sl _ rows a.block a.off cap (λi j=>((J0K w a.block (a.off+i*P.cellsOf e+j)).getD default)) (by omega) (λrow hr=>?_) (λi j row p hi hj=>?_) (λi j row p hi hj=>?_)
       ·obtain⟨i,hi⟩:=J8D hr;exact(B i row hi).1.1
       ·obtain⟨v,⟨h3,h4⟩,_⟩:=cell i j row p hi hj;exact⟨h3,by rw[h4];rfl⟩
       ·obtain⟨v,⟨h3,h4⟩,h5⟩:=cell i j row p hi hj;rw[h4];exact h5
      ·have:=(B i0 aa a8).1.1;have:=(J2I.1 ao).1;omega
     ·
      rcases Nat.eq_zero_or_pos len with hz|ab
      ·have:rows=[]:=by cases rows<;>simp_all
       subst this;subst hz;exact .sl0 _ _ _
      ·exfalso;have I:=zQ9 (l:=rows) (i:=0) (by omega);have q:=(B 0 _ I).1.1;exact h0 ⟨0,0,_,_,I,zQ9 (by omega)⟩
  ·rename_i fs C;simp only[J03,decide_eq_true_eq,JBF]at hp;obtain⟨xs,n0,_,_,Q,a7,O⟩:=DataW.trod_struct C h;obtain⟨_,R,a5⟩:=K.struct hp.2 C;have hf: ∀i,i<fs.toList.length-> ∃g:List PV,∀f,fs.toList[i]?=some f->J5K P n f.type g/\JAy w g ((cs.drop f.offset).take (P.cellsOf f.type)):=by
    intro i hi;have hfi:=zQ9 hi;have ac:=zQ5 hfi;have ae:fs[i]?=some (fs.toList[i]):=by rw[<-JFI];exact hfi
    have h1:=O i _ ae;have h2: ∃y,xs[i]?=some y:=⟨_,zQ9 (by simpa[a7]using hi)⟩;obtain⟨y,hy⟩:=h2;rw[hy]at h1;obtain⟨g,q1,q2⟩:=ih _ _ _ _ (hp.1 _ ac) h1;refine⟨g,λf V=>?_⟩;rw[hfi]at V;injection V with V;subst V
    exact⟨q1,q2⟩
   obtain⟨A,W,F⟩:=JlX _ _ hf;have hlen: ∀(j:Nat) (f:Field),fs.toList[j]?=some f-> ∀g:List PV,A[j]?=some g->g.length=P.cellsOf f.type:=by
    intro j f hj g hy;have q:=(F j g hy f hj).2.1;have o:=a5 j f hj;rw[q,J7w,Ji7,Q,R,o];have:((fs.toList.take j).map λf=>P.cellsOf f.type).sum+P.cellsOf f.type<=(fs.toList.map λf=>P.cellsOf f.type).sum:=by
     have e1:fs.toList=fs.toList.take j++(f::fs.toList.drop (j+1)):=by have L:=(J2I.1 hj);obtain⟨L,he⟩:=L;rw[<-he,<-List.drop_eq_getElem_cons L,Joe]
     conv=>rhs;rw[e1]
     simp only[JnB,J1n,List.sum_append,List.sum_cons];omega
    omega
   have J:A.map List.length=fs.toList.map λf=>P.cellsOf f.type:=by
    apply zQ6;intro j;rw[J6X,J6X];cases hy:A[j]? with
    |none=>
     have:fs.toList[j]?=none:=by rw[List.getElem?_eq_none_iff]at hy⊢;omega
     rw[this];rfl
    |some g=>
     have hj:j<fs.toList.length:=by have:=(J2I.1 hy).1;omega
     have G:=zQ9 hj;rw[G];simp only[J3l];rw[hlen j _ G g hy]
   have E: ∀(j:Nat) (f:Field),fs.toList[j]?=some f->((A.take j).map List.length).sum=f.offset:=by intro j f hj;rw[a5 j f hj,JHP,J,<-JHP]
   refine⟨A.flatten,⟨?_,λf hf=>?_⟩,?_,λi p v h1 h2=>?_⟩
   ·rw[JBJ,J,R]
   ·obtain⟨j,hj⟩:=J8D hf;have L:j<A.length:=by have:=(J2I.1 hj).1;omega
    have D:=zQ9 L;have:=Jhy A j _ D;rw[E j f hj,hlen j f hj _ D]at this;rw[this];exact(F j _ D f hj).1
   ·rw[JBJ,J,Q,R]
   ·
    have a4: ∀(l:List (List PV)) (i:Nat) p,l.flatten[i]?=some p-> ∃j g k,l[j]?=some g/\g[k]?=some p/\i=((l.take j).map List.length).sum+k:=by
     intro l
     induction l with
     |nil=>intro i p h;simp at h
     |cons y l N=>
      intro i p h;rw[Jei]at h;rcases zQ3 i y.length with M|Z
      ·rw[Jkf M]at h;exact⟨0,y,i,rfl,h,by simp⟩
      ·rw[Jd3 Z]at h;obtain⟨j,g,k,a1,a2,a3⟩:=N _ _ h;exact⟨j+1,g,k,by simpa using a1,a2,by simp only[JFD,J1n,List.sum_cons];omega⟩
    obtain⟨j,g,k,a1,a2,a3⟩:=a4 _ _ _ h1;have hj:j<fs.toList.length:=by have:=(J2I.1 a1).1;omega
    have G:=zQ9 hj;have q:=(F j g a1 _ G).2;refine q.2 k p v a2 ?_;have hk:k<P.cellsOf (fs.toList[j]).type:=by have:=(J2I.1 a2).1;rw[hlen j _ G g a1]at this;exact this
    rw[List.getElem?_take_of_lt hk,JDZ,<-E j _ G,<-a3];exact h2
  ·rename_i m e C;simp only[J03,decide_eq_true_eq]at hp;obtain⟨xs,n0,_,_,Q,a7,O⟩:=DataW.trod_array C h;obtain⟨_,a0⟩:=K.array hp.2 C;have hf: ∀i,i<m-> ∃g:List PV,J5K P n e g/\JAy w g ((cs.drop (i*P.cellsOf e)).take (P.cellsOf e)):=by intro i hi;have h1:=O i hi;have h2: ∃y,xs[i]?=some y:=⟨_,zQ9 (by omega)⟩;obtain⟨y,hy⟩:=h2;rw[hy]at h1;exact ih _ _ _ _ hp.1 h1
   obtain⟨A,W,F⟩:=JlX _ _ hf;have hlen: ∀(j:Nat) g,A[j]?=some g->g.length=P.cellsOf e:=by
    intro j g hy;have q:=(F j g hy).2.1;have hj:j<m:=by have:=(J2I.1 hy).1;omega
    rw[q,J7w,Ji7,Q,a0];have:j*P.cellsOf e+P.cellsOf e<=m*P.cellsOf e:=by rw[<-Nat.succ_mul];exact zQ4 _ hj
    omega
   have T: ∀y∈A,y.length=P.cellsOf e:=λy hy=>by obtain⟨j,hj⟩:=J8D hy;exact hlen j y hj
   have U: ∀l:List (List PV),(∀y∈l,y.length=P.cellsOf e)->(l.map List.length).sum=l.length*P.cellsOf e:=by
    intro l
    induction l with
    |nil=>intro _;simp
    |cons y l N=>intro hh;simp[hh y (by simp),N (λz hz=>hh z (by simp[hz])),Nat.succ_mul,Nat.add_comm]
   have E: ∀j,j<=m->((A.take j).map List.length).sum=j*P.cellsOf e:=by intro j hj;rw[U _ (λy hy=>T y (JBM hy)),J7w,W,Nat.min_eq_left hj]
   refine⟨A.flatten,⟨?_,λj hj=>?_⟩,?_,λi p v h1 h2=>?_⟩
   ·rw[JBJ,U _ T,W,a0]
   ·have D:=zQ9 (l:=A) (i:=j) (by omega);have:=Jhy A j _ D;rw[E j (by omega),hlen j _ D]at this;rw[this];exact(F j _ D).1
   ·rw[JBJ,U _ T,Q,W,a0]
   ·have a4: ∀(l:List (List PV)) (i:Nat) p,l.flatten[i]?=some p-> ∃j g k,l[j]?=some g/\g[k]?=some p/\i=((l.take j).map List.length).sum+k:=by
     intro l
     induction l with
     |nil=>intro i p h;simp at h
     |cons y l N=>
      intro i p h;rw[Jei]at h;rcases zQ3 i y.length with M|Z
      ·rw[Jkf M]at h;exact⟨0,y,i,rfl,h,by simp⟩
      ·rw[Jd3 Z]at h;obtain⟨j,g,k,a1,a2,a3⟩:=N _ _ h;exact⟨j+1,g,k,by simpa using a1,a2,by simp only[JFD,J1n,List.sum_cons];omega⟩
    obtain⟨j,g,k,a1,a2,a3⟩:=a4 _ _ _ h1;have hj:j<m:=by have:=(J2I.1 a1).1;omega
    have q:=(F j g a1).2;refine q.2 k p v a2 ?_;have hk:k<P.cellsOf e:=by have:=(J2I.1 a2).1;rw[hlen j g a1]at this;exact this
    rw[List.getElem?_take_of_lt hk,JDZ,<-E j (by omega),<-a3];exact h2
  ·cases hp
end
end Go.Am
end
section
namespace Go.Am
open Go.ChangeShapes Go.WideShapes Go.ChangeAt Go.RowKit
def gh0(w:World):Gh:=⟨λ_=>none,λr _=>r<w.heap.size⟩
theorem JmQ(g:Gh)(w:World)(b r o:Nat): ¬Wr1 ⟨[],g,w⟩ b r o:=by simp[Wr1]
theorem JKn(w:World):Inv ⟨[],gh0 w,w⟩ where
 box:=λb cs h=>by simp at h
 arr:=λb wm esz rows h=>by simp at h
 apart:=λb1 b2 r o h=>absurd h (JmQ _ _ _ _ _)
 const:=λr o h=>⟨h,λb=>JmQ _ _ _ _ _⟩
def Jdn(w w':World):Prop:=JcO (λ_ _=>False) w w'
theorem Jdn.kept{w w':World}(h:Jdn w w')(e:MemPlace->Prop):w.keptBut w' e:=by
 obtain⟨h1,h2,h3,h4,h5⟩:=h;refine⟨h4,h5,λi hi=>?_⟩
 grind
theorem Jdn.same{w w':World}(h:Jdn w w'){p:MemPlace}(hp:p.block<w.heap.size):w.sameAt w' p:=by
 obtain⟨h1,h2,h3,h4,h5⟩:=h;cases p with
 |cell b off=>
  have hb:b<w.heap.size:=hp;have g:=JtD hb;show w'.cell? ⟨b,off,none⟩=w.cell? ⟨b,off,none⟩
  grind [J5R,J0K]
 |map b=>
  have hb:b<w.heap.size:=hp;have g:=JtD hb;show w'.heap[b]?=w.heap[b]?;cases hw:w.heap[b]? with
  |none=>simp_all
  |some x=>
   cases x with
   |cells c e fz=>
    obtain⟨c',q1,q2,q3⟩:=h2 b c e fz hw;rw[q1];have:c'=c:=by apply Array.ext_getElem?;simp_all
    rw[this]
   |_=>exact h3 b _ hw (λc e fz he=>by cases he)
theorem Jdn.frozen{w w':World}(h:Jdn w w'){a:Addr}(hp:a.block<w.heap.size):w'.frozen? a=w.frozen? a:=by
 obtain⟨h1,h2,h3,h4,h5⟩:=h
 grind [World.frozen?]
theorem JDc{P:Program}{F:Orc}(n:J5G P F){f:FuncId}{args:List AV}{vals:Array Value}{w:World}(hl:args.length=vals.size)
  (hr: ∀(i:Nat) x v,args[i]?=some x->vals[i]?=some v->JH ⟨[],gh0 w,w⟩ x v) (h:F f args []=some (.p (.b true),[])):
  Calls P f vals w λe w'=>e=.returned (.bool true)/\Jdn w w':=by
 refine((n _ _ _ _ h).2 (gh0 w) w vals (JKn w) hl hr).mono λe w' ⟨v,g',he,_,j,g⟩=>?_;cases g with
 |p _ _ g=>
  cases g with
  |b=>refine⟨he,?_⟩;obtain⟨k1,k2,k,q⟩:=j.keep;refine⟨k1,λr c e fz hr=>?_,k,q⟩;obtain⟨c',q1,q2,q3⟩:=k2 r c e fz hr;exact⟨c',q1,q2,λo _=>q3 o (fun⟨b,hb⟩=>JmQ _ _ _ _ _ hb)⟩
section
variable {H:Type} {enc:TypeId×Value->H} {P:Program}
theorem JgG(hl:laidOutB P=true)(hm:mapsRowed P=true)(g: ∀{t e:TypeId},t<P.types.size->P.underlying t=some (.slice e)->0<P.cellsOf e){W o:World}{sp:Nat->Bool}:
  ∀{ts:List TypeId} {vs:List Value} {j:List (DataW H)} {ps:List MemPlace},(∀t∈ts,t<P.types.size)->DataW.TrodAll enc P W 0 (λ_=>true) true ts vs j ps->
   (∀p∈ps,W.sameAt o p)->(∀p∈ps,sp p.block=true)->DataW.TrodAll enc P o 0 sp true ts vs j ps
 |[],[],[],_,_,h,_,_=>h
 |[],_::_,_,_,_,h,_,_=>h.elim
 |[],[],_::_,_,_,h,_,_=>h.elim
 |_::_,[],_,_,_,h,_,_=>h.elim
 |_::_,_::_,[],_,_,h,_,_=>h.elim
 |t::ts,v::vs,d::j,_,k,⟨p,q,⟨n,h1⟩,h2,rfl⟩,hs,hp=>by refine⟨p,q,⟨n,DataW.trod_stays (kids_rows hl hm) g (λh=>by cases h) (k t (by simp)) h1 (λx hx=>hs x (by simp[hx])) (λx hx=>hp x (by simp[hx]))⟩,?_,rfl⟩;exact JgG hl hm g (λx hx=>k x (by simp[hx])) h2 (λx hx=>hs x (by simp[hx])) (λx hx=>hp x (by simp[hx]))
def Jb8(P:Program):Bool:=(List.range P.types.size).all λt=>match P.underlying t with
 |some (.slice e)=>decide (0<P.cellsOf e)
 |_=>true
theorem JtY(h:Jb8 P=true){t e:TypeId}(g:t<P.types.size)(he:P.underlying t=some (.slice e)):0<P.cellsOf e:=by
 grind [Jb8]
theorem JF2{fn:Func}{s:ChangeSpec}{tb:TypeId}(hl:laidOutB P=true)(hm:mapsRowed P=true)(D:Jb8 P=true)(A: ∀t∈fn.params.toList,t<P.types.size)
  (o:fn.resultTypes= #[tb]) (z:P.underlying tb=some .bool) (e:s.vars=[]) {apart fresh g again:Bool} {W v:World} {args:Array Value} {k C:List (DataW H)} {n:List MemPlace}
  (E:C=[]->s.fn H (k++C)={results:=[.lit (.bool true)],args:=k})
  (B:DataW.Whole enc P fn.params.toList s.vars apart W args.toList k C n) (j:Jdn W v):s.post enc P fn apart fresh g again W args (.bool true) v:=by
 have y:=B;have h:=B.lt;obtain⟨p,q,h1,h2,rfl,hz,hn⟩:=B;rw[e]at h2;obtain⟨rfl,rfl⟩:=trodVars_none h2;rw[JbA]at y h hz hn;have hf:=E rfl;have r: ∀sp:Nat->Bool,(∀x∈p,sp x.block=true)->DataW.TrodAll enc P v 0 sp true fn.params.toList args.toList k p:=λsp hp=>
  JgG hl hm (λF he=>JtY D F he) A h1 (λx hx=>j.same (h x hx)) hp
 have hr: ∀(b:Nat) (sp:Nat->Bool) (hd:Bool),DataW.TrodAll enc P v b sp hd fn.resultTypes.toList ((Value.bool true).resultList fn.resultTypes.size) [.lit (.bool true)] []:=by intro b sp hd;rw[o];exact trodAll_cons_mk (shut_bool z _) trodAll_mk0
 refine⟨k,[],p,[],p,[],y,?_,?_,?_,j.kept _,λ_=>⟨?_,?_⟩⟩
 ·grind
 ·simp_all
 ·rw[hf,e];rfl
 ·exact ok_one o rfl (okWide_bool_mk z _)
 ·refine⟨_,[],[]++p,⟨[]++p,[],trodAll_append (r _ (λ_ _=>rfl)) (hr _ _ _),by rw[e];rfl,by simp,λb off hp=>?_,λha=>by simp_all⟩,λx hx _=>by simpa using hx⟩;have w:MemPlace.cell b off∈p:=by simpa using hp
  rw[j.frozen (a:=⟨b,off,none⟩) (h _ w)];exact hz b off w
def JzK(P:Program)(t:TypeId)(pvs:List PV):AV:=match P.underlying t with
 |some (.struct _)=>.data pvs
 |some (.array _ _)=>.data pvs
 |_=>match pvs with
  |[c]=>.p c
  |_=>.unk
theorem JyY(hl:laidOutB P=true)(hm:mapsRowed P=true){n:Nat}{t:TypeId}{w:World}{r:Reach}{base:Nat}{sp:Nat->Bool}{v:Value}{d:DataW H}{ps:List MemPlace}(hp:J9V P n t=true)
  (hv:Value.okWide P w r base t v) (h:DataW.Trod enc P w 0 sp true t v d ps): ∃pvs,J5K P n t pvs/\JH ⟨[],gh0 w,w⟩ (JzK P t pvs) v:=by
 obtain⟨j,h⟩:=h;obtain⟨pvs,q1,q2,q3⟩:=JGF hl hm n t _ _ j hp h;refine⟨pvs,q1,?_⟩;cases n with
 |zero=>grind [J9V]
 |succ n=>
  unfold J9V at hp;unfold Value.okWide at hv;unfold JzK;have one: ∀{c:PV},pvs=[c]->(∀cs,v≠.agg cs)->JH ⟨[],gh0 w,w⟩ (.p c) v:=by intro c hc o;subst hc;refine .p _ _ (q3 0 c v rfl ?_);cases v<;>first|rfl|simp_all
  unfold J5K at q1;split at hp
  ·rename_i g;rw[g]at q1 hv⊢;obtain⟨b,rfl⟩:=q1;exact one rfl (λcs he=>by simp_all [Cell.okWide,Cell.ok])
  ·rename_i k g;rw[g]at q1 hv⊢;obtain⟨z,rfl,_⟩:=q1;exact one rfl (λcs he=>by simp_all [Cell.okWide,Cell.ok])
  ·rename_i g;rw[g]at q1 hv⊢;obtain⟨z,rfl,_⟩:=q1;exact one rfl (λcs he=>by simp_all [Cell.okWide,Cell.ok])
  ·rename_i e g;rw[g]at q1 hv⊢;obtain⟨rows,rfl,_⟩:=q1;exact one rfl (λcs he=>by simp_all [Cell.okWide,Cell.ok])
  ·rename_i fs g;rw[g]at hv⊢;obtain⟨cs,rfl,_⟩:=hv;exact .data _ _ (by simp_all) (λi x v h1 h2=>q3 i x v h1 (by grind [Value.cells]))
  ·rename_i m e g;rw[g]at hv⊢;obtain⟨cs,rfl,_⟩:=hv;exact .data _ _ (by simp_all) (λi x v h1 h2=>q3 i x v h1 (by grind [Value.cells]))
  ·cases hp
end
end Go.Am
end
section
namespace Go.Am
section
variable (P:Program) {α β:Type}
def Rd(n:Nat)(t:TypeId)(r:α->List PV)(Q:α->Prop):Prop:= ∀pvs,J5K P n t pvs-> ∃x,pvs=r x/\Q x
def fieldsOf(t:TypeId):Option (List (TypeId×Nat)):=match P.underlying t with
 |some (.struct fs)=>some (fs.toList.map λf=>(f.type,f.offset))
 |_=>none
variable {P}
theorem JHF{n:Nat}{t:TypeId}{k:IntKind}(e:P.underlying t=some (.int k)):Rd P (n+1) t (r_i k) λz=>k.min<=z/\z<=k.max:=by
 intro pvs h;unfold J5K at h;rw[e]at h;obtain⟨z,rfl,hz⟩:=h;refine⟨z,rfl,?_⟩
 grind [Lit.wf]
theorem Rd.mono{n:Nat}{t:TypeId}{r:α->List PV}{Q g:α->Prop}(h:Rd P n t r Q)(hq: ∀x,Q x->g x):Rd P n t r g:=λpvs hp=>by
 obtain⟨x,e,q⟩:=h pvs hp
 grind
theorem JHi{n:Nat}{t:TypeId}(e:P.underlying t=some .bool):Rd P (n+1) t r_b λ_=>True:=by intro pvs h;unfold J5K at h;rw[e]at h;obtain⟨z,rfl⟩:=h;exact⟨z,rfl,trivial⟩
theorem JIn{n:Nat}{t:TypeId}(e:P.underlying t=some .string):Rd P (n+1) t r_s λl=>l.length<=maxLen:=by intro pvs h;unfold J5K at h;rw[e]at h;obtain⟨z,rfl,hz⟩:=h;exact⟨z,rfl,hz⟩
theorem JFN{n:Nat}{t e:TypeId}{r:α->List PV}{Q:α->Prop}{k:Nat}(o:P.underlying t=some (.slice e))(hk:P.cellsOf e=k)(he:Rd P n e r Q):
  Rd P (n+1) t (JKz k r) λl=>l.length<=maxLen/\ ∀x∈l,Q x:=by
 intro pvs h;unfold J5K at h;rw[o]at h;obtain⟨rows,rfl,hl,hr⟩:=h;have g: ∀rows:List (List PV),(∀row∈rows,row.length=P.cellsOf e/\J5K P n e row)-> ∃l:List α,rows=l.map r/\ ∀x∈l,Q x:=by
  intro rows
  induction rows with
  |nil=>simp_all
  |cons row rows ih=>
   intro j;obtain⟨l,rfl,hl⟩:=ih (λr hr=>j r (by simp[hr]));obtain⟨x,rfl,hx⟩:=he row (j row (by simp)).2;refine⟨x::l,rfl,λy hy=>?_⟩
   grind
 obtain⟨l,rfl,hq⟩:=g rows hr;exact⟨l,by rw[hk];rfl,by simpa using hl,hq⟩
theorem JEa{n m:Nat}{t e:TypeId}{r:α->List PV}{Q:α->Prop}{k:Nat}(j:P.underlying t=some (.array m e))(hk:P.cellsOf e=k)(hm:P.cellsOf t=m*k)(he:Rd P n e r Q):
  Rd P (n+1) t (Jcl (n:=m) r) λv=> ∀(i:Nat) (h:i<m),Q v[i]:=by
 intro pvs h;unfold J5K at h;rw[j]at h;obtain⟨hl,hr⟩:=h;rw[hm]at hl;have g: ∀(m:Nat) (pvs:List PV),pvs.length=m*k->(∀i,i<m->J5K P n e ((pvs.drop (i*k)).take k))-> ∃l:List α,l.length=m/\pvs=(l.map r).flatten/\ ∀(i:Nat) (h:i<l.length),Q l[i]:=by
  intro m
  induction m with
  |zero=>simp_all
  |succ m ih=>
   intro pvs h o;rw[Nat.succ_mul]at h;obtain⟨l,h1,h2,h3⟩:=ih (pvs.drop k) (by simp_all) (λi hi=>by
    grind [List.drop_drop,Nat.succ_mul])
   obtain⟨x,e1,hx⟩:=he _ (o 0 (by omega));rw[Nat.zero_mul,Jvr]at e1;refine⟨x::l,by simp[h1],?_,λi hi=>?_⟩
   all_goals grind [List.take_append_drop]
 obtain⟨l,h1,h2,h3⟩:=g m pvs hl (λi hi=>by simp_all);refine⟨⟨l.toArray,by simpa using h1⟩,?_,λi hi=>?_⟩
 ·rw[h2];rfl
 simp_all
theorem JD5{m n:Nat}{t:TypeId}{e:List (TypeId×Nat)}{pvs:List PV}(hm:m=n+1)(g:fieldsOf P t=some e)(h:J5K P m t pvs):
  pvs.length=P.cellsOf t/\ ∀x∈e,J5K P n x.1 ((pvs.drop x.2).take (P.cellsOf x.1)):=by
 grind [J5K,fieldsOf]
end
end Go.Am
end
section
namespace Go.Am
section
variable (P:Program)
def Jcx(p:Ty->TypeId->Bool):Nat->List (TypeId×Nat)->Ty->Bool
 |_,[],.u=>true
 |_,[],_=>false
 |o,[f],a=>decide (f.2=o)&&p a f.1&&decide (P.cellsOf f.1=a.sz)
 |o,f::g::r,.pr a c=>decide (f.2=o)&&p a f.1&&decide (P.cellsOf f.1=a.sz)&&Jcx p (o+a.sz) (g::r) c
 |_,_::_::_,_=>false
def Jk0:Nat->Ty->TypeId->Bool
 |0,_,_=>false
 |n+1,ty,t=>match fieldsOf P t with
  |some fs=>Jcx P (Jk0 n) 0 fs ty&&decide (P.cellsOf t=ty.sz)
  |none=>match P.underlying t,ty with
   |some .bool,.b=>true
   |some (.int k),.i k'=>decide (k=k')
   |some .string,.s=>true
   |some (.slice e),.l a=>Jk0 n a e&&decide (P.cellsOf e=a.sz)
   |some (.array m e),.ar g a=>decide (m=g)&&Jk0 n a e&&decide (P.cellsOf e=a.sz)&&decide (P.cellsOf t=m*a.sz)
   |_,_=>false
def Ty.inR:(t:Ty)->t.D->Prop
 | .b,_=>True
 | .i k,z=>k.min<=z/\z<=k.max
 | .s,z=>List.length z<=maxLen
 | .l t,z=>List.length z<=maxLen/\ ∀x∈(z:List t.D),t.inR x
 | .pr a c,x=>a.inR x.1/\c.inR x.2
 | .ar n t,v=> ∀(i:Nat) (h:i<n),t.inR ((v:Vector t.D n)[i])
 | .u,_=>True
 | .f,_=>True
end
section
variable {P:Program}
theorem Jz8{n:Nat}(ih: ∀ty t,Jk0 P n ty t=true->Rd P n t (cel ty) ty.inR): ∀(o:Nat) (fs:List (TypeId×Nat)) (ty:Ty) (pvs:List PV),Jcx P (Jk0 P n) o fs ty=true->
  (∀x∈fs,J5K P n x.1 ((pvs.drop x.2).take (P.cellsOf x.1)))-> ∃x:ty.D,(pvs.drop o).take ty.sz=cel ty x/\ty.inR x
 |o,[],ty,pvs,h,_=>by
  cases ty with
  |u=>exact⟨(),by simp[Ty.sz,cel],trivial⟩
  |_=>grind [Jcx]
 |o,[f],ty,pvs,h,hf=>by
  simp only[Jcx,J03,decide_eq_true_eq]at h;obtain⟨⟨h1,h2⟩,h3⟩:=h;have:=hf f (by simp);rw[h1,h3]at this;obtain⟨x,e,q⟩:=ih ty f.1 h2 _ this
  grind
 |o,f::g::r,ty,pvs,h,hf=>by
  cases ty with
  |pr a c=>
   simp only[Jcx,J03,decide_eq_true_eq]at h;obtain⟨⟨⟨h1,h2⟩,h3⟩,h4⟩:=h;have:=hf f (by simp);rw[h1,h3]at this;obtain⟨x,e,q⟩:=ih a f.1 h2 _ this;obtain⟨y,e',q'⟩:=Jz8 ih (o+a.sz) (g::r) c pvs h4 (λz hz=>hf z (by simp_all));refine⟨(x,y),?_,q,q'⟩
   grind [cel,Ty.sz,List.drop_drop]
  |_=>grind [Jcx]
theorem rdT: ∀(n:Nat) (ty:Ty) (t:TypeId),Jk0 P n ty t=true->Rd P n t (cel ty) ty.inR
 |0,_,_,h=>by cases h
 |n+1,ty,t,h=>by
  unfold Jk0 at h;split at h
  ·rename_i fs j;simp only[J03,decide_eq_true_eq]at h;intro pvs hp;obtain⟨hl,hf⟩:=JD5 rfl j hp;obtain⟨x,e,q⟩:=Jz8 (rdT n) 0 fs ty pvs h.1 hf
   grind
  ·split at h
   ·rename_i g;exact JHi g
   ·rename_i k k' g;simp only[decide_eq_true_eq]at h;subst h;exact JHF g
   ·rename_i g;exact JIn g
   ·rename_i e a g;simp only[J03,decide_eq_true_eq]at h;exact JFN g h.2 (rdT n a e h.1)
   ·rename_i m e o a g;simp only[J03,decide_eq_true_eq]at h;obtain⟨⟨⟨h1,h2⟩,h3⟩,h4⟩:=h;subst h1;exact JEa g h3 h4 (rdT n a e h2)
   ·cases h
def JCr(P:Program)(t:TypeId):Bool:=match P.underlying t with
 |some (.struct _)=>true
 |some (.array _ _)=>true
 |_=>false
def JE7(agg:Bool)(t:Ty)(x:t.D):TA:=if agg=true then .dt t x else .c (.d t x)
theorem JC5(L:Nat->Nat){t:TypeId}{ty:Ty}{agg:Bool}(ha:JCr P t=agg)(h1:agg=false->ty.sz=1)(x:ty.D):JzK P t (cel ty x)=J1r L (JE7 agg ty x):=by
 unfold JzK JCr at*;generalize P.underlying t=u at ha⊢;rcases u with _|d
 ·subst ha;dsimp only;rw[Ju8 (h1 rfl) x];rfl
 ·cases d<;>first
  |(subst ha;rfl)
  |(subst ha;dsimp only;rw[Ju8 (h1 rfl) x];rfl)
theorem JIv{F:Orc}{f:FuncId}{g:Sig}{S:(tyL g.ti).D->Option (tyL g.to).D}{xs:List TA}{x:(tyL g.ti).D}{y:(tyL g.to).D}(he:EOk F (sigE f g S))(hx:Jnn g xs []=some x)(e:S x=some y)
  (hv:JsI g y=some (.a (.c (.d .b true)),[])):F f (xs.map (J1r (lns []))) []=some (.p (.b true),[]):=by
 have h:(sigE f g S).go xs [] (λv out=>some (v,out))=some (TV.a (.c (.d .b true)),([]:List (Bool×TB))):=by simp only[sigE,hx,e,J06,hv];cases g.same<;>rfl
 obtain⟨v,out,h1,_,h3⟩:=he.ok h;injection h3 with h3;injection h3 with h4 h5;subst h4 h5;exact h1
end
end Go.Am
end
section
namespace Go.Am
set_option linter.unusedVariables false
set_option maxRecDepth 20000
set_option maxHeartbeats 1000000
section
variable {B S:Int}
def EF(e:J2):Prop:=1<=e.1/\e.1<=1099511627776/\1<=e.2.2.1/\e.2.2.1<=1073741824/\0<=e.2.2.2.1/\e.2.2.2.1<e.1/\0<=e.2.2.2.2.1/\e.2.2.2.2.1<e.1/\0<=e.2.2.2.2.2.1/\e.2.2.2.2.2.1<e.1/\e.2.2.2.2.2.2.2=[]/\J1e e.2.2.2.2.2.2.1=some true/\((e.2.1=1/\e.2.2.2.2.2.1=0)\/(e.2.1=2/\0<e.2.2.2.1/\1<=e.2.2.2.2.2.1/\e.2.2.2.2.2.1<=e.2.2.2.1))
theorem Jdw{x:JK}(e:J1N x=some true):0<=x.1/\x.1<x.2:=by
 have g:Par (J1N x) λy=>y=true->0<=x.1/\x.1<x.2:=by unfold J1N;exact .ge (λc=>.some λd=>⟨c,J4v.1 d⟩) λ_=>.some nofun
 exact g _ e rfl
theorem EF.of{e:J2}(h:Jx e=some true)(hk:e.2.1=1\/e.2.1=2):EF e:=by
 have k1:Par (J27 e) λy=>y.2=true->y.1=e->1<=e.2.2.1/\e.2.2.1<=1073741824/\e.2.2.2.2.2.2.2=[]/\J1e e.2.2.2.2.2.2.1=some true/\((e.2.1=1/\e.2.2.2.2.2.1=0)\/(e.2.1=2/\0<e.2.2.2.1/\1<=e.2.2.2.2.2.1/\e.2.2.2.2.2.1<=e.2.2.2.1)):=by
  unfold J27;refine .eq (λk=>.bind λG h2=>.eq (λg=>by omega) λ_=>.ite (λj=>.ge (λc3=>.some λn he=>?_) λ_=>.some nofun) λ_=>.some nofun) λk=>.eq (λg=>.bind λG h2=>.eq (λ_=>.ite (λj=>.gt (λJ=>.ge (λK=>.le (λI=>.ge (λc3=>.some λn he=>?_) λ_=>.some nofun) λ_=>.some nofun) λ_=>.some nofun) λ_=>.some nofun) λ_=>.some nofun) λc=>absurd g c) λg=>by omega
  ·grind [J1O]
  grind [J1O]
 have o:Par (Jx e) λy=>y=true->EF e:=by unfold Jx;refine .bind λa ha=>.ite (λk=>.ite (λg=>.ge (λc3=>.le (λn=>.bind λb1 r=>.ite (λD=>.bind λb2 q=>.ite (λj=>.bind λH v=>.some λA=>?_) λ_=>.some nofun) λ_=>.some nofun) λ_=>.some nofun) λ_=>.some nofun) λ_=>.some nofun) λ_=>.some nofun;subst D;subst j;subst A;obtain⟨a1,a2,a3,a4,E⟩:=k1 _ ha k (J1J.1 g);obtain⟨F,B⟩:=Jdw r;obtain⟨w,z⟩:=Jdw q;obtain⟨x,C⟩:=Jdw v;exact⟨c3,n,a1,a2,F,B,w,z,x,C,a3,a4,E⟩
 exact o _ h rfl
theorem JpG{c:J1k}(h:J0l c=some true):Tot (J3A c) λy=>y=true:=by have e:J3A c=J0l c:=rfl;exact⟨true,e.trans h,rfl⟩
theorem Jj6{c:T_api_Change}(h:J1e c=some true):Tot (J48 c) λy=>y=true:=by
 have j:Par (J1e c) λy=>y=true->0<=c.1/\c.1<64/\0<=c.2.1/\c.2.1<16/\J0l c.2.2.1=some true/\J0l c.2.2.2=some true:=by unfold J1e;refine .ge (λe=>.lt (λg=>.ge (λc3=>.lt (λk=>.bind λa ha=>.ite (λx=>.bind λb hb=>.some λr=>?_) λ_=>.some nofun) λ_=>.some nofun) λ_=>.some nofun) λ_=>.some nofun) λ_=>.some nofun;simp_all
 obtain⟨e,g,c3,k,n,q⟩:=j _ h rfl;unfold J48;have hp:Tot (J5a c.1) λy=>y=true:=by unfold J5a;exact .ge (λ_=>.some (J4v.2 g)) λc=>absurd e c
 refine .bind hp λA d=>.ite (λ_=>.ge (λ_=>.lt (λ_=>.bind (JpG n) λw v=>.ite (λ_=>.bind (JpG q) λz o=>.some o) λc=>by simp_all) λc=>absurd k c) λc=>absurd c3 c) λc=>by simp_all
theorem JAs{e:J2}(h:EF e):Tot (J5M e) λy=>y=true:=by
 obtain⟨a1,a2,a3,a4,w,B,v,r,a9,k,g,q,C⟩:=h;have j: ∀{n:Int},0<=n->n<e.1->Tot (J3z (n,e)) λy=>y=true:=fun{n} h1 h2=>by unfold J3z;exact .ge (λ_=>.some (J4v.2 h2)) λc=>absurd h1 c
 have G: ∀{b:Bool} {Q:Prop},b=true->Js b=true->Q:=fun{b Q} h1 h2=>by subst h1;cases h2
 have hb:neS e.2.2.2.2.2.2.2 []=false:=by rw[g];rfl
 have hl:J0 e.2.2.2.2.2.2.2<=8192:=by rw[g];decide
 unfold J5M;refine .ltf (λ_=>.gtf (λ_=>.ltf (λ_=>.gtf (λ_=>.bind (j w B) λH D=>.nof (λ_=>.bind (j v r) λF E=>.nof (λ_=>.bind (j a9 k) λA o=>.not (λc=>by simp_all) λ_=>?_) λc=>by simp_all) λc=>by simp_all) λc=>by omega) λc=>by omega) λc=>by omega) λc=>by omega
 refine .eq (λc=>by omega) λ_=>.eq (λc=>by omega) λ_=>.eq (λc=>by omega) λ_=>.eq (λc=>by omega) λ_=>.eq (λc=>by omega) λ_=>.eq (λc=>by omega) λ_=>.eq (λz=>?_) λz=>.eq (λx=>?_) λx=>by omega
 ·refine .ltf (λ_=>.gt (λc=>by omega) λ_=>.eq (λc=>by omega) λ_=>.ite (λc=>by simp_all) λ_=>.le (λ_=>?_) λc=>absurd hl c) λc=>by omega
  have hr:Tot (J45 e) λy=>y=true:=by unfold J45;exact .ge (λ_=>.some (J1O.2 (by omega))) λc=>by omega
  exact .bind hr λy d=>.ite (λ_=>.bind (Jj6 q) λA o=>.some o) λc=>by simp_all
 ·refine .ltf (λ_=>.gt (λc=>by omega) λ_=>.ne (λc=>by omega) λ_=>.ite (λc=>by simp_all) λ_=>.le (λ_=>?_) λc=>absurd hl c) λc=>by omega
  grind [J1Y,Jj6]
def pgE(e:J2):Int:=e.2.2.2.2.2.2.1.1
def J7B(r:JU):Prop:=1<=r.1/\r.1<=r.2.1/\r.2.1<=1099511627776/\0<=r.2.2.1/\r.2.2.1<=r.2.2.2.1/\r.2.2.2.1<64/\0<=r.2.2.2.2.1/\r.2.2.2.2.1<=8
def JlJ(r:JU)(e:J2):Prop:=Jx e=some true/\(e.2.1=1\/e.2.1=2)/\r.1<=e.1/\e.1<=r.2.1/\r.2.2.1<=pgE e/\pgE e<=r.2.2.2.1
def J6a(f:Int)(a b:J2):Prop:=(pgE a<pgE b/\b.2.2.2.2.1<f)\/(pgE a=pgE b/\a.1<b.1/\b.2.2.2.2.1=a.1)
def J4Z(r:JU):Prop:=J7B r/\J0 r.2.2.2.2.2<=4096/\(∀(j:Nat) (e:J2),r.2.2.2.2.2[j]?=some e->JlJ r e)/\(∀e,r.2.2.2.2.2[0]?=some e->e.2.2.2.2.1<r.1)/\ ∀(j:Nat) (a b:J2),r.2.2.2.2.2[j]?=some a->r.2.2.2.2.2[j+1]?=some b->J6a r.1 a b
theorem J7B.of{r:JU}(h:J2k (r.1,r.2.1,r.2.2.1,r.2.2.2.1,r.2.2.2.2.1)=some true):J7B r:=by
 have e:Par (J2k (r.1,r.2.1,r.2.2.1,r.2.2.2.1,r.2.2.2.2.1)) λy=>y=true->J7B r:=by unfold J2k;exact .ge (λv=>.le (λg=>.le (λc3=>.ge (λq=>.le (λn=>.lt (λo=>.ge (λj=>.some λk=>⟨v,g,c3,q,n,o,j,J1O.1 k⟩) λ_=>.some nofun) λ_=>.some nofun) λ_=>.some nofun) λ_=>.some nofun) λ_=>.some nofun) λ_=>.some nofun) λ_=>.some nofun
 exact e _ h rfl
theorem JAF{e:J2}(h:Jz e=some true):e.2.1=1\/e.2.1=2:=by
 grind [Jz,J59]
theorem Jhq{e:J2}(h:e.2.1=1\/e.2.1=2):Tot (Jz e) λy=>y=true:=by unfold Jz;exact .eqf (λc=>.some (J59.2 (by omega))) λ_=>.some rfl
theorem JpP{e:J2}(h:e.2.1=1\/e.2.1=2):Tot (J5Z e) λy=>y=true:=Jhq h
theorem Jl6{a b:J2}{y:Int}(h:J12 (a,b)=some y)(c: ¬0<=y):pgE a<pgE b\/(pgE a=pgE b/\a.1<b.1):=by
 have e:Par (J12 (a,b)) λy=> ¬0<=y->pgE a<pgE b\/(pgE a=pgE b/\a.1<b.1):=by unfold J12;exact .ltf (λ_=>.eq (λj=>.lt (λg=>.some λ_=>.inr ⟨j,g⟩) λ_=>.eq (λ_=>.eq (λ_=>.some λc=>absurd (J0C 0) c) λ_=>.some λc=>absurd (by decide) c) λ_=>.some λc=>absurd (by decide) c) λ_=>.eq (λ_=>.eq (λ_=>.some λc=>absurd (J0C 0) c) λ_=>.some λc=>absurd (by decide) c) λ_=>.some λc=>absurd (by decide) c) λc=>.some λ_=>.inl c
 exact e _ h c
theorem Jxi{a b:J2}(h:pgE a<pgE b\/(pgE a=pgE b/\a.1<b.1)):Tot (J12 (a,b)) λy=> ¬0<=y:=by unfold pgE at h;unfold J12;exact .ltf (λc=>.eq (λe=>.lt (λg=>.some (by decide)) λc3=>by simp_all) λe=>by simp_all) λc=>.some (by decide)
theorem J4Z.of{r:JU}(h:J2x r=some true):J4Z r:=by
 have D:Par (J2x r) λy=>y=true->J4Z r:=by
  unfold J2x;refine .bind λa ha=>.nof (λJ=>.gt (λ_=>.some nofun) λK=>?_) λ_=>.some nofun;subst J;refine .while (λz=>z.2=r/\0<=z.1/\(∀(j:Nat) (e:J2),(j:Int)<z.1->r.2.2.2.2.2[j]?=some e->JlJ r e)/\(∀e,0<z.1->r.2.2.2.2.2[0]?=some e->e.2.2.2.2.1<r.1)/\ ∀(j:Nat) (a b:J2),(j:Int)+1<z.1->r.2.2.2.2.2[j]?=some a->r.2.2.2.2.2[j+1]?=some b->J6a r.1 a b) ⟨rfl,J0C _,λj e h=>by grind,λe h=>by simp_all,λj a b h=>by grind⟩ ?_;rintro⟨i,z⟩ ⟨rfl,G,h1,h2,h3⟩
  (try dsimp only at G h1 h2 h3 K)
  unfold J7N;dsimp only;have S:=Jb i 1;have R:=J0o i 1;refine .lt (λc=>?_) λc=>.some λ_=>⟨J7B.of ha,by omega,λj e he=>h1 j e (by have:=J4R he;omega) he,λe he=>h2 e (by have:=J4R he;omega) he,λj a b C x=>h3 j a b (by have:=J4R x;omega) C x⟩;refine .bind λe he=>.bind λb hb=>.nof (λc3=>.bind λd hd=>.nof (λI=>.ltf (λT=>.gtf (λW=>.ltf (λP=>.gt (λ_=>.some nofun) λO=>?_) λ_=>.some nofun) λ_=>.some nofun) λ_=>.some nofun) λ_=>.some nofun) λ_=>.some nofun;subst c3;subst I;obtain⟨_,M⟩:=J0G he;have H:JlJ z e:=⟨hb,JAF hd,by omega,by omega,by grind [pgE],by grind [pgE]⟩;have A:(i=0->e.2.2.2.2.1<z.1)->(∀a,0<i->z.2.2.2.2.2[(i-1).toNat]?=some a->J6a z.1 a e)->(z=z/\0<=J1 .i64 i 1/\(∀(j:Nat) (e:J2),(j:Int)<J1 .i64 i 1->z.2.2.2.2.2[j]?=some e->JlJ z e)/\(∀e,0<J1 .i64 i 1->z.2.2.2.2.2[0]?=some e->e.2.2.2.2.1<z.1)/\ ∀(j:Nat) (a b:J2),(j:Int)+1<J1 .i64 i 1->z.2.2.2.2.2[j]?=some a->z.2.2.2.2.2[j+1]?=some b->J6a z.1 a b):=by
   intro V Y;refine⟨rfl,by omega,λj f hj hf=>?_,λf hp hf=>?_,λj a b hj ha hb=>?_⟩
   ·by_cases hl:(j:Int)<i
    ·grind
    ·have:j=i.toNat:=by omega
     grind
   ·by_cases hi:0<i
    ·grind
    ·have F:i=0:=by omega
     subst F
     grind
   ·by_cases hl:(j:Int)+1<i
    ·grind
    ·have e1:j+1=i.toNat:=by omega
     have e2:j=(i-1).toNat:=by omega
     grind
  have o: ∀{a:J2},0<i->idx z.2.2.2.2.2 (JI .i64 i 1)=some a->z.2.2.2.2.2[(i-1).toNat]?=some a:=fun{a} hi ha=>by obtain⟨_,q⟩:=J0G ha;rw[show(i-1).toNat=(JI .i64 i 1).toNat by omega];exact q
  have zero: ¬0<i-> ¬z.1<=e.2.2.2.2.1->(z=z/\0<=J1 .i64 i 1/\(∀(j:Nat) (e:J2),(j:Int)<J1 .i64 i 1->z.2.2.2.2.2[j]?=some e->JlJ z e)/\(∀e,0<J1 .i64 i 1->z.2.2.2.2.2[0]?=some e->e.2.2.2.2.1<z.1)/\ ∀(j:Nat) (a b:J2),(j:Int)+1<J1 .i64 i 1->z.2.2.2.2.2[j]?=some a->z.2.2.2.2.2[j+1]?=some b->J6a z.1 a b):=λhi hf=>A (λ_=>by omega) λa h=>absurd h hi;refine .gt (λn=>.bind λN w=>.bind λQ E=>.ge (λ_=>.some nofun) λB=>.gt (λ_=>.bind λU g=>.eq (λv=>.bind λL h10=>.ne (λ_=>.some nofun) λk=>.some ?_) λv=>.ge (λ_=>.some nofun) λk=>.some ?_) λc=>absurd n c) λn=>.gt (λc=>absurd c n) λ_=>.ge (λ_=>.some nofun) λk=>.some (zero n k)
  ·rw[w]at g h10;injection g with g;injection h10 with h10;subst g;subst h10;refine A (λh=>by omega) λa _ ha=>?_;rw[o n w]at ha;injection ha with ha;subst ha
   rcases Jl6 E B with q|⟨q1,q2⟩
   ·grind [pgE]
   ·exact .inr ⟨v,q2,k⟩
  ·rw[w]at g;injection g with g;subst g;refine A (λh=>by omega) λa _ ha=>?_;rw[o n w]at ha;injection ha with ha;subst ha
   rcases Jl6 E B with q|⟨q1,q2⟩
   ·exact .inl ⟨q,by omega⟩
   ·exact absurd q1 v
 exact D _ h rfl
end
section
variable {B S:Int}
theorem JcK{α:Type}{l:List α}{i:Int}(e:0<=i)(h1:i<J0 l): ∃a,idx l i=some a/\l[i.toNat]?=some a:=by simp_all [J0,idx]
theorem JhY{r:JU}(h:J7B r):Tot (J2k (r.1,r.2.1,r.2.2.1,r.2.2.2.1,r.2.2.2.2.1)) λy=>y=true:=by obtain⟨h1,h2,h3,h4,h5,e,j,g⟩:=h;unfold J2k;exact .ge (λ_=>.le (λ_=>.le (λ_=>.ge (λ_=>.le (λ_=>.lt (λ_=>.ge (λ_=>.some (J1O.2 g)) λc=>absurd j c) λc=>absurd e c) λc=>absurd h5 c) λc=>absurd h4 c) λc=>absurd h3 c) λc=>absurd h2 c) λc=>absurd h1 c
theorem Jsh{r:JU}(h:J7B r):Tot (J4t r) λy=>y=true:=by obtain⟨h1,h2,h3,h4,h5,e,j,g⟩:=h;unfold J4t;exact .ge (λ_=>.le (λ_=>.le (λ_=>.ge (λ_=>.le (λ_=>.lt (λ_=>.ge (λ_=>.some (J1O.2 g)) λc=>absurd j c) λc=>absurd e c) λc=>absurd h5 c) λc=>absurd h4 c) λc=>absurd h3 c) λc=>absurd h2 c) λc=>absurd h1 c
theorem J0e{α:Type}{o:Option α}{v:α}(h:o=some v):Tot o λy=>y=v:=⟨v,h,rfl⟩
theorem Jpq{r:JU}(h:J4Z r){i:Int}(hi:0<i)(hl:i<J0 r.2.2.2.2.2){a b:J2}(ha:r.2.2.2.2.2[(i-1).toNat]?=some a)(hb:r.2.2.2.2.2[i.toNat]?=some b):J6a r.1 a b:=
 h.2.2.2.2 (i-1).toNat a b ha (by rw[show(i-1).toNat+1=i.toNat by omega];exact hb)
theorem JkG{r:JU}(h:J4Z r):J2x r=some true:=by
 have n:Tot (J2x r) λy=>y=true:=by
  obtain⟨g1,g2,K,U,Z⟩:=id h;unfold J2x;refine .bind (JhY g1) λy2 N=>.nof (λ_=>.gt (λc=>by omega) λ_=>?_) λc=>by grind
  refine Jf (τ:=Int) (λq=>(q,r)) (λq=>0<=q/\q<=J0 r.2.2.2.2.2) (λq=>J0 r.2.2.2.2.2-q) ?_ 0 rfl ⟨J0C _,J4⟩;rintro i ⟨D,h1⟩;unfold J7N;dsimp only;have T:=Jb i 1;have R:=J0o i 1;refine .lt (λc=>?_) λc=>.some rfl;obtain⟨e,he,j⟩:=JcK D c;obtain⟨F,B,M,O,z,C⟩:=K _ e j;have k: ∃c':Int,((J1 .i64 i 1,r):Int×JU)=(c',r)/\(0<=c'/\c'<=J0 r.2.2.2.2.2)/\J0 r.2.2.2.2.2-c'<J0 r.2.2.2.2.2-i/\0<=J0 r.2.2.2.2.2-i:=⟨J1 .i64 i 1,rfl,⟨by omega,by omega⟩,by omega,by omega⟩;unfold pgE at z C;refine .bind (J0e he) λH J=>?_;subst J;refine .bind (J0e F) λS W=>.nof (λ_=>.bind (Jhq B) λV Q=>.nof (λ_=>.ltf (λ_=>.gtf (λ_=>.ltf (λ_=>.gt (λc=>by omega) λ_=>?_) λc=>by omega) λc=>by omega) λc=>by omega) λc=>by grind) λc=>by grind
  refine .gt (λg=>?_) λg=>.gt (λc=>absurd c g) λ_=>.ge (λc=>?_) λ_=>.some k
  ·have e1:JI .i64 i 1=i-1:=by omega
   rw[e1];obtain⟨a,ha,v⟩:=JcK (l:=r.2.2.2.2.2) (i:=i-1) (by omega) (by omega);have w:=Jpq h g c v j;refine .bind (J0e ha) λA E=>?_;subst E;refine .bind (Jxi (a:=A) (b:=H) (by rcases w with⟨q,_⟩|⟨q1,q2,_⟩;all_goals grind)) λP I=>.ge (λc=>absurd c I) λ_=>.gt (λ_=>.bind (J0e ha) λY G=>?_) λc=>absurd g c;subst G;unfold J6a pgE at w;refine .eq (λo=>.bind (J0e ha) λL x=>?_) λo=>.ge (λc=>by omega) λ_=>.some k;subst x;exact .ne (λc=>by omega) λ_=>.some k
  grind
 obtain⟨y,e,d⟩:=n;rw[e,d]
theorem Jwj{a b:J2}(h:pgE a=pgE b/\a.1<b.1):Tot (J46 (a,b)) λy=> ¬0<=y:=by
 obtain⟨h1,h2⟩:=h;unfold pgE at h1;have g:J23 (a.2.2.2.2.2.2.1.1,b.2.2.2.2.2.2.1.1)=some 0:=by
  grind [J23,J4s,ltI,gtI]
 have e:J23 (a.1,b.1)=some (-1):=by
  grind [J23,J4s,neI,ltI]
 unfold J46;dsimp only;rw[g,e];show Tot ((J5k [0, -1]).bind _) _;have c3:J5k [0, -1]=some (-1):=by unfold J5k;rw[Jab (s':=(0,[0, -1],J0 ([0, -1]:List Int),1)) (by rfl)];exact J72 (by rfl)
 rw[c3];exact .some (by decide)
theorem J1W{r:JU}(h:J4Z r):J3h r=some true:=by
 have w:Tot (J3h r) λy=>y=true:=by
  obtain⟨g1,g2,L,T,Y⟩:=id h;unfold J3h;refine .bind (Jsh g1) λZ O=>.nof (λ_=>.gt (λc=>by omega) λ_=>?_) λc=>by grind
  refine Jf (τ:=Int) (λq=>(r.2.2.2.2.2,J0 r.2.2.2.2.2,q,r)) (λq=>0<=q/\q<=J0 r.2.2.2.2.2) (λq=>J0 r.2.2.2.2.2-q) ?_ 0 rfl ⟨J0C _,J4⟩;rintro i ⟨B,h1⟩;unfold JaK;dsimp only;have S:=Jb i 1;have Q:=J0o i 1;refine .lt (λc=>?_) λc=>.some rfl;obtain⟨e,he,g⟩:=JcK B c;obtain⟨E,o,z,A,n,v⟩:=L _ e g;have k: ∃c':Int,((r.2.2.2.2.2,J0 r.2.2.2.2.2,J1 .i64 i 1,r):JB8)=(r.2.2.2.2.2,J0 r.2.2.2.2.2,c',r)/\(0<=c'/\c'<=J0 r.2.2.2.2.2)/\J0 r.2.2.2.2.2-c'<J0 r.2.2.2.2.2-i/\0<=J0 r.2.2.2.2.2-i:=⟨J1 .i64 i 1,rfl,⟨by omega,by omega⟩,by omega,by omega⟩;unfold pgE at n v;have hw:Tot (J5T (r,e)) λy=>y=true:=by unfold J5T;exact .bind (JpP o) λy d=>.ite (λ_=>.ge (λ_=>.le (λ_=>.ge (λ_=>.some (J1O.2 A)) λc=>absurd z c) λc=>absurd v c) λc=>absurd n c) λc=>by grind
  refine .bind (J0e he) λH K=>?_;subst K;refine .bind (JAs (EF.of E o)) λR V=>.nof (λ_=>.bind hw λU P=>.not (λc=>by grind) λ_=>?_) λc=>by grind
  refine .eqf (λF=>?_) λF=>.ge (λc=>?_) λ_=>.some k
  ·have hi:0<i:=by omega
   have e1:JI .i64 i 1=i-1:=by omega
   rw[e1];obtain⟨a,ha,x⟩:=JcK (l:=r.2.2.2.2.2) (i:=i-1) (by omega) (by omega);have j:=Jpq h hi c x g;refine .bind (J0e ha) λN C=>?_;subst C;refine .lt (λJ=>.ge (λc=>?_) λ_=>.some k) λJ=>.bind (J0e ha) λD I=>?_
   ·unfold J6a pgE at j;omega
   ·subst I;have M:=j;unfold J6a pgE at j;refine .bind (Jwj (a:=D) (b:=H) (by unfold pgE;omega)) λW G=>.gef (λ_=>.ne (λc=>by omega) λ_=>.some k) λc=>absurd c G
  grind
 obtain⟨y,e,d⟩:=w;rw[e,d]
end
section
variable {B S:Int}
def ent(r:JU):List J2:=r.2.2.2.2.2
theorem JeR{α:Type}{bytes:Nat}{l m:List α}(h:J0 l+J0 m<=34359738368)(hb:bytes<=2048):JA bytes l m=some (l++m):=by
 grind [JA,Jkq,J0]
end
section
variable {B S:Int}
theorem Jkh{a b lv:Int}(h1:1<=a)(h2:a<=b)(h3:b<=100)(h4:0<=lv)(h5:lv<=8):J4Z (a,b,0,0,lv,[]):=
 ⟨⟨h1,h2,by grind,by simp_all,by simp_all,by simp_all,h4,h5⟩,by simp[J0],λj e h=>by simp at h,λe h=>by simp at h,λj a b h=>by simp at h⟩
theorem JAf:J7i ()=some true:=by
 have v1:=J1W (Jkh (a:=1) (b:=2) (lv:=0) (by decide) (by decide) (by decide) (by decide) (by decide));have v2:=J1W (Jkh (a:=3) (b:=3) (lv:=0) (by decide) (by decide) (by decide) (by decide) (by decide));have v3:=J1W (Jkh (a:=1) (b:=3) (lv:=1) (by decide) (by decide) (by decide) (by decide) (by decide));have m:J2V (([]:List J2),[])=some []:=by unfold J2V;refine J72 ?_;unfold J6Q;dsimp only;rw[if_pos (by rfl),JeR (α:=J2) (l:=[]) (m:=[]) (by decide) (by decide)];rfl
 have g:Tot (J0F ((1,2,0,0,0,[]),3,3,0,0,0,[])) λy=>y=((1,3,0,0,1,[]),0):=by
  unfold J0F;dsimp only;refine .bind (J0e v1) λo h=>.nof (λ_=>.bind (J0e v2) λr q=>.not (λc=>by simp_all) λ_=>?_) λc=>by simp_all
  have k:J3v ((1,2,0,0,0,([]:List J2)),3,3,0,0,0,([]:List J2))=some true:=by rfl
  refine .bind (J0e k) λz A=>.not (λc=>by simp_all) λ_=>.gef (λ_=>.gt (λc=>absurd c (by decide)) λ_=>?_) λc=>absurd c (by decide);refine .bind (J0e m) λw n=>?_;subst n;have e1:J1 .i64 (J1o 0 0) 1=1:=by rfl
  rw[e1];exact .bind (J0e v3) λx v=>.not (λc=>by simp_all) λ_=>.some rfl
 have j:Tot (J7i ()) λy=>y=true:=by unfold J7i;refine .bind g λo h=>?_;subst h;exact .eq (λ_=>.eq (λ_=>.eq (λ_=>.some (by rfl)) λc=>absurd rfl c) λc=>absurd rfl c) λc=>absurd rfl c
 obtain⟨y,e,d⟩:=j;rw[e,d]
abbrev rZ:JU:=(0,0,0,0,0,[])
theorem JGb{l:List Int}{y:Jp}(e:J4Y (l,400)=some y):y.2=0/\J0 y.1<=400:=by
 have g:Par (J4Y (l,400)) λy=>y.2=0/\J0 y.1<=400:=by unfold J4Y;dsimp only;refine .gt (λc=>.bind λa ha=>.some ⟨rfl,?_⟩) λc=>.some ⟨rfl,by simp_all⟩;obtain⟨r,hr,_,h2⟩:=JnU (l:=l) (k:=400) (by decide) (by omega);simp_all
 exact g _ e
end
section
variable {B S:Int}
theorem Jij(x:Int×J2):Tot (J3z x) λy=>y=true->0<=x.1/\x.1<x.2.1:=by unfold J3z;exact .ge (λc=>.some λd=>⟨c,J4v.1 d⟩) λ_=>.some nofun
theorem JyI(c:J1k):Tot (J3A c) λy=>J0l c=some y:=by
 have g:Tot (J0l c) λ_=>True:=by unfold J0l;exact .ite (λ_=>.itf (λ_=>.some trivial) λ_=>.some trivial) λ_=>.some trivial
 obtain⟨y,e,_⟩:=g;exact⟨y,e,e⟩
theorem JDQ(n:Int):Tot (J5a n) λy=>y=true->0<=n/\n<64:=by unfold J5a;exact .ge (λc=>.some λd=>⟨c,J4v.1 d⟩) λ_=>.some nofun
theorem Jpr(c:T_api_Change):Tot (J48 c) λy=>y=true->J1e c=some true:=by
 unfold J48;refine .bind (JDQ c.1) λk h2=>.ite (λe=>.ge (λc3=>.lt (λn=>.bind (JyI c.2.2.1) λj h3=>.ite (λh=>.bind (JyI c.2.2.2) λo h4=>.some λg=>?_) λ_=>.some nofun) λ_=>.some nofun) λ_=>.some nofun) λ_=>.some nofun
 grind [J1e,Jcf,J4v]
theorem JGH(c:T_api_Change):Tot (J5m c) λ_=>True:=⟨_,rfl,trivial⟩
theorem JFV(e:J2):Tot (J1Y e) λ_=>True:=⟨_,rfl,trivial⟩
theorem JJT(e:J2):Tot (J45 e) λy=>y=true->1<=e.2.2.2.2.2.1/\e.2.2.2.2.2.1<=e.2.2.2.1:=by unfold J45;exact .ge (λc=>.some λd=>⟨c,J1O.1 d⟩) λ_=>.some nofun
theorem JJu(c:T_api_Change):Tot (J6Y c) λ_=>True:=by unfold J6Y;exact .ite (λ_=>.ite (λ_=>.some trivial) λ_=>.some trivial) λ_=>.some trivial
theorem JyL{l:List UInt8}(h:neS l []=false):l=[]:=by
 grind [neS]
theorem JHh(e:J2):Tot (J5M e) λy=>y=true->(e.2.1=1\/e.2.1=2)->EF e:=by
 have g: ∀{o:Option Bool},(3<=e.2.1\/e.2.1<=0)->Tot o (λ_=>True)->Tot o λy=>y=true->(e.2.1=1\/e.2.1=2)->EF e:=λh B=>B.mono λ_ _ _ hk=>by omega
 unfold J5M;refine .ltf (λa1=>.gtf (λa2=>.ltf (λa3=>.gtf (λa4=>.bind (Jij _) λH h2=>.nof (λx=>.bind (Jij _) λF h3=>.nof (λA=>.bind (Jij _) λG h4=>.not (λ_=>.some nofun) λE=>?_) λ_=>.some nofun) λ_=>.some nofun) λ_=>.some nofun) λ_=>.some nofun) λ_=>.some nofun) λ_=>.some nofun;have b2:=h2 x;have j:=h3 A;have k:=h4 E;refine .eq (λc=>g (by omega) ?_) λ_=>.eq (λc=>g (by omega) ?_) λ_=>.eq (λc=>g (by omega) ?_) λ_=>.eq (λc=>g (by omega) ?_) λ_=>.eq (λc=>g (by omega) ?_) λ_=>.eq (λc=>g (by omega) ?_) λ_=>.eq (λw=>?_) λw=>.eq (λv=>?_) λv=>by omega
 case refine_7=>refine .ltf (λC=>.gt (λ_=>.some nofun) λD=>.eq (λ_=>.some nofun) λr=>.ite (λ_=>.some nofun) λn=>.le (λ_=>.bind (JJT e) λy h=>.ite (λd=>.bind (Jpr _) λz hz=>.some λq _=>?_) λ_=>.some nofun) λ_=>.some nofun) λ_=>.some nofun;obtain⟨q1,q2⟩:=h d;exact⟨by omega,by omega,by omega,by omega,b2.1,b2.2,j.1,j.2,k.1,k.2,JyL n,hz q,.inr ⟨w,by have:=b2.1;(try dsimp only at this);omega,q1,q2⟩⟩
 case refine_8=>refine .ltf (λC=>.gt (λ_=>.some nofun) λD=>.ne (λ_=>.some nofun) λr=>.ite (λ_=>.some nofun) λn=>.le (λ_=>.bind (JFV e) λy h=>.ite (λd=>.bind (Jpr _) λz hz=>.some λq _=>?_) λ_=>.some nofun) λ_=>.some nofun) λ_=>.some nofun;exact⟨by omega,by omega,by omega,by omega,b2.1,b2.2,j.1,j.2,k.1,k.2,JyL n,hz q,.inl ⟨v,r⟩⟩
 all_goals repeat' first
  |exact .some trivial
  |refine .ite (λ_=>?_) λ_=>?_
  |refine .itf (λ_=>?_) λ_=>?_
  |refine .bind (JFV _) λ_ _=>?_
  |refine .bind (JGH _) λ_ _=>?_
  |refine .bind (JJu _) λ_ _=>?_
end
section
variable {B S:Int}
def Jhk(x y:Int):Int:=if x<y then -1 else if y<x then 1 else 0
def J6n(a b:J2):Int:=if Jhk (pgE a) (pgE b)=0 then Jhk a.1 b.1 else Jhk (pgE a) (pgE b)
theorem JE5(x:Int):neI x x=false:=by simp[neI]
theorem JJN(x y:Int):J23 (x,y)=some (Jhk x y):=by
 grind [J23,J4s,Jhk,JE5,ltI,gtI]
theorem JJP(p q:Int):J5k [p,q]=some (if p=0 then q else p):=by
 unfold J5k;have l0: ∀p q:Int,J8p (0,[p,q],J0 [p,q],0)=if neI p 0=true then some (.inr p)else some (.inl (0,[p,q],J0 [p,q],1)):=λp q=>rfl
 have e: ∀p q:Int,J8p (0,[p,q],J0 [p,q],1)=if neI q 0=true then some (.inr q)else some (.inl (0,[p,q],J0 [p,q],2)):=λp q=>rfl
 have l2: ∀p q:Int,J8p (0,[p,q],J0 [p,q],2)=some (.inr 0):=λp q=>rfl;by_cases hp:p=0
 ·subst hp;rw[if_pos rfl,Jab ((l0 0 q).trans (if_neg (by decide)))];by_cases hq:q=0
  ·subst hq;rw[Jab ((e 0 0).trans (if_neg (by decide)))]
   grind [J72]
  grind [J72,JaM]
 grind [J72,JaM]
theorem Jzc(a b:J2):J46 (a,b)=some (J6n a b):=by
 grind [J46,J6n,pgE,JJN,JJP]
theorem Jz3(a b:J2):J12 (a,b)=some (J6n a b):=by
 have h:Tot (J12 (a,b)) λy=>y=J6n a b:=by
  unfold J12 J6n Jhk pgE;dsimp only;refine .ltf (λc=>.eq (λg=>.lt (λj=>.some ?_) λj=>.eq (λ_=>.eq (λc3=>.some ?_) λc3=>.some ?_) λc=>absurd g c) λg=>.eq (λc=>absurd c g) λ_=>.some ?_) λc=>.some ?_
  all_goals grind
 obtain⟨y,e,d⟩:=h;rw[e,d]
def ltE(a b:J2):Prop:=pgE a<pgE b\/(pgE a=pgE b/\a.1<b.1)
theorem J7Y{a b:J2}:J6n a b<0↔ltE a b:=by
 grind [J6n,Jhk,ltE]
theorem JdM{a b:J2}:J6n a b=0↔pgE a=pgE b/\a.1=b.1:=by
 grind [J6n,Jhk]
theorem JJ7(r:JU):Tot (J4t r) λy=>y=true->J7B r:=by unfold J4t;exact .ge (λo=>.le (λe=>.le (λc3=>.ge (λn=>.le (λj=>.lt (λk=>.ge (λg=>.some λh=>⟨o,e,c3,n,j,k,g,J1O.1 h⟩) λ_=>.some nofun) λ_=>.some nofun) λ_=>.some nofun) λ_=>.some nofun) λ_=>.some nofun) λ_=>.some nofun) λ_=>.some nofun
theorem JIo(e:J2):Tot (J5Z e) λy=>y=true->e.2.1=1\/e.2.1=2:=by unfold J5Z;exact .eqf (λ_=>.some λd=>.inr (J59.1 d)) λc=>.some λ_=>.inl c
theorem JIS(r:JU)(e:J2):Tot (J5T (r,e)) λy=>y=true->(e.2.1=1\/e.2.1=2)/\r.1<=e.1/\e.1<=r.2.1/\r.2.2.1<=pgE e/\pgE e<=r.2.2.2.1:=by unfold J5T;exact .bind (JIo e) λy h=>.ite (λd=>.ge (λk=>.le (λg=>.ge (λc3=>.some λj=>⟨h d,c3,J1O.1 j,k,g⟩) λ_=>.some nofun) λ_=>.some nofun) λ_=>.some nofun) λ_=>.some nofun
theorem JFx{t:Ty}(x:t.D):eqT t x x=true:=J1J.2 rfl
theorem JDq{e:J2}(h:EF e)(hk:e.2.1=1\/e.2.1=2):Jx e=some true:=by
 obtain⟨a1,a2,a3,a4,z,A,x,w,a9,o,C,g,v⟩:=h;have j: ∀{n:Int},0<=n->n<e.1->J1N (n,e.1)=some true:=fun{n} h1 h2=>by
  grind [J1N,Jcf,J4v]
 have sh:Tot (J27 e) λy=>y=(e,true):=by
  unfold J27;rcases v with⟨k,q⟩|⟨k,q1,q2,q3⟩
  ·refine .eq (λ_=>.bind (J0e g) λy d=>.eq (λc=>by omega) λ_=>.ite (λ_=>.ge (λ_=>.some ?_) λc=>absurd a3 c) λc=>by simp_all) λc=>absurd k c
   grind [J1O]
  ·refine .eq (λc=>by omega) λ_=>.eq (λ_=>.bind (J0e g) λy d=>.eq (λ_=>.ite (λ_=>.gt (λ_=>.ge (λ_=>.le (λ_=>.ge (λ_=>.some ?_) λc=>absurd a3 c) λc=>absurd q3 c) λc=>absurd q2 c) λc=>absurd q1 c) λc=>by simp_all) λc=>absurd k c) λc=>absurd k c
   grind [J1O]
 have r:Tot (Jx e) λy=>y=true:=by unfold Jx;refine .bind sh λy d=>?_;subst d;exact .ite (λ_=>.ite (λ_=>.ge (λ_=>.le (λ_=>.bind (J0e (j z A)) λH D=>.ite (λ_=>.bind (J0e (j x w)) λF E=>.ite (λ_=>.bind (J0e (j a9 o)) λG B=>.some B) λc=>by simp_all) λc=>by simp_all) λc=>absurd a2 c) λc=>absurd a1 c) λc=>by grind [JFx]) λc=>by cases c
 obtain⟨y,e1,d⟩:=r;rw[e1,d]
theorem JJg(r:JU):Tot (J3h r) λy=>y=true->J4Z r:=by
 unfold J3h;refine .bind (JJ7 r) λP g1=>.nof (λG=>.gt (λ_=>.some nofun) λU=>?_) λ_=>.some nofun;have g1:=g1 G;have F:=J4 (l:=r.2.2.2.2.2);refine Jf (τ:=Int) (λq=>(r.2.2.2.2.2,J0 r.2.2.2.2.2,q,r)) (λi=>0<=i/\i<=J0 r.2.2.2.2.2/\(∀(j:Nat) (e:J2),(j:Int)<i->r.2.2.2.2.2[j]?=some e->EF e/\(e.2.1=1\/e.2.1=2)/\r.1<=e.1/\e.1<=r.2.1/\r.2.2.1<=pgE e/\pgE e<=r.2.2.2.1)/\(∀e,0<i->r.2.2.2.2.2[0]?=some e->e.2.2.2.2.1<r.1)/\ ∀(j:Nat) (a b:J2),(j:Int)+1<i->r.2.2.2.2.2[j]?=some a->r.2.2.2.2.2[j+1]?=some b->J6a r.1 a b) (λq=>J0 r.2.2.2.2.2-q) ?_ 0 rfl ⟨J0C _,F,λj e h=>by omega,λe h=>by omega,λj a b h=>by omega⟩;rintro i ⟨D,hn,h1,h2,h3⟩;unfold JaK;dsimp only;have T:=Jb i 1;have R:=J0o i 1;refine .lt (λc=>?_) λc=>.some λ_=>⟨g1,by omega,λj e he=>?_,λe he=>h2 e (by have:=J4R he;omega) he,λj a b z k=>h3 j a b (by have:=J4R k;omega) z k⟩
 ·obtain⟨e,he,M⟩:=JcK D c;refine .bind (J0e he) λg K=>?_;subst K;refine .bind (JHh g) λS h5=>.nof (λc3=>.bind (JIS r g) λV J=>.not (λ_=>.some nofun) λH=>?_) λ_=>.some nofun;have hk:=J H;have C:EF g/\(g.2.1=1\/g.2.1=2)/\r.1<=g.1/\g.1<=r.2.1/\r.2.2.1<=pgE g/\pgE g<=r.2.2.2.1:=⟨h5 c3 hk.1,hk⟩;have v:(i=0->g.2.2.2.2.1<r.1)->(∀a,0<i->r.2.2.2.2.2[(i-1).toNat]?=some a->J6a r.1 a g)-> ∃c':Int,((r.2.2.2.2.2,J0 r.2.2.2.2.2,J1 .i64 i 1,r):JB8)=(r.2.2.2.2.2,J0 r.2.2.2.2.2,c',r)/\(0<=c'/\c'<=J0 r.2.2.2.2.2/\(∀(j:Nat) (e:J2),(j:Int)<c'->r.2.2.2.2.2[j]?=some e->EF e/\(e.2.1=1\/e.2.1=2)/\r.1<=e.1/\e.1<=r.2.1/\r.2.2.1<=pgE e/\pgE e<=r.2.2.2.1)/\(∀e,0<c'->r.2.2.2.2.2[0]?=some e->e.2.2.2.2.1<r.1)/\ ∀(j:Nat) (a b:J2),(j:Int)+1<c'->r.2.2.2.2.2[j]?=some a->r.2.2.2.2.2[j+1]?=some b->J6a r.1 a b)/\J0 r.2.2.2.2.2-c'<J0 r.2.2.2.2.2-i/\0<=J0 r.2.2.2.2.2-i:=by
   intro Z n2;refine⟨J1 .i64 i 1,rfl,⟨by omega,by omega,λj f hj hf=>?_,λf hp hf=>?_,λj a b hj ha hb=>?_⟩,by omega,by omega⟩
   ·by_cases hl:(j:Int)<i
    ·grind
    ·have:j=i.toNat:=by omega
     grind
   ·by_cases hi:0<i
    ·grind
    ·have B:i=0:=by omega
     subst B
     grind
   ·by_cases hl:(j:Int)+1<i
    ·grind
    ·have e1:j+1=i.toNat:=by omega
     have e2:j=(i-1).toNat:=by omega
     grind
  refine .eqf (λn=>?_) λn=>.ge (λ_=>.some nofun) λW=>.some (v (λ_=>by omega) λa h=>by omega);have e1:JI .i64 i 1=i-1:=by omega
  rw[e1];obtain⟨a,ha,N⟩:=JcK (l:=r.2.2.2.2.2) (i:=i-1) (by omega) (by omega);have w:J6a r.1 a g->(∀b,0<i->r.2.2.2.2.2[(i-1).toNat]?=some b->J6a r.1 b g):=λh b _ hb=>by
   grind
  refine .bind (J0e ha) λO E=>?_;subst E;refine .lt (λo=>.ge (λ_=>.some nofun) λc6=>.some (v (λh=>absurd h n) (w (.inl ⟨o,by omega⟩)))) λo=>.bind (J0e ha) λx I=>?_;subst I;refine .bind (J0e (Jzc x g)) λY L=>.gef (λQ=>.ne (λ_=>.some nofun) λA=>.some (v (λh=>absurd h n) (w ?_))) λ_=>.some nofun;subst L;rcases(J7Y (a:=x) (b:=g)).1 (by omega)with q|⟨q1,q2⟩
  ·exact absurd q o
  ·exact .inr ⟨q1,q2,A⟩
 ·obtain⟨q1,q2⟩:=h1 j e (by grind [J4R]) he;exact⟨JDq q1 q2.1,q2⟩
end
section
variable {B S:Int}
theorem ltE.trans{a b c:J2}(h1:ltE a b)(h2:ltE b c):ltE a c:=by
 grind [ltE]
def mrg:List J2->List J2->List J2
 |[],b=>b
 |x::a,[]=>x::a
 |x::a,y::b=>if J6n x y<=0 then x::mrg a (y::b)else y::mrg (x::a) b
termination_by a b=>a.length+b.length
theorem JiI(a:List J2):mrg a []=a:=by cases a<;>simp[mrg]
def J2m:List J2->J2->List J2
 |[],e=>[e]
 |x::l,e=>if J6n x e<0 then x::J2m l e else if J6n x e=0 then x::l else e::x::l
theorem JFv{l:List J2}{e x:J2}(h:x∈J2m l e):x∈l\/x=e:=by
 induction l with
 |nil=>grind [J2m]
 |cons y l ih=>
  grind [J2m]
theorem Jzx{y:J2}{b:List J2}(hb: ∀z∈b,ltE y z): ∀{a:List J2},(∀x∈a,J6n x y≠0)->mrg a (y::b)=mrg (J2m a y) b
 |[],_=>by
  cases b with
  |nil=>simp[mrg,J2m]
  |cons z b=>
   have:=(J7Y (a:=y) (b:=z)).2 (hb z List.mem_cons_self)
   grind [J2m,mrg]
 |x::a,ha=>by
  have hx:=ha x List.mem_cons_self;by_cases h:J6n x y<0
  ·have e1:mrg (x::a) (y::b)=x::mrg a (y::b):=by
    grind [mrg]
   have e2:J2m (x::a) y=x::J2m a y:=by
    grind [J2m]
   rw[e1,e2,Jzx hb λz hz=>ha z (JcV _ hz)];cases b with
   |nil=>simp[JiI]
   |cons z b=>
    have h2:=(J7Y (a:=x) (b:=z)).2 (((J7Y (a:=x) (b:=y)).1 h).trans (hb z List.mem_cons_self))
    grind [mrg.eq_3]
  ·have e1:mrg (x::a) (y::b)=y::mrg (x::a) b:=by
    grind [mrg]
   have e2:J2m (x::a) y=y::x::a:=by
    grind [J2m]
   rw[e1,e2];cases b with
   |nil=>simp[JiI]
   |cons z b=>
    have h2:=(J7Y (a:=y) (b:=z)).2 (hb z List.mem_cons_self)
    grind [mrg.eq_3]
theorem Jwe: ∀{b a:List J2},b.Pairwise ltE->(∀x∈a,∀y∈b,J6n x y≠0)->mrg a b=b.foldl J2m a
 |[],a,_,_=>JiI a
 |y::b,a,hs,hd=>by
  obtain⟨h1,h2⟩:=List.pairwise_cons.1 hs;rw[Jzx h1 λx hx=>hd x hx y List.mem_cons_self,List.foldl_cons];refine Jwe h2 λx hx z hz=>?_;rcases JFv hx with hx|rfl
  ·grind
  ·have:=(J7Y (a:=x) (b:=z)).2 (h1 z hz);omega
theorem Jh0: ∀{l:List J2},(∀(j:Nat) (a b:J2),l[j]?=some a->l[j+1]?=some b->ltE a b)->l.Pairwise ltE
 |[],_=>.nil
 |[x],_=>List.pairwise_singleton _ _
 |x::y::l,h=>by
  have ih:=Jh0 (l:=y::l) λj a b ha hb=>h (j+1) a b ha hb;refine List.pairwise_cons.2 ⟨λz hz=>?_,ih⟩;have e:=h 0 x y rfl rfl;rcases J2U.1 hz with rfl|hz
  ·exact e
  ·exact e.trans ((List.pairwise_cons.1 ih).1 z hz)
theorem JAT{r:JU}(h:J4Z r):r.2.2.2.2.2.Pairwise ltE:=
 Jh0 λj a b ha hb=>by
  rcases h.2.2.2.2 j a b ha hb with⟨q,_⟩|⟨q1,q2,_⟩
  ·exact .inl q
  ·exact .inr ⟨q1,q2⟩
theorem JBZ(a0 g:List J2)(hl:J0 a0+J0 g<=8192):J2V (a0,g)=some (mrg a0 g):=by
 have B:Tot (J2V (a0,g)) λy=>y=mrg a0 g:=by
  unfold J2V;refine Jf (τ:=List J2×List J2×List J2) (λq=>q) (λq=>J0 q.1+J0 q.2.1+J0 q.2.2<=8192/\q.2.2++mrg q.1 q.2.1=mrg a0 g) (λq=>J0 q.1+J0 q.2.1) ?_ (a0,g,[]) rfl ⟨by grind [Jd6],rfl⟩;rintro⟨a,b,out⟩ ⟨h1,h2⟩
  (try dsimp only at h1 h2)
  have J:=J4 (l:=a);have F:=J4 (l:=b);have O:=J4 (l:=out);unfold J6Q;dsimp only;cases a with
  |nil=>
   refine .eq (λ_=>.bind (J0e (JeR (by omega) (by decide))) λy d=>.some ?_) λc=>absurd rfl c
   grind [mrg]
  |cons x a=>
   rw[J69]at h1 J;have P:=J4 (l:=a);refine .eq (λc=>by grind [J69]) λ_=>?_;cases b with
   |nil=>
    refine .eq (λ_=>.bind (J0e (JeR (by grind [J69]) (by decide))) λy d=>.some ?_) λc=>absurd rfl c
    grind [JiI]
   |cons y b=>
    rw[J69]at h1 F;have N:=J4 (l:=b);refine .eq (λc=>by grind [J69]) λ_=>?_;have D:idx (x::a) 0=some x:=rfl;have w:idx (y::b) 0=some y:=rfl;have s1:J0D (x::a) (some 1) none=some a:=by obtain⟨r,e,d,_⟩:=JcA (l:=x::a) (k:=1) (by decide) (by grind [J69]);rw[e,d];rfl
    have G:J0D (y::b) (some 1) none=some b:=by obtain⟨r,e,d,_⟩:=JcA (l:=y::b) (k:=1) (by decide) (by grind [J69]);rw[e,d];rfl
    have E: ∀z:J2,JA 128 out [z]=some (out++[z]):=λz=>JeR (by grind [J5y]) (by decide);have Q: ∀z:J2,J0 (out++[z])=J0 out+1:=λz=>by rw[J80,J5y]
    refine .bind (J0e D) λA K=>.bind (J0e w) λC I=>?_;subst K;subst I;refine .bind (J0e (Jzc A C)) λM H=>?_;subst H;refine .le (λc=>?_) λc=>?_
    ·refine .bind (J0e D) λh o=>?_;subst o;refine .bind (J0e (E h)) λL n=>.bind (J0e s1) λv j=>.some ⟨(a,C::b,out++[h]),by rw[n,j],⟨?_,?_⟩,?_,?_⟩
     all_goals grind [J69,mrg]
    ·refine .bind (J0e w) λh o=>?_;subst o;refine .bind (J0e (E h)) λL n=>.bind (J0e G) λv j=>.some ⟨(A::a,b,out++[h]),by rw[n,j],⟨?_,?_⟩,?_,?_⟩
     all_goals grind [J69,mrg]
 obtain⟨y,e,d⟩:=B;rw[e,d]
end
section
variable {B S:Int}
def JKk(r:JU):Prop:=zFt 16384 9223372036854775807 J11 r
theorem vv{r:JU}(h:JKk r): ∃v,J3h r=some v/\J2x r=some v/\(v=true->J4Z r):=by
 obtain⟨y,e1,h1⟩:=JJg r;obtain⟨z,e2,_⟩:=Jgn (B:=16384) (S:=9223372036854775807) h;refine⟨y,e1,?_,h1⟩;cases y with
 |true=>exact JkG (h1 rfl)
 |false=>
  cases z with
  |false=>exact e2
  |true=>have:=J1W (J4Z.of e2);rw[this]at e1;cases e1
theorem Jvj{e:J2}{l m:List J2}(h: ∀y∈l,J6n y e<0):J2m (l++m) e=l++J2m m e:=by
 induction l with
 |nil=>rfl
 |cons y l ih=>rw[Jk1,J2m,if_pos (h y List.mem_cons_self),ih λz hz=>h z (JcV _ hz)];rfl
theorem JHB{l:List J2}{e:J2}(hl:J0 l<=16384):Tot (J5d (l,e)) λy=>y.1=J2m l e:=by
 unfold J5d;have L:=J4 (l:=l);refine Jf (τ:=Int) (λq=>(l,q,e)) (λi=>0<=i/\i<=J0 l/\ ∀y∈l.take i.toNat,J6n y e<0) (λi=>J0 l-i) ?_ 0 rfl ⟨J0C _,L,λy hy=>by simp at hy⟩;rintro i ⟨A,h1,h2⟩;unfold J9o;dsimp only;have T:=Jb i 1;have hs:J2m l e=l.take i.toNat++J2m (l.drop i.toNat) e:=by have:=Jvj (m:=l.drop i.toNat) h2;rwa[Joe]at this
 have put:(∀x,l[i.toNat]?=some x->0<J6n x e)->Tot ((J0D l none (some i)).bind λo=>(J2l 128 o).bind λv=>(JA 128 v [e]).bind λw=>(J0D l (some i) none).bind λn=>(JA 128 w n).bind λj=>some (j,true)) λy=>y.1=J2m l e:=by
  intro hx;obtain⟨p,e1,F,q1⟩:=JnU (l:=l) (k:=i) A h1;obtain⟨r,e2,C,_⟩:=JcA (l:=l) (k:=i) A h1;have lp:J0 p<=16384:=by omega
  have hlen:J0 p+J0 r=J0 l:=by rw[F,C];unfold J0;rw[J7w,Ji7];unfold J0 at h1;omega
  have np:=J4 (l:=p);have V:=J4 (l:=r);refine .bind (J0e e1) λo P=>?_;subst P;have M:J2l 128 o=some o:=by unfold J2l;rw[if_pos];unfold J8B;unfold J0 at lp np;simp only[decide_eq_true_eq];omega
  refine .bind (J0e M) λv O=>?_;subst O;refine .bind (J0e (JeR (l:=v) (m:=[e]) (by rw[J5y];omega) (by decide))) λw I=>.bind (J0e e2) λn G=>?_;subst I;subst G;refine .bind (J0e (JeR (l:=v++[e]) (m:=n) (by rw[J80,J5y];omega) (by decide))) λj E=>.some ?_;show j=J2m l e;rw[E,F,C,hs,J8H]
  congr 1
  cases hd:l.drop i.toNat with
  |nil=>rfl
  |cons x t=>have g:=hx x (by rw[<-List.head?_drop,hd];rfl);rw[J2m,if_neg (by omega),if_neg (by omega)];rfl
 refine .lt (λc=>?_) λc=>.inr (.lt (λB=>absurd B c) λ_=>put λx hx=>by have:=J4R hx;omega);obtain⟨x,hx,h⟩:=JcK A c;refine .bind (J0e hx) λK J=>.bind (J0e (Jz3 K e)) λW Y=>?_;subst J;refine .lt (λB=>.some ⟨J1 .i64 i 1,rfl,⟨by omega,by omega,λz hz=>?_⟩,by omega,by omega⟩) λB=>.inr (.lt (λ_=>?_) λc3=>absurd c c3)
 ·rw[show(J1 .i64 i 1).toNat=i.toNat+1 by omega,List.take_add_one,h]at hz;rcases J1U.1 hz with hz|hz
  ·exact h2 z hz
  ·simp at hz;subst hz;omega
 ·refine .bind (J0e hx) λH N=>.bind (J0e (Jz3 H e)) λU S=>?_;subst N;refine .eq (λc3=>.bind (J0e hx) λQ R=>.some ?_) λc3=>put λx g=>by rw[h]at g;injection g with g;subst g;omega
  show l=J2m l e;have hd:l.drop i.toNat=H::l.drop (i.toNat+1):=by
   have D:=(J2I.1 h).1;rw[List.drop_eq_getElem_cons D]
   congr 1
   exact(J2I.1 h).2
  rw[hs,hd,J2m,if_neg (by omega),if_pos (by omega),<-hd,Joe]
end
section
variable {B S:Int}
theorem Jxz{a b:JU}(ha:J4Z a)(hb:J4Z b)(hc:b.1=J1 .i64 a.2.1 1):mrg (ent a) (ent b)=(ent b).foldl J2m (ent a):=by refine Jwe (JAT hb) λx hx y hy=>?_;obtain⟨j,hj⟩:=J8D hx;obtain⟨k,hk⟩:=J8D hy;have h1:=ha.2.2.1 j x hj;have h2:=hb.2.2.1 k y hk;have o:=Jb a.2.1 1;have q:=ha.1.2.2.1;have g:=ha.1.1;have q1:=ha.1.2.1;intro e;have e2:=(JdM.1 e).2;have h:=h1.2.2.2.1;have l2:=h2.2.2.1;omega
theorem JjK(a b:JU):Tot (J3v (a,b)) λy=>y=true↔(a.2.2.1=b.2.2.1/\a.2.2.2.1=b.2.2.2.1/\b.1=J1 .i64 a.2.1 1):=by unfold J3v;exact .eq (λg=>.eq (λe=>.some ⟨λc=>⟨g,e,J59.1 c⟩,λc=>J59.2 c.2.2⟩) λe=>.some ⟨nofun,λc=>absurd c.2.1 e⟩) λg=>.some ⟨nofun,λc=>absurd c.1 g⟩
end
end Go.Am
end
section
namespace Go.Am
set_option linter.unusedVariables false
set_option maxRecDepth 20000
set_option maxHeartbeats 1000000
section
variable {B S:Int}
def J0y(l:List J2)(p:Int):Int:=l.foldl (λa e=>if(e.2.1=1\/e.2.1=2)/\pgE e=p then e.1 else a) 0
theorem J70(l:List J2)(e:J2)(p:Int):J0y (l++[e]) p=if(e.2.1=1\/e.2.1=2)/\pgE e=p then e.1 else J0y l p:=by simp[J0y,List.foldl_append]
theorem J6k{l:List J2}{e:J2}{p:Int}(h: ¬((e.2.1=1\/e.2.1=2)/\pgE e=p)):J0y (l++[e]) p=J0y l p:=by rw[J70,if_neg h]
structure Rel(l:List J2)(n:Int)(fr:List T_api_Frame)(lk rows:List T_api_Row):Prop where
 rng: ∀f∈fr,0<=f.1.1/\f.1.1<n
 one:fr.Pairwise λa b=>a.1.1≠b.1.1
 apt: ∀f∈fr,∀d∈lk,d.1≠f.1.1
 hot: ∀f∈fr,f.1.2.1=J0y l f.1.1/\(f.2.1=false-> ∀r,idx rows f.1.1=some r->r.1=J0y l f.1.1)
 lak: ∀d∈lk,d.2.2=J0y l d.1
 row: ∀p r,idx rows p=some r->r.1<=J0y l p/\((∀f∈fr,f.1.1≠p)->(∀d∈lk,d.1≠p)->r.1=J0y l p)
def JA6(m:List J2)(s:List UInt8):Prop:= ∀c,J33 s=some (c,0)->Rel m c.1 [] c.2.2.2.1 c.2.2.2.2
def JsK(m:List J2)(e:J2):Prop:=e.1=J0 m+1/\Jx e=some true/\((e.2.1=1\/e.2.1=2)->e.2.2.2.2.1=J0y m (pgE e))/\(e.2.1=7->e.2.2.2.2.2.1<=J0y m (pgE e))/\(e.2.1=6->JA6 m e.2.2.2.2.2.2.2)
def J2L(l:List J2):Prop:= ∀(i:Nat) e,l[i]?=some e->JsK (l.take i) e
def J6S(l:JO):Prop:=l.1=1/\0<=l.2.2/\l.2.2<=J0 l.2.1/\J0 l.2.1<=4096
def JC(k:J5):Prop:=J6S k.2.2.1/\J2L k.2.2.1.2.1/\Rel k.2.2.1.2.1 k.1 k.2.2.2.1.2.1 k.2.2.2.2.2.2.2 k.2.2.2.2.2.2.1
theorem J2L.app{l:List J2}{e:J2}(h:J2L l)(he:JsK l e):J2L (l++[e]):=by
 intro i x hx;by_cases hi:i<l.length
 ·rw[Jkf hi]at hx;rw[List.take_append_of_le_length (Nat.le_of_lt hi)];exact h i x hx
 ·rw[Jd3 (by omega)]at hx;have g:i=l.length:=by have:=(J2I.1 hx).1;simp at this;omega
  subst g;simp at hx;subst hx;simpa using he
theorem J2L.take{l:List J2}(h:J2L l)(n:Nat):J2L (l.take n):=by
 intro i x hx;rw[Jng]at hx;split at hx
 ·rename_i hi;rw[List.take_take,Nat.min_eq_left (Nat.le_of_lt hi)];exact h i x hx
 ·cases hx
theorem Jpa{l:List J2}(h:J2L l)(p:Int):0<=J0y l p/\J0y l p<=J0 l:=by
 have g: ∀n:Nat,0<=J0y (l.take n) p/\J0y (l.take n) p<=J0 l:=by
  intro n
  induction n with
  |zero=>exact⟨J0C _,J4⟩
  |succ n ih=>
   rw[List.take_add_one];cases hn:l[n]? with
   |none=>simpa using ih
   |some e=>
    have hl:=J4R hn;have he:=(h n e hn).1;have j:J0 (l.take n)<=n:=by unfold J0;rw[J7w];omega
    have k:=J4 (l:=l.take n);show 0<=J0y (l.take n++[e]) p/\J0y (l.take n++[e]) p<=J0 l;rw[J70];split
    ·omega
    ·exact ih
 have:=g l.length;rwa[List.take_length]at this
theorem Rel.ent{l:List J2}{n:Int}{fr:List T_api_Frame}{lk rows:List T_api_Row}(h:Rel l n fr lk rows){e:J2}(he: ¬(e.2.1=1\/e.2.1=2)):Rel (l++[e]) n fr lk rows:=by have k: ∀p,J0y (l++[e]) p=J0y l p:=λp=>J6k λh=>he h.1;exact⟨h.rng,h.one,h.apt,by simpa only[k]using h.hot,by simpa only[k]using h.lak,by simpa only[k]using h.row⟩
def upw{α:Type}(P:α->Prop)(l:List α)(i:Int):Prop:=i<=9223372036854775807/\(0<=i->JvU P l i)
theorem JiL{α:Type}{P:α->Prop}{l:List α}:upw P l 0:=⟨by decide,λ_=>JIO⟩
theorem J9u{α:Type}{P:α->Prop}{l:List α}{i:Int}{x:α}(h:upw P l i)(e:idx l i=some x)(hx:P x):upw P l (J1 .i64 i 1):=by have o:=Jb i 1;obtain⟨g,_⟩:=J0G e;have h1:=h.1;refine⟨by omega,λh2=>JCW (h.2 g) e hx (by omega)⟩
theorem Jcd{α:Type}{P:α->Prop}{l:List α}{i:Int}(h:upw P l i)(hi: ¬i<J0 l): ∀x∈l,P x:=JDF (h.2 (by have:=J4 (l:=l);omega)) hi
theorem J57{α:Type}{l:List α}{i:Int}{x:α}(e:idx l i=some x):x∈l:=zQ5 (J0G e).2
theorem JtF{α:Type}{l r:List α}{k:Int}(h:J0D l (some k) none=some r):0<=k/\r=l.drop k.toNat:=by
 have g:0<=k:=by grind [J0D,JcE,Jeq]
 have h1:k<=J0 l:=by grind [J0D,JcE,Jeq,J0]
 obtain⟨r',e,d,_⟩:=JcA g h1;simp_all
theorem JCU{α:Type}{l r:List α}{k:Int}(h:J0D l none (some k)=some r):0<=k/\k<=J0 l/\r=l.take k.toNat:=by
 have g:0<=k:=by grind [J0D,JcE,Jeq]
 have h1:k<=J0 l:=by grind [J0D,JcE,Jeq,J0]
 obtain⟨r',e,d,_⟩:=JnU g h1;simp_all
theorem JhC{α:Type}{b:Nat}{l r:List α}(h:J2l b l=some r):r=l:=by unfold J2l at h;split at h<;>simp_all
theorem J3t{α:Type}{b:Nat}{l m r:List α}(h:JA b l m=some r):r=l++m:=by unfold JA at h;split at h<;>simp_all
theorem JhJ{l:JO}{y:Bool}(e:J02 l=some y)(c:y=true):1<=l.1/\l.1<=1099511627776/\J0 l.2.1<=4096:=by
 have g:Par (J02 l) λy=>y=true->1<=l.1/\l.1<=1099511627776/\J0 l.2.1<=4096:=by unfold J02;exact .ltf (λj=>.gtf (λh=>.gtf (λc3=>.ltf (λ_=>.bind λ_ _=>.ite (λ_=>.some nofun) λ_=>λ_ _ _=>⟨by omega,by omega,by omega⟩) λ_=>.some nofun) λ_=>.some nofun) λ_=>.some nofun) λ_=>.some nofun
 exact g _ e c
theorem Jho{l:JO}{n:Int}(h:J1X l=some n)(h1:1<=l.1)(h2:l.1<=1099511627776)(h3:J0 l.2.1<=4096):n=l.1+J0 l.2.1-1:=by unfold J1X at h;injection h with h;have:=J4 (l:=l.2.1);have:=Jb l.1 (J0 l.2.1);have:=J0o (J1 .i64 l.1 (J0 l.2.1)) 1;omega
theorem JE6{l:JO}{e:J2}{y:JfF}(h:J0v (l,e)=some y)(c:y.2.2=0)(hl:l.1=1):y.1=(l.1,l.2.1++[(J0 l.2.1+1,e.2)],l.2.2)/\y.2.1=J0 l.2.1+1/\Jx (J0 l.2.1+1,e.2)=some true/\J0 l.2.1+1<=4096:=by
 have j:Par (J0v (l,e)) λy=>y.2.2=0->y.1=(l.1,l.2.1++[(J0 l.2.1+1,e.2)],l.2.2)/\y.2.1=J0 l.2.1+1/\Jx (J0 l.2.1+1,e.2)=some true/\J0 l.2.1+1<=4096:=by
  unfold J0v;dsimp only;refine .bind λE h2=>.not (λ_=>.some nofun) λq=>.eqf (λx=>.bind λz h3=>.eq (λ_=>.some nofun) λ_=>.bind λk h4=>.bind λB h5=>.not (λ_=>.some nofun) λr=>.bind λC v=>.bind λw g=>.some λ_=>?_) λ_=>.some nofun;subst r;obtain⟨v1,v2,v3⟩:=JhJ h2 q;have D:=Jho h4 v1 v2 v3;have A:=J4 (l:=l.2.1);have o:=Jb k 1;have n:J1 .i64 k 1=J0 l.2.1+1:=by omega
  rw[n]at h5 g⊢;rw[J3t g,JhC v];exact⟨rfl,rfl,h5,by omega⟩
 exact j _ h c
theorem JdT{l:JO}{n:Int}{y:J6t}(h:J19 (l,n)=some y)(c:y.2=0):y.1.2.1=l.2.1/\(J6S l->J6S y.1):=by
 have e:Par (J19 (l,n)) λy=>y.2=0->y.1.2.1=l.2.1/\(J6S l->J6S y.1):=by
  unfold J19;refine .bind λ_ h2=>.not (λ_=>.some nofun) λg=>.bind λm hm=>.gt (λ_=>.some nofun) λo=>.some λ_=>⟨rfl,λhi=>⟨hi.1,?_⟩⟩;obtain⟨v1,v2,v3⟩:=JhJ h2 g;have:=Jho hm v1 v2 v3;obtain⟨r,k,q,j⟩:=hi;have:=J5P l.2.2 n
  (try dsimp only at*)
  refine⟨by omega,by omega,j⟩
 exact e _ h c
abbrev eZ:J2:=(0,0,0,0,0,0,(0,0,(false,[]),false,[]),[])
theorem JJL:Jx eZ=some false:=rfl
theorem JGv{l:JO}{n:Int}{y:Jg1}(h:J0x (l,n)=some y):(y.2=0/\idx l.2.1 (JI .i64 n l.1)=some y.1)\/(y.2≠0/\y.1=eZ):=by
 have e:Par (J0x (l,n)) λy=>(y.2=0/\idx l.2.1 (JI .i64 n l.1)=some y.1)\/(y.2≠0/\y.1=eZ):=by unfold J0x;exact .bind λ_ _=>.not (λ_=>.some (.inr ⟨by decide,rfl⟩)) λ_=>.ltf (λ_=>.bind λ_ _=>.gt (λ_=>.some (.inr ⟨by decide,rfl⟩)) λ_=>.bind λ_ h=>.some (.inl ⟨rfl,h⟩)) λ_=>.some (.inr ⟨by decide,rfl⟩)
 exact e _ h
theorem J7S{p:JF}{id y:Int}(h:J15 (p,id)=some y):y<=9223372036854775807/\(0<=y-> ∃f,idx p.2.1 y=some f/\f.1.1=id)/\(y<0-> ∀f∈p.2.1,f.1.1≠id):=by
 have g:Par (J15 (p,id)) λy=>y<=9223372036854775807/\(0<=y-> ∃f,idx p.2.1 y=some f/\f.1.1=id)/\(y<0-> ∀f∈p.2.1,f.1.1≠id):=by
  unfold J15;refine .while (λz=>z.1=id/\z.2.2=p/\upw (λf:T_api_Frame=>f.1.1≠id) p.2.1 z.2.1) ⟨rfl,rfl,JiL⟩ ?_;rintro⟨a,i,q⟩ ⟨rfl,rfl,hu⟩;unfold J6y;refine .lt (λc=>.bind λf hf=>.eq (λe=>.some ⟨hu.1,λ_=>⟨f,hf,e⟩,λh=>?_⟩) λe=>.some ⟨rfl,rfl,J9u hu hf e⟩) λc=>.some ⟨by decide,λh=>absurd h (by decide),λ_=>Jcd hu c⟩;have:=(J0G hf).1
  (try dsimp only at h this);omega
 exact g _ h
theorem Jku{p:JF}{id y:Int}(h:J0S (p,id)=some y):(0<=y-> ∃f,idx p.2.1 y=some f/\f.1.1=id)/\(y<0->JL p=some true-> ∀f∈p.2.1,f.1.1≠id):=by
 have e:Par (J0S (p,id)) λy=>(0<=y-> ∃f,idx p.2.1 y=some f/\f.1.1=id)/\(y<0->JL p=some true-> ∀f∈p.2.1,f.1.1≠id):=by unfold J0S;refine .bind λv hv=>.not (λc=>.some ⟨λh=>absurd h (by decide),λ_ h=>?_⟩) λ_=>.bind λg h2=>.some ⟨(J7S h2).2.1,λh _=>(J7S h2).2.2 h⟩;rw[show JL p=some v from hv,c]at h;cases h
 exact e _ h
theorem JaS{p:JF}{id:Int}{y:JS×Bool}(h:J2j (p,id)=some y):(y.2=true-> ∃f∈p.2.1,f.1=y.1/\f.1.1=id)/\(y.2=false->JL p=some true-> ∀f∈p.2.1,f.1.1≠id):=by
 have j:Par (J2j (p,id)) λy=>(y.2=true-> ∃f∈p.2.1,f.1=y.1/\f.1.1=id)/\(y.2=false->JL p=some true-> ∀f∈p.2.1,f.1.1≠id):=by
  unfold J2j;refine .bind λi hi=>.lt (λc=>.some ⟨nofun,λ_=>(Jku hi).2 c⟩) λc=>.bind λf hf=>.some ⟨λ_=>?_,nofun⟩;obtain⟨g,h1,h2⟩:=(Jku hi).1 (by omega);have e:g=f:=by rw[show idx p.2.1 i=some f from hf]at h1;injection h1 with h1;exact h1.symm
  subst e;exact⟨g,J57 h1,rfl,h2⟩
 exact j _ h
end
end Go.Am
end
section
namespace Go.Am
set_option linter.unusedVariables false
set_option maxRecDepth 20000
set_option maxHeartbeats 1000000
section
variable {B S:Int} {l l':List J2} {n:Int} {fr:List T_api_Frame} {lk lk' rows rows':List T_api_Row} {f f':T_api_Frame} {i:Int}
theorem JC0(h:fr.Pairwise λa b=>a.1.1≠b.1.1){i j:Nat}{a b:T_api_Frame}(ha:fr[i]?=some a)(hb:fr[j]?=some b)(e:a.1.1=b.1.1):i=j:=by
 have:=List.pairwise_iff_getElem.1 h;obtain⟨h1,rfl⟩:=J2I.1 ha;obtain⟨h2,rfl⟩:=J2I.1 hb
 grind
theorem JEB(hf:idx fr i=some f)(k:f'.1.1=f.1.1)(h:fr.Pairwise λa b=>a.1.1≠b.1.1){x:T_api_Frame}(hx:x∈fr.set i.toNat f'):x=f'\/(x∈fr/\x.1.1≠f.1.1):=by
 obtain⟨n,hf⟩:=J0G hf;obtain⟨j,hj⟩:=J4V.1 hx;rw[List.getElem?_set]at hj;split at hj
 ·split at hj
  ·injection hj with hj;exact .inl hj.symm
  ·cases hj
 ·rename_i g;exact .inr ⟨zQ5 hj,λe=>g (JC0 h hf hj e.symm)⟩
theorem Rel.upd(h:Rel l n fr lk rows)(hf:idx fr i=some f)(g:f'.1.1=f.1.1)(ho: ∀q,q≠f.1.1->J0y l' q=J0y l q)(hr: ∀q,q≠f.1.1->idx rows' q=idx rows q)(h1:f'.1.2.1=J0y l' f.1.1)
  (h2:f'.2.1=false-> ∀r,idx rows' f.1.1=some r->r.1=J0y l' f.1.1) (h3: ∀r,idx rows' f.1.1=some r->r.1<=J0y l' f.1.1):Rel l' n (fr.set i.toNat f') lk rows':=by
 have hm:=J57 hf;have hs: ∀{x:T_api_Frame},x∈fr.set i.toNat f'->x=f'\/(x∈fr/\x.1.1≠f.1.1):=λhx=>JEB hf g h.one hx;have z:f'∈fr.set i.toNat f':=by obtain⟨y,hf⟩:=J0G hf;exact List.mem_set (J2I.1 hf).1 _
 refine⟨λx hx=>?_,?_,λx hx d hd=>?_,λx hx=>?_,λd hd=>?_,λp r hp=>?_⟩
 ·rcases hs hx with rfl|⟨hx,_⟩
  ·rw[g];exact h.rng _ hm
  ·exact h.rng _ hx
 ·have q:=h.one;obtain⟨y,hf⟩:=J0G hf;rw[List.pairwise_iff_getElem]at q⊢;intro a b ha hb w;obtain⟨hl,rfl⟩:=J2I.1 hf;simp only[List.getElem_set];simp only[List.length_set]at ha hb;have q1:=q a b ha hb w
  grind
 ·rcases hs hx with rfl|⟨hx,_⟩
  ·rw[g];exact h.apt _ hm d hd
  ·exact h.apt _ hx d hd
 ·rcases hs hx with rfl|⟨hx,o⟩
  ·rw[g];exact⟨h1,h2⟩
  ·rw[ho _ o,hr _ o];exact h.hot _ hx
 ·rw[h.lak d hd,ho];exact h.apt _ hm d hd
 ·by_cases k:p=f.1.1
  ·subst k;exact⟨h3 r hp,λhq=>absurd g (hq _ z)⟩
  ·rw[hr _ k]at hp;obtain⟨q1,q2⟩:=h.row p r hp;rw[ho _ k];refine⟨q1,λa b=>q2 (λx hx e=>?_) b⟩;have v:x∈fr.set i.toNat f':=by
    obtain⟨y,hf⟩:=J0G hf;obtain⟨j,hj⟩:=J4V.1 hx;refine zQ5 (i:=j) ?_;rw[List.getElem?_set,if_neg]
    ·exact hj
    ·rintro rfl;rw[hf]at hj;injection hj with hj;subst hj;exact k e.symm
   exact a x v e
theorem Rel.drop(h:Rel l n fr lk rows)(hf:idx fr i=some f)(hc:f.2.1=false):Rel l n (fr.eraseIdx i.toNat) lk rows:=by
 have hm: ∀{x:T_api_Frame},x∈fr.eraseIdx i.toNat->x∈fr:=λhx=>(List.eraseIdx_sublist fr i.toNat).subset hx;refine⟨λx hx=>h.rng x (hm hx),h.one.sublist (List.eraseIdx_sublist fr i.toNat),λx hx=>h.apt x (hm hx),λx hx=>h.hot x (hm hx),h.lak,λp r hp=>?_⟩;obtain⟨q1,q2⟩:=h.row p r hp;refine⟨q1,λa b=>?_⟩;by_cases g:p=f.1.1
 ·subst g;exact(h.hot f (J57 hf)).2 hc r hp
 ·refine q2 (λx hx e=>?_) b;obtain⟨o,hf⟩:=J0G hf;obtain⟨j,hj⟩:=J4V.1 hx;have k:j≠i.toNat:=by rintro rfl;rw[hf]at hj;injection hj with hj;subst hj;exact g e.symm
  exact a x (List.mem_eraseIdx_iff_getElem?.2 ⟨j,k,hj⟩) e
theorem Rel.add(h:Rel l n fr lk rows)(hn: ∀x∈fr,x.1.1≠f.1.1)(hr:0<=f.1.1/\f.1.1<n)(h1:f.1.2.1=J0y l f.1.1)(h2:f.2.1=false-> ∀r,idx rows f.1.1=some r->r.1=J0y l f.1.1)
  (hs: ∀d,d∈lk'↔d∈lk/\d.1≠f.1.1):Rel l n (fr++[f]) lk' rows:=by
 have hm: ∀{x:T_api_Frame},x∈fr++[f]->x∈fr\/x=f:=λhx=>by simpa using hx
 refine⟨λx hx=>?_,?_,λx hx d hd=>?_,λx hx=>?_,λd hd=>h.lak d ((hs d).1 hd).1,λp r hp=>?_⟩
 ·rcases hm hx with hx|rfl
  ·exact h.rng x hx
  ·exact hr
 ·rw[List.pairwise_append];exact⟨h.one,List.pairwise_singleton _ _,λa ha b hb=>by simp at hb;subst hb;exact hn a ha⟩
 ·rcases hm hx with hx|rfl
  ·exact h.apt x hx d ((hs d).1 hd).1
  ·exact((hs d).1 hd).2
 ·rcases hm hx with hx|rfl
  ·exact h.hot x hx
  ·exact⟨h1,h2⟩
 ·obtain⟨q1,q2⟩:=h.row p r hp;refine⟨q1,λa b=>?_⟩;have hf:f.1.1≠p:=a f (by simp);exact q2 (λx hx=>a x (by simp[hx])) λd hd e=>b d ((hs d).2 ⟨hd,by rw[e];exact hf.symm⟩) e
theorem Jip{p q:JF}(h:J1s (p,i,f)=some q):q=(p.1,p.2.1.set i.toNat f,p.2.2):=by
 have e:Par (J1s (p,i,f)) λq=>q=(p.1,p.2.1.set i.toNat f,p.2.2):=by unfold J1s;refine .bind λg h2=>.bind λ_ _=>.bind λ_ _=>.some ?_;rw[JhC h2];rfl
 exact e _ h
theorem Rel.use(h:Rel l n fr lk rows)(hf:idx fr i=some f)(h1:f'.1=f.1)(h2:f'.2.1=f.2.1):Rel l n (fr.set i.toNat f') lk rows:=by have q:=h.hot f (J57 hf);exact h.upd hf (by rw[h1]) (λ_ _=>rfl) (λ_ _=>rfl) (by rw[h1];exact q.1) (by rw[h2];exact q.2) λr hr=>(h.row _ r hr).1
theorem JJy{p q:JF}{id:Int}(e:J6o (p,id)=some q)(h:Rel l n p.2.1 lk rows):Rel l n q.2.1 lk rows:=by
 have g:Par (J6o (p,id)) λq=>Rel l n q.2.1 lk rows:=by unfold J6o;refine .bind λj hj=>.lt (λ_=>.some h) λc=>.bind λx hx=>.bind λy hy=>.some ?_;rw[Jip hy];exact h.use hx rfl rfl
 exact g _ e
theorem JE8{p:JF}{y:JlQ}(e:J39 p=some y)(h:Rel l n p.2.1 lk rows):y.2.2=0->Rel l n y.1.2.1 lk rows:=by
 have g:Par (J39 p) λy=>y.2.2=0->Rel l n y.1.2.1 lk rows:=by unfold J39;refine .bind λ_ _=>.not (λ_=>.some nofun) λ_=>.eq (λ_=>.some nofun) λ_=>.while (λz=>Rel l n z.1.2.1 lk rows) h ?_;intro z hz;unfold J75;refine .bind λx hx=>.ite (λ_=>.bind λy hy=>.bind λq hq=>.bind λ_ _=>.some ?_) λ_=>.map (.bind λ_ _=>.some λ_=>hz);show Rel l n q.2.1 lk rows;rw[Jip hq];exact hz.use hy rfl rfl
 exact g _ e
theorem JIe{p:JF}{id:Int}{y:J6c}(e:J3I (p,id)=some y)(c:y.2=0)(h:Rel l n p.2.1 lk rows):Rel l n y.1.2.1 lk rows:=by
 have k:Par (J3I (p,id)) λy=>y.2=0->Rel l n y.1.2.1 lk rows:=by
  unfold J3I;refine .bind λ_ _=>.not (λ_=>.some nofun) λ_=>.bind λj hj=>.lt (λ_=>.some nofun) λ_=>.bind λx hx=>.ite (λ_=>.some nofun) λr=>.bind λF h5=>.bind λG B=>.bind λC v=>.bind λw z=>?_;have A:w=p.2.1.eraseIdx j.toNat:=by obtain⟨E,k1⟩:=JtF v;have o:=Jb j 1;have q:=(J7S hj).1;have D:=(J0G hx).1;rw[J3t z,JhC B,(JCU h5).2.2,k1,List.eraseIdx_eq_take_drop_succ,show(J1 .i64 j 1).toNat=j.toNat+1 by omega]
  have g:=h.drop hx r;rw[<-A]at g;exact .lt (λ_=>.ge (λ_=>.some λ_=>g) λ_=>.some λ_=>g) λ_=>.ge (λ_=>.some λ_=>g) λ_=>.some λ_=>g
 exact k _ e c
end
end Go.Am
end
section
namespace Go.Am
set_option linter.unusedVariables false
set_option maxRecDepth 20000
set_option maxHeartbeats 1000000
section
variable {B S:Int} {l l':List J2} {n:Int} {fr:List T_api_Frame} {lk lk' rows rows':List T_api_Row} {f f':T_api_Frame} {i:Int}
theorem Jca{k:J5}{id:Int}{y:T_api_Row×Bool}(e:J2Y (k,id)=some y):(y.2=true->y.1∈k.2.2.2.2.2.2.2/\y.1.1=id)/\(y.2=false-> ∀d∈k.2.2.2.2.2.2.2,d.1≠id):=by
 have h:Par (J2Y (k,id)) λy=>(y.2=true->y.1∈k.2.2.2.2.2.2.2/\y.1.1=id)/\(y.2=false-> ∀d∈k.2.2.2.2.2.2.2,d.1≠id):=by
  unfold J2Y;refine .while (λz=>z.1=id/\z.2.2.1=k/\upw (λd:T_api_Row=>d.1≠id) k.2.2.2.2.2.2.2 z.2.1) ⟨rfl,rfl,JiL⟩ ?_;rintro⟨a,i,q,r⟩ ⟨rfl,rfl,hu⟩;unfold Ja8;refine .lt (λc=>.bind λd hd=>.eq (λe=>.bind λj g=>.some ⟨λ_=>?_,nofun⟩) λe=>.some ⟨rfl,rfl,J9u hu hd e⟩) λc=>.some ⟨nofun,λ_=>Jcd hu c⟩;rw[hd]at g;injection g with g;subst g
  exact⟨J57 hd,e⟩
 exact h _ e
theorem Jbd{k:J5}(e:Jq k=some true):JL k.2.2.2.1=some true:=by
 have k1:Par (J1Q k) λy=>y=true->JL k.2.2.2.1=some true:=by unfold J1Q;refine .ge (λ_=>.le (λ_=>.ge (λ_=>.le (λ_=>.bind λ_ _=>.ite (λ_=>.bind λh h3=>.ite (λc=>λ_ _ _=>?_) λ_=>.some nofun) λ_=>.some nofun) λ_=>.some nofun) λ_=>.some nofun) λ_=>.some nofun) λ_=>.some nofun;rw[<-c];exact h3
 have g:Par (Jq k) λy=>y=true->JL k.2.2.2.1=some true:=by unfold Jq;exact .bind λa ha=>.not (λ_=>.some nofun) λc=>λ_ _ _=>k1 _ ha c
 exact g _ e rfl
theorem Jm4{k:J5}{p h:Int}(e:J2S (k,p)=some h)(hv:Jq k=some true)(hi:JC k)(o:0<=p)(h1:p<k.1):h=J0y k.2.2.1.2.1 p:=by
 have n:Par (J2S (k,p)) λh=>h=J0y k.2.2.1.2.1 p:=by
  obtain⟨_,_,r⟩:=hi;unfold J2S;refine .bind λv g=>.nof (λ_=>.ltf (λ_=>.ge (λc=>absurd h1 (by(try dsimp only at c);omega)) λ_=>.bind λw h3=>.ite (λc3=>.some ?_) λc3=>.bind λx h4=>.ite (λj=>.some ?_) λj=>.bind λq h5=>.some ?_) λc=>absurd o (by(try dsimp only at c);omega)) λc=>?_
  ·obtain⟨f,hf,e1,e2⟩:=(JaS h3).1 c3;rw[<-e1,(r.hot f hf).1,e2]
  ·obtain⟨e1,e2⟩:=(Jca h4).1 j;rw[r.lak _ e1,e2]
  ·exact(r.row p q h5).2 ((JaS h3).2 c3 (Jbd hv)) ((Jca h4).2 j)
  ·rw[hv]at g;injection g with g;subst g;cases c
 exact n _ e
theorem Jtm{e:J2}{y:JbO}(h:J1q (rows,e)=some y)(c:y.2=0):Jx e=some true/\(e.2.1≠7->y.1=rows)/\(e.2.1=7->(∀q,q≠pgE e->idx y.1 q=idx rows q)/\ ∀r,idx y.1 (pgE e)=some r-> ∃r0,idx rows (pgE e)=some r0/\r.1=J1o r0.1 e.2.2.2.2.2.1):=by
 have n:Par (J1q (rows,e)) λy=>y.2=0->Jx e=some true/\(e.2.1≠7->y.1=rows)/\(e.2.1=7->(∀q,q≠pgE e->idx y.1 q=idx rows q)/\ ∀r,idx y.1 (pgE e)=some r-> ∃r0,idx rows (pgE e)=some r0/\r.1=J1o r0.1 e.2.2.2.2.2.1):=by
  unfold J1q;refine .bind λ_ _=>.not (λ_=>.some nofun) λ_=>.bind λv hv=>.not (λ_=>.some nofun) λk=>.ne (λc=>.some λ_=>⟨by rw[<-k];exact hv,λ_=>rfl,λh=>absurd h c⟩) λc=>.ge (λ_=>.some nofun) λ_=>.bind λr0 j=>.bind λg h5=>.some λ_=>⟨by rw[<-k];exact hv,λh=>absurd c h,λ_=>?_⟩;have o:g=rows.set (pgE e).toNat (J1o r0.1 e.2.2.2.2.2.1,r0.2):=by
   have x:Par (J7k (rows,pgE e,J1o r0.1 e.2.2.2.2.2.1,r0.2)) λg=>g=rows.set (pgE e).toNat (J1o r0.1 e.2.2.2.2.2.1,r0.2):=by unfold J7k;refine .bind λz h2=>.bind λ_ _=>.bind λ_ _=>.some ?_;rw[JhC h2];rfl
   exact x _ h5
  subst o;obtain⟨w,q1⟩:=J0G j;refine⟨λq hq=>?_,λr hr=>⟨r0,j,?_⟩⟩
  ·unfold idx;split
   ·rw[List.getElem?_set,if_neg (by have:((rows,e).2.2.2.2.2.2.2.1.1)=pgE e:=rfl;rw[this]at w;omega)]
   ·rfl
  ·obtain⟨_,hr⟩:=J0G hr;rw[List.getElem?_set]at hr;simp at hr;rw[<-hr.2]
 exact n _ h c
theorem JzR{l:JO}{e:J2}{y:JfF}(h:J0v (l,e)=some y)(c:y.2.2=0):1<=l.1/\l.1<=1099511627776/\J0 l.2.1<=4096:=by
 have g:Par (J0v (l,e)) λy=>y.2.2=0->1<=l.1/\l.1<=1099511627776/\J0 l.2.1<=4096:=by unfold J0v;exact .bind λk h2=>.not (λ_=>.some nofun) λj=>λ_ _ _=>JhJ h2 j
 exact g _ h c
def JnK(k:J5)(e:J2)(y:J6Z):Prop:=Jq k=some true/\ ∃e':J2,e'.2.1=e.2.1/\e'.2.2.2.2.2=e.2.2.2.2.2/\e'.1=J0 k.2.2.1.2.1+1/\y.2.1=e'.1/\y.1.1=k.1/\y.1.2.2.1=(1,k.2.2.1.2.1++[e'],k.2.2.1.2.2)/\J6S y.1.2.2.1/\y.1.2.2.2.1=k.2.2.2.1/\y.1.2.2.2.2.2.2.2=k.2.2.2.2.2.2.2/\J2L (k.2.2.1.2.1++[e'])/\(e.2.1≠7->y.1.2.2.2.2.2.2.1=k.2.2.2.2.2.2.1)/\(e.2.1=7->(∀q,q≠pgE e->idx y.1.2.2.2.2.2.2.1 q=idx k.2.2.2.2.2.2.1 q)/\ ∀r,idx y.1.2.2.2.2.2.2.1 (pgE e)=some r-> ∃r0,idx k.2.2.2.2.2.2.1 (pgE e)=some r0/\r.1=J1o r0.1 e.2.2.2.2.2.1)
theorem JAZ{k:J5}{e0 e:J2}{z:J6Z}(hv:Jq k=some true)(hi:JC k)(h1:e0.2.1=e.2.1)(h2:e0.2.2.2.2.2=e.2.2.2.2.2)(hp:(e.2.1=1\/e.2.1=2)->e0.2.2.2.2.1=J0y k.2.2.1.2.1 (pgE e))
  (L:e.2.1=7->e.2.2.2.2.2.1<=J0y k.2.2.1.2.1 (pgE e)) (M:e.2.1=6->JA6 k.2.2.1.2.1 e.2.2.2.2.2.2.2)
  (hz:((J0v (k.2.2.1,e0)).bind λg=>
   if neI g.2.2 0 then
    some ((0,0,(0,[],0),(0,[],0),([],[]),[],[],[]),0,g.2.2)
   else
    (J0x (g.1,g.2.1)).bind λr=>
    (J0A (k.2.2.2.2.2.1,r.1)).bind λj=>
    if neI j.2 0 then
     some ((0,0,(0,[],0),(0,[],0),([],[]),[],[],[]),0,j.2)
    else
     (J1q (k.2.2.2.2.2.2.1,r.1)).bind λn=>
     if neI n.2 0 then
      some ((0,0,(0,[],0),(0,[],0),([],[]),[],[],[]),0,n.2)
     else
      some ((k.1,k.2.1,g.1,k.2.2.2.1,k.2.2.2.2.1,j.1,n.1,k.2.2.2.2.2.2.2),g.2.1,0))=some z):z.2.2=0->JnK k e z:=by
 have G:Par ((J0v (k.2.2.1,e0)).bind λg=>
   if neI g.2.2 0 then
    some ((0,0,(0,[],0),(0,[],0),([],[]),[],[],[]),0,g.2.2)
   else
    (J0x (g.1,g.2.1)).bind λr=>
    (J0A (k.2.2.2.2.2.1,r.1)).bind λj=>
    if neI j.2 0 then
     some ((0,0,(0,[],0),(0,[],0),([],[]),[],[],[]),0,j.2)
    else
     (J1q (k.2.2.2.2.2.2.1,r.1)).bind λn=>
     if neI n.2 0 then
      some ((0,0,(0,[],0),(0,[],0),([],[]),[],[],[]),0,n.2)
     else
      some ((k.1,k.2.1,g.1,k.2.2.2.1,k.2.2.2.2.1,j.1,n.1,k.2.2.2.2.2.2.2),g.2.1,0)) λz=>z.2.2=0->JnK k e z:=by
  obtain⟨g1,g2,R⟩:=hi;refine .bind λg A=>.ne (λc=>.some λh=>absurd h c) λx=>.bind λr I=>.bind λj N=>.ne (λc=>.some λh=>absurd h c) λ_=>.bind λn E=>.ne (λc=>.some λh=>absurd h c) λD=>.some λ_=>?_;obtain⟨b1,b2,K,Q⟩:=JE6 A x g1.1;have O:=J4 (l:=k.2.2.1.2.1);obtain⟨H,F,B⟩:=Jtm E D;have J:r.1=(J0 k.2.2.1.2.1+1,e0.2):=by
   rcases JGv I with⟨_,h⟩|⟨_,h⟩
   ·rw[b1,b2,g1.1]at h;obtain⟨_,h⟩:=J0G h;have v:=(JzR A x).2.2;have o:=J0o (J0 k.2.2.1.2.1+1) 1;rw[show(JI .i64 (J0 k.2.2.1.2.1+1) 1).toNat=k.2.2.1.2.1.length by unfold J0 at*;omega]at h;simp at h;exact h.symm
   ·rw[h,JJL]at H;cases H
  rw[J]at F B;have w:pgE (J0 k.2.2.1.2.1+1,e0.2)=pgE e:=congrArg (λz:Int×T_api_Change×List UInt8=>z.2.1.1) h2;have y:e0.2.2.2.2.2.1=e.2.2.2.2.2.1:=congrArg (λz:Int×T_api_Change×List UInt8=>z.1) h2;have C:e0.2.2.2.2.2.2.2=e.2.2.2.2.2.2.2:=congrArg (λz:Int×T_api_Change×List UInt8=>z.2.2) h2;refine⟨hv,(J0 k.2.2.1.2.1+1,e0.2),h1,h2,rfl,b2,rfl,?_,?_,rfl,rfl,?_,λc=>F (by rw[<-h1]at c;exact c),λc=>?_⟩
  ·show g.1=_;rw[b1,g1.1]
  ·show J6S g.1;rw[b1,g1.1];obtain⟨q1,q2,q3,P⟩:=g1;refine⟨rfl,q2,?_,?_⟩
   all_goals
    show _<=_;dsimp only;rw[J80,J5y];omega
  ·refine g2.app ⟨rfl,K,λc=>?_,λc=>?_,λc=>?_⟩
   ·rw[w];exact hp (by rw[<-h1];exact c)
   ·rw[w];exact y▸L (h1▸c)
   ·exact C▸M (h1▸c)
  ·have q:=B (h1.trans c);rw[w]at q;exact y▸q
 exact G _ hz
theorem Jsy{k:J5}{e:J2}{y:J6Z}(h:J0Q (k,e)=some y)(c:y.2.2=0)(hi:JC k)(hp:(e.2.1=1\/e.2.1=2)->0<=pgE e/\pgE e<k.1)
  (q:e.2.1=7->e.2.2.2.2.2.1<=J0y k.2.2.1.2.1 (pgE e)) (r:e.2.1=6->JA6 k.2.2.1.2.1 e.2.2.2.2.2.2.2):JnK k e y:=by
 have x: ∀{o:J2} {b:Bool},Jz o=some b->b=false-> ¬(o.2.1=1\/o.2.1=2):=fun{o b} hb j=>by
  have k1:Par (Jz o) λb=>b=false-> ¬(o.2.1=1\/o.2.1=2):=by unfold Jz;exact .eqf (λD=>.some λd=>λh=>by rcases h with h|h;exact D h;rw[J59.2 h]at d;cases d) λ_=>.some nofun
  exact k1 _ hb j
 have A:Par (J0Q (k,e)) λy=>y.2.2=0->JnK k e y:=by
  unfold J0Q;refine .bind λv hv=>.not (λ_=>.some nofun) λC=>?_;have g:Jq k=some true:=by rw[<-C];exact hv
  refine .gt (λ_=>.bind λE _=>.lt (λ_=>.some nofun) λ_=>.bind λB _=>.bind λb hb=>.ite (λj=>.bind λw n=>λz hz=>JAZ (e0:=(e.1,e.2.1,e.2.2.1,B.2.2.1,w,e.2.2.2.2.2)) g hi rfl rfl ?_ q r hz) λj=>λz hz=>JAZ (e0:=(e.1,e.2.1,e.2.2.1,B.2.2.1,0,e.2.2.2.2.2)) g hi rfl rfl ?_ q r hz) λ_=>.bind λb hb=>.ite (λj=>.bind λw n=>λz hz=>JAZ (e0:=(e.1,e.2.1,e.2.2.1,0,w,e.2.2.2.2.2)) g hi rfl rfl ?_ q r hz) λj=>λz hz=>JAZ (e0:=(e.1,e.2.1,e.2.2.1,0,0,e.2.2.2.2.2)) g hi rfl rfl ?_ q r hz
  all_goals intro hc
  ·exact Jm4 n g hi (hp hc).1 (hp hc).2
  ·exact absurd hc (x hb j)
  ·exact Jm4 n g hi (hp hc).1 (hp hc).2
  ·exact absurd hc (x hb j)
 exact A _ h c
end
end Go.Am
end
section
namespace Go.Am
set_option linter.unusedVariables false
set_option maxRecDepth 20000
set_option maxHeartbeats 1000000
section
variable {l E F:List J2} {p:Int}
theorem ltE.irr{a:J2}: ¬ltE a a:=by unfold ltE;omega
theorem ltE.asym{a b:J2}(h:ltE a b): ¬ltE b a:=by unfold ltE at*;omega
theorem Jpb: ∀{a b:List J2},a.Pairwise ltE->b.Pairwise ltE->(∀x,x∈a↔x∈b)->a=b
 |[],[],_,_,_=>rfl
 |[],y::b,_,_,h=>absurd ((h y).2 List.mem_cons_self) (by simp)
 |x::a,[],_,_,h=>absurd ((h x).1 List.mem_cons_self) (by simp)
 |x::a,y::b,ha,hb,h=>by
  obtain⟨a1,a2⟩:=List.pairwise_cons.1 ha;obtain⟨b1,b2⟩:=List.pairwise_cons.1 hb;have e:x=y:=by
   rcases J2U.1 ((h x).1 List.mem_cons_self)with q|q
   ·exact q
   ·rcases J2U.1 ((h y).2 List.mem_cons_self)with q2|q2
    ·exact q2.symm
    ·exact absurd (b1 x q) (a1 y q2).asym
  subst e;refine congrArg (x:: ·) (Jpb a2 b2 λz=>⟨λhz=>?_,λhz=>?_⟩)
  ·rcases J2U.1 ((h z).1 (JcV _ hz))with rfl|q
   ·exact absurd (a1 z hz) ltE.irr
   ·exact q
  ·rcases J2U.1 ((h z).2 (JcV _ hz))with rfl|q
   ·exact absurd (b1 z hz) ltE.irr
   ·exact q
theorem JHb(a b:J2):ltE a b\/(pgE a=pgE b/\a.1=b.1)\/ltE b a:=by unfold ltE;omega
theorem JfN{e:J2}(hd: ∀x∈l,x.1≠e.1): ∀x,x∈J2m l e↔x∈l\/x=e:=by
 induction l with
 |nil=>intro x;simp[J2m]
 |cons y l ih=>
  intro x;have hy:=hd y List.mem_cons_self;have g: ¬J6n y e=0:=λh=>hy (JdM.1 h).2;unfold J2m;split
  ·rw[J2U,ih (λz hz=>hd z (JcV _ hz)),J2U,or_assoc]
  ·simp only[J2U];constructor
   ·rintro(h|h|h)
    ·exact .inr h
    ·exact .inl (.inl h)
    ·exact .inl (.inr h)
   ·rintro((h|h)|h)
    ·exact .inr (.inl h)
    ·exact .inr (.inr h)
    ·exact .inl h
theorem Jjj{e:J2}(hs:l.Pairwise ltE)(hd: ∀x∈l,x.1≠e.1):(J2m l e).Pairwise ltE:=by
 induction l with
 |nil=>exact List.pairwise_singleton _ _
 |cons y l ih=>
  obtain⟨h1,h2⟩:=List.pairwise_cons.1 hs;have hy:=hd y List.mem_cons_self;have k: ¬J6n y e=0:=λh=>hy (JdM.1 h).2;have j: ∀x∈l,x.1≠e.1:=λz hz=>hd z (JcV _ hz);unfold J2m;split
  ·rename_i c;refine List.pairwise_cons.2 ⟨λz hz=>?_,ih h2 j⟩;rcases(JfN j z).1 hz with q|rfl
   ·exact h1 z q
   ·exact J7Y.1 c
  ·rename_i c;have g:ltE e y:=by
    rcases JHb y e with q|q|q
    ·exact absurd (J7Y.2 q) c
    ·exact absurd q.2 hy
    ·exact q
   refine List.pairwise_cons.2 ⟨λz hz=>?_,hs⟩;rcases J2U.1 hz with rfl|hz
   ·exact g
   ·exact g.trans (h1 z hz)
theorem JtI{e:J2}(hd: ∀x∈l,x.1≠e.1):(J2m l e).length=l.length+1:=by
 induction l with
 |nil=>simp[J2m]
 |cons y k ih=>
  have g: ¬J6n y e=0:=λh=>hd y List.mem_cons_self (JdM.1 h).2;unfold J2m;split
  ·have:=ih λz hz=>hd z (JcV _ hz);simp at this⊢;omega
  ·simp
def srt(l:List J2):List J2:=l.foldl J2m []
theorem Jzf(l:List J2)(e:J2):srt (l++[e])=J2m (srt l) e:=by simp[srt,List.foldl_append]
def Inc(l:List J2):Prop:=l.Pairwise λa b=>a.1<b.1
theorem Jtf: ∀{n:Nat} {l:List J2},l.length=n->Inc l->(srt l).Pairwise ltE/\(∀x,x∈srt l↔x∈l)/\(srt l).length=l.length
 |0,l,h,_=>by rw[List.length_eq_zero_iff.1 h];exact⟨.nil,by simp[srt],rfl⟩
 |n+1,l,h,hi=>by
  obtain⟨m,e,rfl⟩: ∃m e,l=m++[e]:=⟨l.dropLast,l.getLast (by intro q;rw[q]at h;simp at h),(List.dropLast_concat_getLast _).symm⟩;have hm:m.length=n:=by simpa using h
  obtain⟨j,r,o⟩:=List.pairwise_append.1 hi;obtain⟨s1,g,k⟩:=Jtf hm j;have hd: ∀x∈srt m,x.1≠e.1:=λx hx=>by have:=o x ((g x).1 hx) e (by simp);omega
  rw[Jzf];refine⟨Jjj s1 hd,λx=>by rw[JfN hd,g];simp,?_⟩;rw[JtI hd,k];simp
theorem J2L.inc(h:J2L l):Inc l:=by unfold Inc;rw[List.pairwise_iff_getElem];intro i j hi hj e;have a:=(h i _ (zQ9 hi)).1;have b:=(h j _ (zQ9 hj)).1;unfold J0 at a b;rw[J7w]at a b;omega
theorem J2L.at(h:J2L l){i:Nat}{e:J2}(he:l[i]?=some e):e.1=(i:Int)+1:=by have a:=(h i e he).1;have:=(J2I.1 he).1;unfold J0 at a;rw[J7w]at a;omega
theorem JxQ(h:J2L l)(p:Int):(J0y l p=0\/ ∃x∈l,(x.2.1=1\/x.2.1=2)/\pgE x=p/\x.1=J0y l p)/\ ∀x∈l,(x.2.1=1\/x.2.1=2)->pgE x=p->x.1<=J0y l p:=by
 have e: ∀n:Nat,n<=l.length->(J0y (l.take n) p=0\/ ∃x∈l.take n,(x.2.1=1\/x.2.1=2)/\pgE x=p/\x.1=J0y (l.take n) p)/\ ∀x∈l.take n,(x.2.1=1\/x.2.1=2)->pgE x=p->x.1<=J0y (l.take n) p:=by
  intro n
  induction n with
  |zero=>intro _;exact⟨.inl rfl,by simp⟩
  |succ n ih=>
   intro hn;obtain⟨h1,h2⟩:=ih (by omega);have he:=zQ9 (l:=l) (i:=n) (by omega);have g:l.take (n+1)=l.take n++[l[n]]:=by rw[List.take_add_one,he];rfl
   have en:=h.at he;rw[g,J70];split
   ·rename_i c;refine⟨.inr ⟨l[n],List.mem_append_right _ (J9K.2 rfl),c.1,c.2,rfl⟩,λx hx a b=>?_⟩;rcases J1U.1 hx with hx|hx
    ·obtain⟨j,hj⟩:=J4V.1 hx;rw[Jng]at hj;split at hj
     ·have:=h.at hj;omega
     ·cases hj
    ·simp at hx;subst hx;exact J0C _
   ·rename_i c;refine⟨?_,λx hx a b=>?_⟩
    ·rcases h1 with h1|⟨x,q1,q2⟩
     ·exact .inl h1
     ·exact .inr ⟨x,List.mem_append_left _ q1,q2⟩
    ·rcases J1U.1 hx with hx|hx
     ·exact h2 x hx a b
     ·simp at hx;subst hx;exact absurd ⟨a,b⟩ c
 have:=e l.length (zQ0 _);rwa[List.take_length]at this
theorem Juc(h:J2L l){e:J2}(he:e∈l)(hc:e.2.1=1\/e.2.1=2):e.2.2.2.2.1<e.1/\(e.2.2.2.2.1=0\/ ∃x∈l,(x.2.1=1\/x.2.1=2)/\pgE x=pgE e/\x.1=e.2.2.2.2.1)/\ ∀x∈l,(x.2.1=1\/x.2.1=2)->pgE x=pgE e->x.1<e.1->x.1<=e.2.2.2.2.1:=by
 obtain⟨i,hi⟩:=J4V.1 he;obtain⟨q1,q2,q3,_⟩:=h i e hi;have q:=h.at hi;rw[q3 hc];obtain⟨s1,g⟩:=JxQ (h.take i) (pgE e);have k: ∀x∈l.take i,x.1<e.1:=λx hx=>by
  obtain⟨j,hj⟩:=J4V.1 hx;rw[Jng]at hj;split at hj
  ·have:=h.at hj;omega
  ·cases hj
 refine⟨?_,?_,λx hx a b c=>?_⟩
 ·rcases s1 with s1|⟨x,x1,_,_,o⟩
  ·omega
  ·have:=k x x1;omega
 ·rcases s1 with s1|⟨x,x1,n⟩
  ·exact .inl s1
  ·exact .inr ⟨x,JBM x1,n⟩
 ·refine g x ?_ a b;obtain⟨j,hj⟩:=J4V.1 hx;have:=h.at hj;refine zQ5 (i:=j) ?_;rw[Jng,if_pos (by omega)];exact hj
def inB(f t lo hi:Int)(e:J2):Bool:=decide ((e.2.1=1\/e.2.1=2)/\(lo<=pgE e/\pgE e<=hi)/\f<=e.1/\e.1<=t)
theorem J5N{f t lo hi:Int}{e:J2}:inB f t lo hi e=true↔(e.2.1=1\/e.2.1=2)/\(lo<=pgE e/\pgE e<=hi)/\f<=e.1/\e.1<=t:=by simp[inB]
def sel(l:List J2)(f t lo hi:Int):List J2:=srt (l.filter (inB f t lo hi))
theorem Inc.filter(h:Inc l)(q:J2->Bool):Inc (l.filter q):=h.sublist (List.filter_sublist)
theorem JlU(h:J2L l)(f t lo hi:Int):(sel l f t lo hi).Pairwise ltE/\(∀x,x∈sel l f t lo hi↔x∈l/\inB f t lo hi x=true)/\(sel l f t lo hi).length<=l.length:=by obtain⟨s1,g,e⟩:=Jtf rfl (h.inc.filter (inB f t lo hi));exact⟨s1,λx=>by unfold sel;rw[g,List.mem_filter],by unfold sel;rw[e];exact List.length_filter_le _ _⟩
theorem adj(hs:E.Pairwise ltE){j:Nat}{a b x:J2}(ha:E[j]?=some a)(hb:E[j+1]?=some b)(hx:x∈E)(h1:ltE a x)(h2:ltE x b):False:=by
 obtain⟨i,hi⟩:=J4V.1 hx;rw[List.pairwise_iff_getElem]at hs;obtain⟨la,rfl⟩:=J2I.1 ha;obtain⟨h,rfl⟩:=J2I.1 hb;obtain⟨e,rfl⟩:=J2I.1 hi;by_cases c:i<=j
 ·rcases Nat.lt_or_eq_of_le c with c|c
  ·exact h1.asym (hs i j e la c)
  ·subst c;exact ltE.irr h1
 ·by_cases g:i=j+1
  ·subst g;exact ltE.irr h2
  ·exact h2.asym (hs (j+1) i h e (by omega))
theorem JaD(h:J2L l)(hl:J0 l<=4096){f t lo hi lv:Int}(hn:J7B (f,t,lo,hi,lv,[])):J4Z (f,t,lo,hi,lv,sel l f t lo hi):=by
 obtain⟨s1,o,s3⟩:=JlU h f t lo hi;obtain⟨a1,a2,a3,a4,G,M,v,r⟩:=hn
 (try dsimp only at a1 a2 a3 a4 G M v r)
 have val: ∀x∈l,Jx x=some true:=λx hx=>by obtain⟨i,hi⟩:=J4V.1 hx;exact(h i x hi).2.1
 refine⟨⟨a1,a2,a3,a4,G,M,v,r⟩,?_,λj e he=>?_,λe he=>?_,λj a b ha hb=>?_⟩
 ·show J0 (sel l f t lo hi)<=4096;unfold J0 at*;omega
 ·obtain⟨q1,q2⟩:=(o e).1 (zQ5 he);obtain⟨b1,b2,w,L⟩:=J5N.1 q2;exact⟨val e q1,b1,w,L,b2.1,b2.2⟩
 ·have hm:=zQ5 he;obtain⟨q1,q2⟩:=(o e).1 hm;obtain⟨b1,b2,w,L⟩:=J5N.1 q2;obtain⟨P,g,c3⟩:=Juc h q1 b1;dsimp only;rcases g with g|⟨x,x1,k,n,q⟩
  ·omega
  ·rcases Int.lt_or_le e.2.2.2.2.1 f with c|c
   ·exact c
   ·have hx:x∈sel l f t lo hi:=(o x).2 ⟨x1,J5N.2 ⟨k,by omega,by omega,by omega⟩⟩;obtain⟨i,hi⟩:=J4V.1 hx;exfalso;have B:ltE x e:=.inr ⟨n,by omega⟩;rcases Nat.eq_zero_or_pos i with z|z
    ·subst z
     (try dsimp only at he)
     rw[he]at hi;injection hi with hi;subst hi;exact ltE.irr B
    ·rw[List.pairwise_iff_getElem]at s1;obtain⟨l0,e0⟩:=J2I.1 he;obtain⟨O,Q⟩:=J2I.1 hi;have:=s1 0 i l0 O z;rw[Q]at this
     (try dsimp only at e0)
     rw[e0]at this;exact B.asym this
 ·(try dsimp only at ha hb)
  have J:=zQ5 ha;have K:=zQ5 hb;obtain⟨y,A⟩:=(o a).1 J;obtain⟨E,N⟩:=(o b).1 K;obtain⟨D,Y,a9,a0⟩:=J5N.1 A;obtain⟨H,W,V,Z⟩:=J5N.1 N;obtain⟨P,g,c3⟩:=Juc h E H;have F:ltE a b:=by have s:=s1;rw[List.pairwise_iff_getElem]at s;obtain⟨la,S⟩:=J2I.1 ha;obtain⟨R,T⟩:=J2I.1 hb;have:=s j (j+1) la R (by omega);rw[S,T]at this;exact this
  have C: ∀x∈l,(x.2.1=1\/x.2.1=2)->pgE x=pgE b->x.1=b.2.2.2.2.1->f<=x.1->ltE a x->False:=λx x1 k n q x5 U=>
   adj s1 ha hb ((o x).2 ⟨x1,J5N.2 ⟨k,by omega,by omega,by omega⟩⟩) U (.inr ⟨n,by omega⟩)
  rcases F with lp|⟨lp,I⟩
  ·refine .inl ⟨lp,?_⟩;rcases g with g|⟨x,x1,k,n,q⟩
   ·show b.2.2.2.2.1<f;omega
   ·show b.2.2.2.2.1<f;rcases Int.lt_or_le b.2.2.2.2.1 f with c|c
    ·exact c
    ·exact(C x x1 k n q (by omega) (.inl (by omega))).elim
  ·refine .inr ⟨lp,I,?_⟩;have ge:=c3 a y D lp I;rcases g with g|⟨x,x1,k,n,q⟩
   ·omega
   ·rcases Int.lt_or_eq_of_le ge with c|c
    ·exact(C x x1 k n q (by omega) (.inr ⟨by omega,by omega⟩)).elim
    ·exact c.symm
end
end Go.Am
end
