/-
  Parts of a proof.
-/
import Derived.ChangeArms
import Derived.OpenShut
import Derived.ChangeBears
import Derived.ChangeStays
import Derived.Handed
import Derived.RowKit3
import Derived.WalkKit
import Derived.ProofKit
import Derived.Test.YthnapahopkopbaaGreatM2
import Derived.Test.YthnapahopkopbaaGreatM3
import Derived.Test.YthnapahopkopbaaGreatM4
set_option linter.unusedSimpArgs false
set_option linter.unusedVariables false
section
namespace Go.Am
set_option linter.unusedVariables false
set_option maxRecDepth 20000
set_option maxHeartbeats 4000000
theorem JtQ{B S:Int}{x1:J6i}(h:zFt B S tq7 x1)(E:BG B S:=by omega):Tot (J3L x1) λy=>zFt 128 12 tq7 y:=by
 unfold J3L;refine .bind ((J3U h.1).eqn) λG h1=>.not (λx=>?_) λx=>?_
 ·exact .some (⟨fzr,fkn 15⟩)
 ·have v3:=J30 h.1 h1.2 x;have:J0 x1.1.2.1<=B:=h.1.2.1.1;have:=J4 (l:=x1.1.2.1);have:J0 x1.1.2.1=_:=Jk h.1.2.1;have h10:zFt 64 12 JM x1.1:=v3.2;refine .bind (J5E (B:=64) (S:=12) (⟨h10,h.2⟩)) λo n=>?_;have:=J3.1 n.1;have: -1<=o/\o<J0 x1.1.2.1:=n.2;refine .lt (λv=>?_) λv=>?_
  ·exact .some (⟨fzr,fkn 18⟩)
  ·refine .bind (Jh h10.2.1) λF D=>.ite (λA=>?_) λA=>?_
   ·exact .some (⟨fzr,fkn 23⟩)
   ·refine .bind (J6m h10.2.1) λw g=>.clo g.1 oo (by decide) ?_;have:=Jb o 1;refine .bind (J3J h10.2.1) λk j=>?_;have:J0 w=_:=Jk g.1;have:J0 k<=64:=j.1.1;have:=J4 (l:=k);have:J0 k=_:=Jk j.1;refine .bind (J0x (B:=128) (Bl:=64) (Bm:=64) (S:=12) (J0 w) (J0 k) g.1 j.1) λC e=>.lt (λq=>?_) λq=>?_
    ·have:=J0o x1.1.2.2 1;refine .ge (λr=>?_) λr=>?_
     ·exact .some (⟨⟨h10.1,e.1,fk0⟩,fk0⟩)
     ·exact .some (⟨⟨h10.1,e.1,J2f⟩,fk0⟩)
    ·have:J0 C<=128:=e.1.1;refine .ge (λz=>?_) λz=>?_
     ·exact .some (⟨⟨h10.1,e.1,fk0⟩,fk0⟩)
     ·exact .some (⟨⟨h10.1,e.1,h10.c⟩,fk0⟩)
section
variable {B S:Int}
def JBZ{σ τ ρ:Type}(R:σ->τ->Prop)(o:zOp (σ⊕ρ))(e:zOp (τ⊕ρ)):Prop:=(o=none/\e=none)\/(∃y,o=some (.inr y)/\e=some (.inr y))\/ ∃a b,o=some (.inl a)/\e=some (.inl b)/\R a b
theorem JpO{σ τ ρ:Type}{R:σ->τ->Prop}{L:σ->zOp (σ⊕ρ)}{L':τ->zOp (τ⊕ρ)}(h: ∀z g,R z g->JBZ R (L z) (L' g)){z:σ}{g:τ}(hz:R z g):Jg L z=Jg L' g:=by
 have j: ∀n z g,R z g->J2j L n z=J2j L' n g:=by
  intro n
  induction n with
  |zero=>intros;rfl
  |succ n ih=>
   intro z g hz;rcases h z g hz with⟨h1,h2⟩|⟨y,h1,h2⟩|⟨a,b,h1,h2,h3⟩
   ·simp only[J2j,h1,h2]
   ·simp only[J2j,h1,h2]
   ·simp only[J2j,h1,h2];exact ih a b h3
 cases e:Jg L z with
 |some r=>obtain⟨n,hn⟩:=J2J.1 e;exact(J2J.2 ⟨n,(j n z g hz)▸hn⟩).symm
 |none=>
  cases e':Jg L' g with
  |none=>rfl
  |some r=>obtain⟨n,hn⟩:=J2J.1 e';rw[J2J.2 ⟨n,(j n z g hz).symm▸hn⟩]at e;cases e
def FrE(f g:T_api_Frame):Prop:=f.1=g.1/\f.2.1=g.2.1/\f.2.2.1=g.2.2.1
def JcY(l m:List T_api_Frame):Prop:=l.length=m.length/\ ∀(j:Nat) (f g:T_api_Frame),l[j]?=some f->m[j]?=some g->FrE f g
theorem JcY.idx{l m:List T_api_Frame}(h:JcY l m)(i:Int):(idx l i=none/\idx m i=none)\/ ∃f g,idx l i=some f/\idx m i=some g/\FrE f g:=by
 unfold Am.idx;by_cases e:0<=i
 ·rw[if_pos e,if_pos e];by_cases hl:i.toNat<l.length
  ·exact .inr ⟨_,_,zQ9 hl,zQ9 (h.1▸hl),h.2 _ _ _ (zQ9 hl) (zQ9 (h.1▸hl))⟩
  ·exact .inl ⟨JcE oo,JcE (by have:=h.1;omega)⟩
 ·rw[if_neg e,if_neg e];exact .inl ⟨rfl,rfl⟩
theorem JcY.refl(l:List T_api_Frame):JcY l l:=⟨rfl,λj f g h1 h2=>by rw[h1]at h2;injection h2 with h2;subst h2;exact⟨rfl,rfl,rfl⟩⟩
theorem JcY.put{l m:List T_api_Frame}(h:JcY l m){i:Int}{f g:T_api_Frame}(hi:Am.idx m i=some f)(e:FrE g f):JcY l (J0B m i.toNat g):=by
 refine⟨by unfold J0B;rw[List.length_set];exact h.1,λj a b ha hb=>?_⟩;unfold J0B at hb;rw[List.getElem?_set]at hb;split at hb
 ·rename_i hj;split at hb
  ·injection hb with hb;subst hb;obtain⟨_,h2⟩:=J0H hi;rw[hj]at h2;obtain⟨q1,q2,q3⟩:=h.2 j a f ha h2;exact⟨q1.trans e.1.symm,q2.trans e.2.1.symm,q3.trans e.2.2.symm⟩
  ·cases hb
 ·exact h.2 j a b ha hb
theorem JIt(n i:Int)(p q:JG)(f g:T_api_Frame)(hp:JcY p.2.1 q.2.1)(hf:FrE f g):(Jg J0c (n,i,0,p,f)=some (.inr false)/\Jg J0c (n,i,0,q,g)=some (.inr false))\/(Jg J0c (n,i,0,p,f)=some (.inl (n,J1 .i64 i 1,p))/\Jg J0c (n,i,0,q,g)=some (.inl (n,J1 .i64 i 1,q)))\/(Jg J0c (n,i,0,p,f)=none/\Jg J0c (n,i,0,q,g)=none):=by
 let w:JG->((TQ105)⊕Bool)->Bool:=λ_ r=>match r with| .inl _=>true| .inr b=>b
 have j: ∀m k,(J2j J0c m (n,i,k,p,f)=none/\J2j J0c m (n,i,k,q,g)=none)\/(J2j J0c m (n,i,k,p,f)=some (.inr false)/\J2j J0c m (n,i,k,q,g)=some (.inr false))\/(J2j J0c m (n,i,k,p,f)=some (.inl (n,J1 .i64 i 1,p))/\J2j J0c m (n,i,k,q,g)=some (.inl (n,J1 .i64 i 1,q))):=by
  intro m
  induction m with
  |zero=>intro k;exact .inl ⟨rfl,rfl⟩
  |succ m ih=>
   intro k;simp only[J2j];unfold J0c;dsimp only;by_cases hk:ltI k i=true
   ·rw[if_pos hk,if_pos hk];rcases hp.idx k with⟨e1,e2⟩|⟨a,b,e1,e2,v⟩
    ·rw[e1,e2];exact .inl ⟨rfl,rfl⟩
    ·rw[e1,e2,J07,J07,<-v.1,<-hf.1];by_cases hc:eqI a.1.1 f.1.1=true
     ·rw[if_pos hc,if_pos hc];exact .inr (.inl ⟨rfl,rfl⟩)
     ·rw[if_neg hc,if_neg hc];exact ih _
   ·rw[if_neg hk,if_neg hk];exact .inr (.inr ⟨rfl,rfl⟩)
 by_cases hx: ∃m r,J2j J0c m (n,i,0,p,f)=some r
 ·obtain⟨m,r,hm⟩:=hx;rcases j m 0 with⟨h1,_⟩|⟨h1,h2⟩|⟨h1,h2⟩
  ·rw[h1]at hm;cases hm
  ·exact .inl ⟨J2J.2 ⟨m,h1⟩,J2J.2 ⟨m,h2⟩⟩
  ·exact .inr (.inl ⟨J2J.2 ⟨m,h1⟩,J2J.2 ⟨m,h2⟩⟩)
 ·have o:Jg J0c (n,i,0,p,f)=none:=by
   cases e:Jg J0c (n,i,0,p,f)with
   |none=>rfl
   |some r=>obtain⟨m,hm⟩:=J2J.1 e;exact absurd ⟨m,r,hm⟩ hx
  have h:Jg J0c (n,i,0,q,g)=none:=by
   cases e:Jg J0c (n,i,0,q,g)with
   |none=>rfl
   |some r=>
    obtain⟨m,hm⟩:=J2J.1 e;rcases j m 0 with⟨_,h2⟩|⟨h1,_⟩|⟨h1,_⟩
    ·rw[h2]at hm;cases hm
    ·exact absurd ⟨m,_,h1⟩ hx
    ·exact absurd ⟨m,_,h1⟩ hx
  exact .inr (.inr ⟨o,h⟩)
theorem Jlh{p q:JG}(hs:p.1=q.1)(hf:JcY p.2.1 q.2.1)(e:JR p=some true)(E:0<=q.2.2)(h1:q.2.2<J0 q.2.1\/q.2.2=0):JR q=some true:=by
 obtain⟨⟨D,L,C,F,G⟩,_⟩:=Jc2 e;have el:J0 p.2.1=J0 q.2.1:=by unfold J0;rw[hf.1]
 have I:=J6I 0 (JH .i64 (J0 q.2.1) 1);have H:=J0o (J0 q.2.1) 1;have J:=J4 (l:=q.2.1);have A: ∀x:JG,1<=x.1->x.1<=64->J0 x.2.1<=x.1->0<=x.2.2->(x.2.2<J0 x.2.1\/x.2.2=0)->JR x=Jg J67 (J0 x.2.1,0,x):=by
  intro x a1 a2 a3 a4 y;have I:=J6I 0 (JH .i64 (J0 x.2.1) 1);have H:=J0o (J0 x.2.1) 1;have J:=J4 (l:=x.2.1);unfold JR;have r:ltI x.1 1=false:=by simp only[ltI,decide_eq_false_iff_not];omega
  have v:gtI x.1 64=false:=by simp only[gtI,decide_eq_false_iff_not];omega
  have c3:gtI (J0 x.2.1) x.1=false:=by simp only[gtI,decide_eq_false_iff_not];omega
  have k:ltI x.2.2 0=false:=by simp only[ltI,decide_eq_false_iff_not];omega
  have K: ¬gtI x.2.2 (J1m 0 (JH .i64 (J0 x.2.1) 1))=true:=by simp only[gtI,decide_eq_true_eq];omega
  rw[if_pos r,if_pos v,if_pos c3,if_pos k,if_neg K]
 rw[A p D L C F G]at e;rw[A q oo oo oo E h1,<-e]
 symm
 refine JpO (R:=λz h=>z.1=J0 p.2.1/\h.1=J0 q.2.1/\z.2.1=h.2.1/\z.2.2=p/\h.2.2=q) ?_ ⟨rfl,rfl,rfl,rfl,rfl⟩;rintro⟨n,i,z⟩ ⟨M,N,h⟩ ⟨a1,a2,a3,a4,y⟩;dsimp only at a1 a2 a3 a4 y;subst a4;subst y;subst a3;subst a1;subst a2;unfold J67;dsimp only;rw[el];have j: ∀{f g:T_api_Frame},FrE f g->JBZ (fun(a b:TQ105)=>a.1=J0 h.2.1/\b.1=J0 h.2.1/\a.2.1=b.2.1/\a.2.2=z/\b.2.2=h) (Jg J0c (J0 h.2.1,i,0,z,f)) (Jg J0c (J0 h.2.1,i,0,h,g)):=fun{f g} B=>by
  rcases JIt (J0 h.2.1) i z h f g hf B with⟨b1,b2⟩|⟨b1,b2⟩|⟨b1,b2⟩
  ·exact .inr (.inl ⟨_,b1,b2⟩)
  ·exact .inr (.inr ⟨_,_,b1,b2,rfl,rfl,rfl,rfl,rfl⟩)
  ·exact .inl ⟨b1,b2⟩
 have w:JBZ (fun(a b:TQ105)=>a.1=J0 h.2.1/\b.1=J0 h.2.1/\a.2.1=b.2.1/\a.2.2=z/\b.2.2=h) (some (.inr false:(TQ105)⊕Bool)) (some (.inr false)):=.inr (.inl ⟨_,rfl,rfl⟩);by_cases hk:ltI i (J0 h.2.1)=true
 ·rw[if_pos hk,if_pos hk];rcases hf.idx i with⟨e1,e2⟩|⟨f,g,e1,e2,o⟩
  ·rw[e1,e2];exact .inl ⟨rfl,rfl⟩
  ·rw[e1,e2,J07,J07,<-o.1,<-o.2.1,<-o.2.2];cases hv:J1M f.1 with
   |none=>exact .inl ⟨rfl,rfl⟩
   |some b=>
    rw[J07,J07];by_cases hb:Jr b=false
    ·rw[if_pos hb,if_pos hb];by_cases hd:f.2.1=true
     ·rw[if_pos hd,if_pos hd];by_cases r:ltI f.2.2.1 1=false
      ·rw[if_pos r,if_pos r];by_cases v:gtI f.2.2.1 f.1.2.1=false
       ·rw[if_pos v,if_pos v];by_cases c3:Jr f.2.1=true
        ·rw[if_pos c3,if_pos c3];by_cases k:neI f.2.2.1 0=true
         ·rw[if_pos k,if_pos k];exact w
         ·rw[if_neg k,if_neg k];exact j o
        ·rw[if_neg c3,if_neg c3];exact j o
       ·rw[if_neg v,if_neg v];exact w
      ·rw[if_neg r,if_neg r];exact w
     ·rw[if_neg hd,if_neg hd];by_cases c3:Jr f.2.1=true
      ·rw[if_pos c3,if_pos c3];by_cases k:neI f.2.2.1 0=true
       ·rw[if_pos k,if_pos k];exact w
       ·rw[if_neg k,if_neg k];exact j o
      ·rw[if_neg c3,if_neg c3];exact j o
    ·rw[if_neg hb,if_neg hb];exact w
 ·rw[if_neg hk,if_neg hk];exact .inr (.inl ⟨_,rfl,rfl⟩)
theorem JDC{p:JG}{id:Int}(hp:J0 p.2.1<=64){k:Int}{f:T_api_Frame}(hk:idx p.2.1 k=some f)(hf:f.1.1=id): ∀{j:Int},J1d (p,id)=some j->0<=j:=by
 intro j hj;have n:Par (J1d (p,id)) λj=>0<=j:=by
  unfold J1d;dsimp only;obtain⟨o,k1⟩:=J0H hk;have v:=J51 k1;refine .while (λz=>z.1=id/\z.2.2=p/\0<=z.2.1/\z.2.1<=k) ⟨rfl,rfl,J0F _,o⟩ ?_;rintro⟨a,i,q⟩ ⟨h1,h2,h3,h4⟩;dsimp only at h1 h2 h3 h4;subst h1;subst h2;unfold J6F;dsimp only;have:=Jb i 1;refine .lt (λc=>.bind λg h=>.eq (λ_=>.some h3) λr=>.some ⟨rfl,rfl,?_,?_⟩) λc=>?_
  ·show 0<=J1 .i64 i 1;omega
  ·show J1 .i64 i 1<=k;by_cases e:i=k
   ·subst e;rw[hk]at h;injection h with h;subst h;exact absurd hf r
   ·omega
  ·exfalso;omega
 exact n _ hj
theorem InP.of{p:JG}{id:Int}(hv:JR p=some true){k:Int}{f:T_api_Frame}(hk:idx p.2.1 k=some f)(hf:f.1.1=id)(e:zFt B S JM p)(hi:zFt 0 0 zI id)(g:BS B S 0 0:=by omega)(o:B<=9223372036854775807:=by omega):InP p id:=by obtain⟨⟨_,h,n,_⟩,_⟩:=Jc2 hv;obtain⟨j,hj,_⟩:=J5E (B:=B) (S:=S) (x1:=(p,id)) ⟨e,hi⟩;refine⟨j,?_,JDC oo hk hf hj⟩;unfold J0U;dsimp only;rw[hv,J07,if_neg (by simp[Jr]),hj];rfl
def JmC(l:List T_api_Frame):Int:=(l.countP λf=>f.2.2.2:Nat)
theorem Jpo{x1:JG}(h:zFt B S JM x1)(L:BC B S 0 0:=by omega):Tot (J3c x1) λy=>zFt 64 12 JFP y/\(JR x1=some true->1<=J0 x1.2.1->JR y.1=some true/\InP y.1 y.2.1/\y.1.1=x1.1/\J0 y.1.2.1=J0 x1.2.1):=by
 unfold J3c;refine .bind ((J3U h).eqn) λR h2=>.not (λc=>.some ⟨⟨fzr,fk0,fkn 15⟩,λe=>by rw[e]at h2;have q:=h2.2;injection q with q;subst q;cases c⟩) λc=>.eq (λJ=>.some ⟨⟨fzr,fk0,fkn 18⟩,λ_ _=>by omega⟩) λJ=>?_;subst c;have hv:=h2.2;obtain⟨⟨N,Q,M,G,O⟩,hd⟩:=J30 h hv rfl;have:=J4 (l:=x1.2.1);have hl:1<=J0 x1.2.1:=by omega
 refine Jf (τ:=JG) (λq=>(q,0,[],0)) (λq=>q.1=x1.1/\JcY x1.2.1 q.2.1/\0<=q.2.2/\q.2.2<J0 x1.2.1/\zFt 64 12 JM q) (λq=>JmC q.2.1) ?_ x1 rfl ⟨rfl,JcY.refl _,G,oo,hd⟩;rintro p ⟨g1,g2,D,P,o⟩;have el:J0 x1.2.1=J0 p.2.1:=by unfold J0;rw[g2.1]
 unfold J7h;dsimp only;have n:p.2.2.toNat<p.2.1.length:=by unfold J0 at*;omega
 have v:idx p.2.1 p.2.2=some p.2.1[p.2.2.toNat]:=by unfold idx;rw[if_pos D,zQ9 n]
 have g:=o.2.1.2 _ (Jam n);have j:p.2.1[p.2.2.toNat]?=some p.2.1[p.2.2.toNat]:=zQ9 n;generalize p.2.1[p.2.2.toNat]=f at v g j;rw[v];show Tot (if f.2.2.2=true then _ else _) _;refine .ite (λC=>?_) λC=>.inr ?_
 ·show Tot ((J1u (p,p.2.2,f.1,f.2.1,f.2.2.1,false)).bind _) _;have es:J1u (p,p.2.2,f.1,f.2.1,f.2.2.1,false)=some (p.1,J0B p.2.1 p.2.2.toNat (f.1,f.2.1,f.2.2.1,false),p.2.2):=by
   unfold J1u;obtain⟨r,hr,e⟩:=(JmX (bytes:=424) o.2.1 oo (by decide));subst e;have q3:J1J (α:=T_api_Frame) 424 p.2.1=some p.2.1:=hr;dsimp only;rw[q3,J07];have K:inb p.2.1.length p.2.2=some ():=by unfold inb;rw[if_pos ⟨D,oo⟩]
   have I:lat p.2.1 p.2.2.toNat=some f:=by unfold lat;exact j
   rw[K,J07,I,J07]
  rw[es,J07];dsimp only;have E:J0 (J0B p.2.1 p.2.2.toNat (f.1,f.2.1,f.2.2.1,false))=J0 p.2.1:=J6x;rw[E];have:=Jb p.2.2 1;refine .bind (Jlv (k:=.i64) (B:=0) (S:=0) (x:=J1 .i64 p.2.2 1) (y:=J0 p.2.1) J8 oo) λz A=>.some ⟨(p.1,J0B p.2.1 p.2.2.toNat (f.1,f.2.1,f.2.2.1,false),z),rfl,⟨g1,g2.put v ⟨rfl,rfl,rfl⟩,?_,?_,o.1,J4I o.2.1 ⟨g.1,g.2.1,g.2.2.1,trivial⟩,A.1⟩,?_,?_⟩
  ·show 0<=z;exact A.2.1 oo
  ·show z<J0 x1.2.1;have:=A.c oo;omega
  ·show JmC (J0B p.2.1 p.2.2.toNat (f.1,f.2.1,f.2.2.1,false))<JmC p.2.1;unfold JmC J0B;rw[List.countP_set n];have F:p.2.1[p.2.2.toNat]=f:=by have:=zQ9 n;rw[j]at this;injection this with this;exact this.symm
   rw[F];have H:0<p.2.1.countP (λf=>f.2.2.2):=List.countP_pos_iff.2 ⟨f,zQ5 j,C⟩;rw[if_pos C,if_neg (by simp)];omega
  ·show 0<=JmC p.2.1;exact Int.natCast_nonneg _
 ·show Tot ((some f).bind _) _;rw[J07];have w:JR p=some true:=Jlh g1.symm g2 hv D (.inl oo);refine .some ⟨⟨o,g.1.1,fk0⟩,λ_ _=>⟨w,InP.of (B:=64) (S:=12) w v rfl o g.1.1,g1,el.symm⟩⟩
theorem Jvs{x1:J6}(h:zFt B S J9 x1)(w:BG B S:=by omega):Tot (J3i x1) λy=>zFt 16384 1073741824 (.pr J9 (.pr Ju (.pr .b zI))) y/\(y.2.2.2=0->J0 y.1.2.2.1.2.1=J0 x1.2.2.1.2.1/\J0 x1.2.2.1.2.1<=4096):=by
 unfold J3i;have g:zFt 16384 1073741824 Ju (0,0,Vector.replicate 16 (false,[])):=⟨fk0,fk0,J0i oo oo (.ar 16 JJ)⟩;have v:zFt 16384 1073741824 J9 (0,0,(0,[],0),(0,[],0),([],[]),[],[],[]):=J0i oo oo J9;refine .bind ((J1o h).eqn) λC h2=>.not (λc=>.some ⟨⟨v,g,trivial,fkn 15⟩,λc=>by cases c⟩) λc=>?_;subst c;obtain⟨q,hk⟩:=J1y h h2.2 rfl;have o:=J4P h2.2;refine .lt (λc=>.some ⟨⟨hk.u,g,trivial,fk0⟩,λ_=>⟨rfl,q.2.2.2.2.2.2.2.1⟩⟩) λc=>.bind (Jpo hk.2.2.2.1) λe h3=>?_;obtain⟨a1,a2,a3,a4⟩:=h3.2 o.2.1 oo;refine .bind ((J5y (B:=64) (S:=12) (x1:=(e.1,e.2.1)) ⟨h3.1.1,h3.1.2.1⟩).eqn) λA h4=>?_;have k:=Jkp a2 h4.2;refine .bind (Jh h3.1.1.2.1 k h4.1.c) λn h5=>.not (λ_=>?_) λ_=>?_
 ·exact .bind (JtQ (B:=16384) (S:=1073741824) (x1:=(e.1,e.2.1)) ⟨h3.1.1.u,h3.1.2.1⟩) λz r=>.some ⟨⟨⟨hk.1,hk.2.1,hk.2.2.1.u,r.1.u,hk.2.2.2.2.u⟩,g,trivial,fk0⟩,λ_=>⟨rfl,q.2.2.2.2.2.2.2.1⟩⟩
 ·exact .bind (J9u (B:=16384) (S:=1073741824) (x1:=((x1.1,x1.2.1,x1.2.2.1,e.1,x1.2.2.2.2),n.1.2.1)) ⟨⟨hk.1,hk.2.1,hk.2.2.1.u,h3.1.1.u,hk.2.2.2.2.u⟩,h5.1.1.2.1⟩) λx j=>.some ⟨⟨j.1,h5.1.1.u,trivial,fk0⟩,λ_=>⟨j.2,q.2.2.2.2.2.2.2.1⟩⟩
end
theorem Jvw{B S:Int}{x1:Jt}(h:zFt B S Jl x1)(x:BG B S:=by omega):Tot (J3j x1) λy=>zFt B S tq3 y/\(y.2=0->J0 x1.1.2.2.1.2.1<=J0 y.1.1.2.2.1.2.1):=by
 unfold J3j;refine Jf (τ:=Jt) (λq=>(q,(0,0,(0,[],0),(0,[],0),([],[]),[],[],[]),[],0,[],false,[])) (λq=>zFt B S Jl q/\(J0 x1.1.2.2.1.2.1<=J0 q.1.2.2.1.2.1)) (λq=>4097-J0 q.1.2.2.1.2.1) ?_ x1 rfl ?_
 ·rintro j ⟨o,z2⟩;unfold J8L
  try dsimp only
  have:J0 x1.1.2.2.1.2.1=_:=Jk h.1.c.1.2.1;have:J0 j.1.2.2.1.2.1=_:=Jk o.1.2.2.1.2.1;refine .bind (Jvs o.1) λk g=>?_;have:J0 k.1.2.2.1.2.1<=16384:=g.1.1.c.1.2.1.1;have:=J4 (l:=k.1.2.2.1.2.1);have:J0 k.1.2.2.1.2.1=_:=Jk g.1.1.c.1.2.1;have:k.2.2.2=0->J0 k.1.2.2.1.2.1=J0 j.1.2.2.1.2.1/\J0 j.1.2.2.1.2.1<=4096:=g.2;refine .ne (λv=>?_) λv=>?_
  ·exact .some ⟨(⟨⟨fzr,Jc,fk0,Jc,trivial,Jc⟩,g.1.2.z.2.2⟩),om⟩
  ·refine .not (λw=>?_) λw=>?_
   ·exact .some ⟨(⟨⟨g.1.1.u,o.2⟩,fk0⟩),om⟩
   ·refine .bind (Jh3 (B:=B) (S:=S) (⟨o,g.1.1.u,g.1.2.z.1.u⟩)) λn e=>?_;have:J0 n.1.1.2.2.1.2.1<=16384:=e.1.1.1.c.1.2.1.1;have:=J4 (l:=n.1.1.2.2.1.2.1);have:J0 n.1.1.2.2.1.2.1=_:=Jk e.1.1.1.c.1.2.1;have:n.2=0->J0 n.1.1.2.2.1.2.1=J0 k.1.2.2.1.2.1+1:=e.2;refine .ne (λr=>?_) λr=>?_
    ·exact .some ⟨(⟨⟨fzr,Jc,fk0,Jc,trivial,Jc⟩,e.1.2⟩),om⟩
    ·exact .some ⟨n.1,rfl,⟨e.1.1.u,om⟩,om,om⟩
 ·have:J0 x1.1.2.2.1.2.1<=B:=h.1.c.1.2.1.1
  try dsimp only
  exact⟨h,om⟩
theorem J7q{B S:Int}{x1:J2O}(h:zFt B S tq3 x1)(J:BG B S:=by omega)(P:S<=9223372036854775807:=by omega):Tot (J1A x1) λy=>zFt B S tq3 y/\(y.2=0->J0 x1.1.1.2.2.1.2.1<=J0 y.1.1.2.2.1.2.1):=by
 unfold J1A;refine .bind ((J1o h.1.1).eqn) λQ h1=>.not (λA=>?_) λA=>?_
 ·have:J0 x1.1.1.2.2.1.2.1<=B:=h.1.1.c.1.2.1.1;exact .some ⟨(⟨⟨fzr,Jc,fk0,Jc,trivial,Jc⟩,fkn 15⟩),om⟩
 ·have H:=J1y h.1.1 h1.2 A;have:J0 x1.1.1.2.2.1.2.1=_:=Jk h.1.1.c.1.2.1;have G:zFt 4096 8192 J9 x1.1.1:=H.2;refine .ltf (λD=>?_) λD=>?_
  ·refine .ge (λw=>?_) λw=>?_
   ·exact .some ⟨(⟨⟨fzr,Jc,fk0,Jc,trivial,Jc⟩,fkn 1⟩),om⟩
   ·refine .bind ((J5y (B:=4096) (S:=8192) (x1:=(x1.1.1.2.2.2.1,x1.2)) (⟨G.d.1,h.2⟩)).eqn) λL I=>.ge (λz=>?_) λz=>?_
    ·exact .some ⟨(⟨h.1,fk0⟩),om⟩
    ·refine .bind (Jvw h.1) λj e=>?_;have:J0 j.1.1.2.2.1.2.1=_:=Jk e.1.1.1.c.1.2.1;have:j.2=0->J0 x1.1.1.2.2.1.2.1<=J0 j.1.1.2.2.1.2.1:=e.2;refine .ne (λC=>?_) λC=>?_
     ·exact .some ⟨(⟨⟨fzr,Jc,fk0,Jc,trivial,Jc⟩,e.1.2⟩),om⟩
     ·refine .bind (Jv4 (B:=B) (S:=S) (⟨e.1.1.2,h.2⟩)) λN q=>.ne (λF=>?_) λF=>?_
      ·exact .some ⟨(⟨⟨fzr,Jc,fk0,Jc,trivial,Jc⟩,q.2⟩),om⟩
      ·refine .bind (J89 (B:=B) (S:=S) (⟨e.1.1.1,h.2⟩)) λO o=>.bind (JrY (B:=B) (S:=S) (⟨e.1.1.1.h.1,h.2,o,q.1.u⟩)) λK n=>.ne (λE=>?_) λE=>?_
       ·exact .some ⟨(⟨⟨fzr,Jc,fk0,Jc,trivial,Jc⟩,n.2⟩),om⟩
       ·refine .bind (Jx8 (B:=B) (S:=S) (⟨e.1.1.1.c.1,n.1.u,o⟩)) λM k=>.ne (λv=>?_) λv=>?_
        ·exact .some ⟨(⟨⟨fzr,Jc,fk0,Jc,trivial,Jc⟩,k.2⟩),om⟩
        ·refine .bind (JnH (B:=B) (S:=(S+8192)) (⟨e.1.1.1.u,k.1.u⟩)) λr g=>?_;have:J0 r.1.2.2.1.2.1=_:=Jk g.1.1.c.1.2.1;have:r.2=0->J0 r.1.2.2.1.2.1=J0 j.1.1.2.2.1.2.1:=g.2;refine .ne (λx=>?_) λx=>?_
         ·exact .some ⟨(⟨⟨fzr,Jc,fk0,Jc,trivial,Jc⟩,g.1.2⟩),om⟩
         ·exact .some ⟨(⟨⟨g.1.1.u,e.1.1.2⟩,fk0⟩),om⟩
  ·exact .some ⟨(⟨⟨fzr,Jc,fk0,Jc,trivial,Jc⟩,fkn 1⟩),om⟩
section
variable {B S:Int}
def J3H(k y:J6):Prop:=y.2.2.2.2.2.1=k.2.2.2.2.2.1/\y.2.2.1.1=k.2.2.1.1/\ ∃m,y.2.2.1.2.1=k.2.2.1.2.1++m
theorem J3H.refl(k:J6):J3H k k:=⟨rfl,rfl,[],(JbW _).symm⟩
theorem J3H.trans{a b c:J6}(h:J3H a b)(g:J3H b c):J3H a c:=by obtain⟨h1,h2,m,h3⟩:=h;obtain⟨g1,g2,n,e⟩:=g;exact⟨g1.trans h1,g2.trans h2,m++n,by rw[e,h3,J8U]⟩
def JbZ(p:JG)(id:Int):Prop:= ∃f∈p.2.1,f.1.1=id
theorem JbZ.inP{p:JG}{id:Int}(h:JbZ p id)(hv:JR p=some true)(n:zFt B S JM p)(o:BS B S 0 0:=by omega)(q:B<=9223372036854775807:=by omega):InP p id:=by obtain⟨f,hf,e⟩:=h;obtain⟨j,hj⟩:=J5w.1 hf;have g:=n.2.1.2 f hf;refine InP.of hv (k:=j) (f:=f) ?_ e n (e▸g.1.1);unfold idx;rw[if_pos (Int.natCast_nonneg j)];simpa using hj
theorem Jh5{l:JO}{n:Int}{y:J6z}(e:J19 (l,n)=some y)(c:y.2=0):y.1.1=l.1/\y.1.2.1=l.2.1:=by
 have g:Par (J19 (l,n)) λy=>y.2=0->y.1.1=l.1/\y.1.2.1=l.2.1:=by unfold J19;exact .bind λ_ _=>.not (λ_=>.some nofun) λ_=>.bind λ_ _=>.gt (λ_=>.some nofun) λ_=>.some λ_=>⟨rfl,rfl⟩
 exact g _ e c
theorem Jsh{k:J6}{n:Int}{y:J6}(e:J1x (k,n)=some y):J3H k y/\y.2.2.2.1=k.2.2.2.1:=by
 have g:Par (J1x (k,n)) λy=>J3H k y/\y.2.2.2.1=k.2.2.2.1:=by
  unfold J1x;refine .bind λa ha=>.bind λb hb=>.eq (λc=>.some ⟨⟨rfl,?_,[],?_⟩,rfl⟩) λ_=>.some ⟨J3H.refl k,rfl⟩
  ·exact(Jh5 hb c).1
  ·rw[JbW];exact(Jh5 hb c).2
 exact g _ e
theorem Jru{l:List Jo}{x:J2}{y:J2C}(e:J0C (l,x)=some y)(h:x.2.2.1=0)(c:y.2=0):y.1=l:=by
 have g:Par (J0C (l,x)) λy=>y.2=0->y.1=l:=by unfold J0C;exact .bind λ_ _=>.not (λ_=>.some nofun) λ_=>.bind λ_ _=>.not (λ_=>.some nofun) λ_=>.eq (λ_=>.some λ_=>rfl) λc=>absurd h c
 exact g _ e c
theorem JtV{x:JoR}{y:J7b}(e:J0S x=some y)(c:y.2.2=0)(C:x.2.2.2.1=0):J3H x.1 y.1:=by
 have D:Par (J0S x) λy=>y.2.2=0->J3H x.1 y.1:=by
  obtain⟨k,n,B,M,L,I,r⟩:=x;dsimp only at C;subst C;unfold J0S;dsimp only;have z: ∀{a b:Int} {g:Jg5} {v:Je5} {h:J2C} {E:List T_api_Row},J0y (k.2.2.1,(n,B,0,a,b,r))=some g->g.2.2=0->J0A (g.1,g.2.1)=some v->J0C (k.2.2.2.2.2.1,v.1)=some h->h.2=0->J3H k (k.1,k.2.1,g.1,k.2.2.2.1,k.2.2.2.2.1,h.1,E,k.2.2.2.2.2.2.2):=fun{a b g v h E} q o A w j=>by have F:=JA2 q o A w j;obtain⟨_,_,a3,_⟩:=Jbi q o;subst a3;exact⟨Jru w (by rw[F]) j,rfl,_,rfl⟩
  refine .bind λ_ _=>.not (λ_=>.some nofun) λ_=>.gt (λc=>absurd c (by decide)) λ_=>.bind λJ _=>.ite (λ_=>.bind λK _=>?_) λ_=>?_
  all_goals
   refine .bind λg q=>.ne (λc=>.some λd=>absurd d c) λo=>.bind λv A=>.bind λh w=>.ne (λc=>.some λd=>absurd d c) λj=>.bind λG _=>.ne (λc=>.some λd=>absurd d c) λH=>.some λ_=>z q o A w j
 exact D _ e c
theorem JmG{x:J7b}{y:J1G}(e:J2l x=some y)(c:y.2=0):J3H x.1 y.1:=by
 have g:Par (J2l x) λy=>y.2=0->J3H x.1 y.1:=by
  unfold J2l;refine .bind λ_ _=>.not (λ_=>.some nofun) λ_=>.ltf (λ_=>.gef (λ_=>.ltf (λ_=>.bind λ_ _=>.gt (λ_=>.some nofun) λ_=>.bind λj hj=>.ge (λ_=>.bind λp hp=>.ne (λc=>.some λd=>absurd d c) λ_=>?_) λ_=>?_) λ_=>.some nofun) λ_=>.some nofun) λ_=>.some nofun
  all_goals
   refine .bind λn h=>.ne (λc=>.some λd=>absurd d c) λk=>.some λ_=>JtV h k rfl
 exact g _ e c
theorem Jrk{x:JGh}{y:J2O}(e:J2w x=some y)(c:y.2=0):J3H x.2.1 y.1.1:=by
 have g:Par (J2w x) λy=>y.2=0->J3H x.2.1 y.1.1:=by unfold J2w;exact .bind λ_ _=>.bind λ_ _=>.ne (λc=>.some λd=>absurd d c) λ_=>.bind λj h4=>.ne (λc=>.some λd=>absurd d c) λh=>.some λ_=>JmG h4 h
 exact g _ e c
theorem Jix{x:J6}{y:JG2}(e:J3i x=some y)(c:y.2.2.2=0):J3H x y.1:=by
 have g:Par (J3i x) λy=>y.2.2.2=0->J3H x y.1:=by
  unfold J3i;refine .bind λ_ _=>.not (λ_=>.some nofun) λ_=>.lt (λ_=>.some λ_=>J3H.refl _) λ_=>.bind λv _=>.bind λ_ _=>.bind λ_ _=>.not (λ_=>.bind λd _=>.some λ_=>?_) λ_=>.bind λj h=>.some λ_=>?_
  ·exact⟨rfl,rfl,[],(JbW _).symm⟩
  ·obtain⟨⟨a1,a2,m,a3⟩,_⟩:=Jsh h;exact⟨a1,a2,m,a3⟩
 exact g _ e c
theorem Jw7{x:Jt}{y:J2O}(e:J3j x=some y)(c:y.2=0):J3H x.1 y.1.1:=by
 have g:Par (J3j x) λy=>y.2=0->J3H x.1 y.1.1:=by unfold J3j;refine .while (λz=>J3H x.1 z.1.1) (J3H.refl _) ?_;rintro⟨s,z⟩ hz;dsimp only at hz;unfold J8L;dsimp only;exact .bind λj h3=>.ne (λc=>.some λd=>absurd d c) λc3=>.not (λ_=>.some λ_=>hz.trans (Jix h3 c3)) λ_=>.bind λk h4=>.ne (λc=>.some λd=>absurd d c) λh=>.some ((hz.trans (Jix h3 c3)).trans (Jrk h4 h))
 exact g _ e c
theorem JjG{p:JG}{x:JT}{y:Int×Int×Int×List T_api_Frame}(e:J3F (p,x)=some y)(c:y.2.2.1=0):y.2.2.2=p.2.1++[(x,false,0,true)]:=by
 have h:Par (J3F (p,x)) λy=>y.2.2.1=0->y.2.2.2=p.2.1++[(x,false,0,true)]:=by
  unfold J3F;refine .bind λ_ _=>.not (λ_=>.some nofun) λ_=>.bind λ_ _=>.ne (λc=>.some λd=>absurd d c) λ_=>.bind λ_ _=>.ge (λ_=>.some nofun) λ_=>.eq (λ_=>.some nofun) λ_=>.bind λk h5=>.bind λn g=>.some λ_=>?_;have j:k=p.2.1:=by
   unfold J1J at h5;split at h5
   ·injection h5 with h5;exact h5.symm
   ·cases h5
  subst j;unfold JA at g;split at g
  ·injection g with g;exact g.symm
  ·cases g
 exact h _ e c
theorem Ju4{l:List T_api_Frame}{i:Nat}{f g:T_api_Frame}{id:Int}(hi:lat l i=some f)(o:g.1=f.1)(h: ∃a∈l,a.1.1=id): ∃a∈J0B l i g,a.1.1=id:=by
 obtain⟨a,ha,e⟩:=h;obtain⟨j,hj⟩:=J5w.1 ha;unfold lat at hi;have n:=(J3Z.1 hi).1;by_cases k:i=j
 ·subst k;rw[hi]at hj;injection hj with hj;subst hj
  exact⟨g,J5w.2 ⟨i,by unfold J0B;rw[Jox n]⟩,by rw[o];exact e⟩
 ·exact⟨a,J5w.2 ⟨j,by unfold J0B;rw[Jx6 k];exact hj⟩,e⟩
theorem JoY{x:JEz}{y:J1G}(e:J2G x=some y)(c:y.2=0):J3H x.1 y.1/\JbZ y.1.2.2.2.1 x.2.1:=by
 have o:Par (J2G x) λy=>y.2=0->J3H x.1 y.1/\JbZ y.1.2.2.2.1 x.2.1:=by
  unfold J2G;refine .bind λ_ _=>.not (λ_=>.some nofun) λ_=>.ltf (λ_=>.ge (λ_=>.some nofun) λ_=>.bind λ_ _=>.lt (λ_=>.some nofun) λ_=>.bind λ_ _=>.gt (λ_=>.some nofun) λ_=>.bind λn h5=>.ne (λc=>.some λd=>absurd d c) λq=>.bind λv _=>.ite (λ_=>.bind λ_ _=>.bind λj w=>.bind λ_ _=>.bind λh h10=>?_) λ_=>.some λ_=>?_) λ_=>.some nofun
  ·have ep:=JjG h5 q;have A: ∃a∈n.2.2.2,a.1.1=x.2.1:=by rw[ep];exact⟨_,List.mem_append_right _ (JaO.2 rfl),rfl⟩
   have h2:=Ju4 (g:=(j.1,true,j.2.2)) w rfl A;have h3:=Ju4 (g:=(h.1,h.2.1,v.1.2.1,h.2.2.2)) h10 rfl h2;refine .while (λz=>z.2.1=x.1/\ ∃a∈z.2.2.2.2.1,a.1.1=x.2.1) ⟨rfl,h3⟩ ?_;rintro⟨i,k,p,B,fr,a,b,r,rest⟩ ⟨hk,hz⟩;dsimp only at hk hz;subst hk;unfold J7g;dsimp only;exact .lt (λ_=>.bind λ_ _=>.ne (λ_=>.bind λ_ _=>.bind λ_ _=>.some ⟨rfl,hz⟩) λ_=>.some ⟨rfl,hz⟩) λ_=>.some λ_=>⟨⟨rfl,rfl,[],(JbW _).symm⟩,hz⟩
  ·have ep:=JjG h5 q;refine⟨⟨rfl,rfl,[],(JbW _).symm⟩,?_⟩;show∃a∈n.2.2.2,a.1.1=x.2.1;rw[ep];exact⟨_,List.mem_append_right _ (JaO.2 rfl),rfl⟩
 exact o _ e c
theorem Jde{x:J4p}{y:J9y}(e:J3u x=some y)(c:y.2=0):y.1.1=x.2:=by
 have g:Par (J3u x) λy=>y.2=0->y.1.1=x.2:=by unfold J3u;refine .ltf (λ_=>.ge (λ_=>.some nofun) λ_=>.bind λj _=>.eq (λ_=>.bind λh h3=>.some λ_=>?_) λ_=>.eq (λ_=>.ne (λ_=>.some nofun) λc=>.some λ_=>c) λc=>.some λd=>absurd d c) λ_=>.some nofun;unfold J9b at h3;injection h3 with h3;subst h3;rfl
 exact g _ e c
theorem Jr5{x:(List T_api_Row)×Int×Int×List UInt8}{y:J9y}(e:J4M x=some y)(c:y.2=0):y.1.1=x.2.1:=by
 have g:Par (J4M x) λy=>y.2=0->y.1.1=x.2.1:=by unfold J4M;exact .bind λ_ _=>.not (λ_=>.some nofun) λ_=>.ltf (λ_=>.gef (λ_=>.lt (λ_=>.some nofun) λ_=>.bind λh h3=>.ne (λc=>.some λd=>absurd d c) λc3=>.gt (λ_=>.bind λ_ _=>.gt (λ_=>.some nofun) λ_=>.bind λ_ _=>.lt (λ_=>.some nofun) λ_=>.some λ_=>Jde h3 c3) λ_=>.bind λ_ _=>.lt (λ_=>.some nofun) λ_=>.some λ_=>Jde h3 c3) λ_=>.some nofun) λ_=>.some nofun
 exact g _ e c
theorem Jsl{x:JG1}{y:J9y}(e:J4K x=some y)(c:y.2=0):y.1.1=x.1.1:=by
 have h: ∀{p:JT} {d:T_api_Change} {y:J9y},J3W (p,d)=some y->y.2=0->y.1.1=p.1:=fun{p d y} e c=>by
  have g:Par (J3W (p,d)) λy=>y.2=0->y.1.1=p.1:=by unfold J3W;exact .bind λ_ _=>.not (λ_=>.some nofun) λ_=>.ne (λ_=>.some nofun) λ_=>.bind λ_ _=>.bind λ_ _=>.not (λ_=>.some nofun) λ_=>.bind λ_ _=>.bind λ_ _=>.some λ_=>rfl
  exact g _ e c
 have g:Par (J4K x) λy=>y.2=0->y.1.1=x.1.1:=by unfold J4K;exact .bind λ_ _=>.nof (λ_=>.bind λ_ _=>.not (λ_=>.some nofun) λ_=>.bind λ_ _=>.ne (λc=>.some λd=>absurd d c) λ_=>.ne (λ_=>.some nofun) λ_=>.ne (λ_=>.some nofun) λ_=>.bind λk h5=>.ne (λc=>.some λd=>absurd d c) λj=>.some λ_=>by have q:=h h5 j;exact q) λ_=>.some nofun
 exact g _ e c
theorem Jxv{x:Jk6}{y:J9y}(e:J5D x=some y)(c:y.2=0):y.1.1=x.2.1.1:=by
 have j: ∀{y:JBJ},J5N (x.1,x.2.1,x.2.2)=some y->y.2.2=0->y.1.1=x.2.1.1:=fun{y} e c=>by
  have g:Par (J5N (x.1,x.2.1,x.2.2)) λy=>y.2.2=0->y.1.1=x.2.1.1:=by unfold J5N;refine .bind λ_ _=>.ne (λc=>.some λd=>absurd d c) λ_=>.while (λz=>z.2.2.2.1.1=x.2.1.1) rfl ?_;rintro⟨l,i,k,p,o⟩ hz;dsimp only at hz;unfold Jbd;dsimp only;exact .lt (λ_=>.bind λ_ _=>.bind λn h5=>.ne (λc=>.some λd=>absurd d c) λh=>.some ((Jsl h5 h).trans hz)) λ_=>.some λ_=>hz
  exact g _ e c
 have g:Par (J5D x) λy=>y.2=0->y.1.1=x.2.1.1:=by unfold J5D;exact .bind λa ha=>.some λc=>j ha c
 exact g _ e c
theorem J9v{x y:J2O}(hx:zFt B S JM x.1.1.2.2.2.1)(e:J1A x=some y)(c:y.2=0):J3H x.1.1 y.1.1/\JbZ y.1.1.2.2.2.1 x.2:=by
 have o:Par (J1A x) λy=>y.2=0->J3H x.1.1 y.1.1/\JbZ y.1.1.2.2.2.1 x.2:=by
  unfold J1A;refine .bind λ_ _=>.not (λ_=>.some nofun) λ_=>.ltf (λ_=>.ge (λ_=>.some nofun) λ_=>.bind λj hj=>.ge (λc=>.some λ_=>⟨J3H.refl _,?_⟩) λ_=>.bind λJ h4=>.ne (λc=>.some λd=>absurd d c) λF=>.bind λ_ _=>.ne (λc=>.some λd=>absurd d c) λ_=>.bind λ_ _=>.bind λG C=>.ne (λc=>.some λd=>absurd d c) λA=>.bind λH D=>.ne (λc=>.some λd=>absurd d c) λv=>.bind λI E=>.ne (λc=>.some λd=>absurd d c) λw=>.some λ_=>?_) λ_=>.some nofun
  ·have k:Par (J0U (x.1.1.2.2.2.1,x.2)) λj=>0<=j->JbZ x.1.1.2.2.2.1 x.2:=by
    unfold J0U;refine .bind λ_ _=>.not (λ_=>.some λh=>absurd h (by decide)) λ_=>.bind λj hj=>.some ?_;have g:Par (J1d (x.1.1.2.2.2.1,x.2)) λj=>0<=j->JbZ x.1.1.2.2.2.1 x.2:=by unfold J1d;refine .while (λz=>z.1=x.2/\z.2.2=x.1.1.2.2.2.1) ⟨rfl,rfl⟩ ?_;rintro⟨a,i,q⟩ ⟨h1,h2⟩;dsimp only at h1 h2;subst h1;subst h2;unfold J6F;dsimp only;exact .lt (λ_=>.bind λf hf=>.eq (λc=>.some λ_=>⟨f,zQ5 (J0H hf).2,c⟩) λ_=>.some ⟨rfl,rfl⟩) λ_=>.some λh=>absurd h (by decide)
    exact g _ hj
   exact k _ hj oo
  ·obtain⟨a1,a2⟩:=JoY E w;refine⟨(Jw7 h4 F).trans a1,?_⟩;have r:=Jxv D v;have n:=Jr5 C A;dsimp only at a2 r n;rw[r,n]at a2;exact a2
 exact o _ e c
end
theorem J5p{B S x1:Int}(h:zFt B S zI x1)(g:BS B S 0 0:=by omega):Tot (J39 x1) λy=>zFt 0 0 J00 y:=by
 unfold J39;refine .ne (λe=>?_) λe=>?_
 ·refine .bind (J0a h) λj h3=>.some h3.1
 ·exact .some (⟨fkn 1,fk0,fk0,⟨trivial,Je⟩,fk0⟩)
theorem J7R{B S:Int}{x1:J9B}(h:zFt B S JnS x1)(z:BC B S 0 0:=by omega):Tot (J3O x1) λy=>zFt 0 0 (.pr Ja .b) y:=by
 unfold J3O;refine .bind ((J4O h.1).eqn) λD h1=>.ite (λn=>?_) λn=>?_
 ·have v3:=J3X h.1 h1.2 n;have:=J4 (l:=x1.1.1);have:J0 x1.1.1=_:=Jk h.1.1;have:=J4 (l:=x1.1.2);have:J0 x1.1.2=_:=Jk h.1.2;have g:zFt 1024 0 JD x1.1:=v3.2;refine Jf (τ:=Int) (λq=>(x1.2,q,x1.1,0,(0,0),0)) (λq=>(zFt 0 0 zI q/\0<=q/\(q<=J0 x1.1.2\/q<=0))) (λq=>J0 x1.1.2-q) ?_ 0 rfl ?_
  ·rintro e ⟨r,x,w⟩;unfold Jc9
   try dsimp only
   have:=J3.1 r;refine .lt (λj=>?_) λj=>?_
   ·refine .bind (Jh g.2) λC v=>.eq (λo=>?_) λo=>?_
    ·refine .bind (Jh g.2) λA k=>.some (⟨k.1,trivial⟩)
    ·have:=Jb e 1;exact .some ⟨J1 .i64 e 1,rfl,⟨J8,om,om⟩,om,om⟩
   ·exact .some (⟨fzr,trivial⟩)
  ·try dsimp only
   exact⟨fk0,oo,oo⟩
 ·exact .some (⟨fzr,trivial⟩)
section
variable {B S:Int}
theorem Jd8{x1:J9z}(h:zFt B S JFW x1)(e:BS B S 0 0:=by omega)(g:B<=17179869183:=by omega):Tot (J6O x1) λy=>zFt (B+1) S (.l zI) y/\J0 y<=J0 x1.1+1:=by obtain⟨un,n⟩:=x1;obtain⟨h,hn⟩:=h;have o:J0 un<=B:=h.1;have q:Tot (J6O (un,n)) λy=>zFt (J0 un+1) 0 (.l zI) y:=JDT (b:=J0 un) (un:=un) ⟨J0F _,h.2⟩ hn oo;exact q.mono λy hy=>⟨hy.u,hy.1⟩
end
theorem JeC{B S:Int}{x1:J9B}(h:zFt B S JnS x1)(a2:BS B S 0 0:=by omega)(hB:B<=8589934591:=by omega):Tot (J7y x1) λy=>zFt (2*B) 0 (.l zI) y:=by
 unfold J7y;refine .bind (J7R (B:=B) (S:=S) (h)) λQ h1=>.not (λU=>?_) λU=>?_
 ·exact .some Jc
 ·have:J0 x1.1.1<=B:=h.1.1.1;have:=J4 (l:=x1.1.1);have:J0 x1.1.1=_:=Jk h.1.1;refine Jf (τ:=J9z) (λq=>(x1.2,q.1,q.2,x1.1,Q.1)) (λq=>(zFt 0 0 zI q.2/\0<=q.2/\(q.2<=J0 x1.1.1\/q.2<=0))/\(zFt B 0 (.l zI) q.1/\J0 q.1<=1*q.2+0)) (λq=>J0 x1.1.1-q.2) ?_ ([],0) rfl ?_
  ·rintro⟨e,j⟩ C;dsimp only at C;obtain⟨⟨T,w9,V⟩,v,w8⟩:=C;unfold JgX
   try dsimp only
   have:=J3.1 T;refine .lt (λI=>?_) λI=>?_
   ·refine .bind (Jh h.1.1) λy4 K=>.bind (J4i (B:=0) (S:=0) (⟨K.1,h1.1⟩)) λy5 Z=>.ite (λP=>?_) λP=>?_
    ·refine .bind (Jh h.1.1) λy6 F=>.bind (Jd8 (B:=B) (S:=0) (⟨v,F.1.1⟩)) λo z=>?_;have w:zFt (B+1) 0 (.l zI) o:=z.1.u;have:J0 o<=(B+1):=w.1;have:J0 e<=B:=v.1;have:J0 o<=J0 e+1:=z.2;have J:zFt B 0 (.l zI) o:=⟨(by omega:J0 o<=B),λx hx=>w.2 x hx⟩;have:=Jb j 1;exact .some ⟨(o,J1 .i64 j 1),rfl,⟨⟨J8,om,om⟩,J,om⟩,om,om⟩
    ·have:=Jb j 1;exact .some ⟨(e,J1 .i64 j 1),rfl,⟨⟨J8,om,om⟩,v,om⟩,om,om⟩
   ·refine .inr ?_;have:J0 x1.1.2<=B:=h.1.2.1;have:=J4 (l:=x1.1.2);have:J0 x1.1.2=_:=Jk h.1.2;have:J0 e<=B:=v.1;refine Jf (τ:=J9z) (λq=>(x1.2,q.1,q.2,x1.1,Q.1)) (λq=>(zFt 0 0 zI q.2/\0<=q.2/\(q.2<=J0 x1.1.2\/q.2<=0))/\(zFt (2*B) 0 (.l zI) q.1/\J0 q.1<=1*q.2+J0 e)) (λq=>J0 x1.1.2-q.2) ?_ (e,0) rfl ?_
    ·rintro⟨r,k⟩ D;dsimp only at D;obtain⟨⟨M,Y,a0⟩,n,a1⟩:=D;unfold Jhc
     try dsimp only
     have:=J3.1 M;refine .lt (λR=>?_) λR=>?_
     ·refine .bind (Jh h.1.2) λy9 a5=>.ne (λO=>?_) λO=>?_
      ·refine .bind (Jh h.1.2) λW G=>.bind (J4i (B:=0) (S:=0) (⟨G.1,h1.1⟩)) λa6 a4=>.ite (λL=>?_) λL=>?_
       ·refine .bind (Jh h.1.2) λa3 N=>.bind (Jd8 (B:=(2*B)) (S:=0) (⟨n,N.1.1⟩)) λg E=>?_;have A:zFt (2*B+1) 0 (.l zI) g:=E.1.u;have:J0 g<=(2*B+1):=A.1;have:J0 g<=J0 r+1:=E.2;have H:zFt (2*B) 0 (.l zI) g:=⟨(by omega:J0 g<=(2*B)),λx hx=>A.2 x hx⟩;have:=Jb k 1;exact .some ⟨(g,J1 .i64 k 1),rfl,⟨⟨J8,om,om⟩,H,om⟩,om,om⟩
       ·have:=Jb k 1;exact .some ⟨(r,J1 .i64 k 1),rfl,⟨⟨J8,om,om⟩,n,om⟩,om,om⟩
      ·exact .some n
     ·exact .some n
    ·try dsimp only
     exact⟨⟨fk0,oo,oo⟩,v.u,oo⟩
  ·have:J0 ([]:List Int)=0:=rfl
   try dsimp only
   exact⟨⟨fk0,oo,oo⟩,Jc,oo⟩
theorem Jm2{B S:Int}{x1:J1G}(h:zFt B S tq1 x1)(z:BH B S:=by omega)(F:B<=8589934591:=by omega):Tot (J7Q x1) λy=>zFt 0 0 (.pr zI (.pr J0d .b)) y:=by
 unfold J7Q;refine .bind (J7R (B:=B) (S:=S) (⟨h.1.e.1,h.2⟩)) λw h1=>.not (λr=>?_) λr=>?_
 ·exact .some (⟨fk0,fzr,trivial⟩)
 ·refine .bind (JeC (B:=B) (S:=S) (⟨h.1.e.1,h.2⟩)) λg h3=>?_;have:J0 g<=(2*B):=h3.1;have:=J4 (l:=g);refine Jf (τ:=Int) (λq=>(g,J0 g,q,x1.1,(0,0),w.1)) (λq=>(zFt 0 0 zI q/\0<=q/\(q<=J0 g\/q<=0))) (λq=>J0 g-q) ?_ 0 rfl ?_
  ·rintro j ⟨v,A,E⟩;unfold Jc8
   try dsimp only
   have:=J3.1 v;refine .lt (λo=>?_) λo=>?_
   ·refine .bind (Jh h3) λC k=>.bind (Jf4 (B:=B) (S:=S) (⟨h.1,k.1⟩)) λD x=>.ite (λn=>?_) λn=>?_
    ·exact .some (⟨k.1,h1.1.2.1,trivial⟩)
    ·have:=Jb j 1;exact .some ⟨J1 .i64 j 1,rfl,⟨J8,om,om⟩,om,om⟩
   ·exact .some (⟨fk0,fzr,trivial⟩)
  ·try dsimp only
   exact⟨fk0,oo,oo⟩
theorem Jhg{B S:Int}{x1:JAo}(h:zFt B S JFR x1)(z:BS B S 0 0:=by omega)(E:B<=9223372036854775807:=by omega):Tot (J7u x1) λy=>zFt 0 0 zI y/\(0<=y/\y<=J0 x1.1.2):=by
 unfold J7u;refine .bind (J5L (B:=B) (S:=S) (⟨h.1,h.2.1,h.c.1⟩)) λF h1=>.eq (λr=>?_) λr=>?_
 ·have:J0 x1.1.2<=B:=h.1.2.1;have:=J4 (l:=x1.1.2);have:J0 x1.1.2=_:=Jk h.1.2;exact .some ⟨(J4y h.1.2.1 oo),om⟩
 ·have:J0 x1.1.2<=B:=h.1.2.1;have:=J4 (l:=x1.1.2);have:J0 x1.1.2=_:=Jk h.1.2;refine Jf (τ:=Int) (λq=>(q,x1.1,x1.2)) (λq=>(zFt 0 0 zI q/\0<=q/\(q<=J0 x1.1.2\/q<=0))) (λq=>J0 x1.1.2-q) ?_ 0 rfl ?_
  ·rintro e ⟨g,v,x⟩;unfold Jep
   try dsimp only
   have:=J3.1 g;refine .lt (λo=>?_) λo=>?_
   ·refine .bind (Jh h.1.2) λD k=>.ite (λj=>?_) λj=>?_
    ·have A:=J1I.1 j;refine .bind (J5L (B:=B) (S:=S) (⟨h.1,k.1.1,k.1.2.1⟩)) λC w=>.eq (λn=>?_) λn=>?_
     ·exact .some ⟨g,om⟩
     ·have:=Jb e 1;exact .some ⟨J1 .i64 e 1,rfl,⟨J8,om,om⟩,om,om⟩
    ·have:=Jb e 1;exact .some ⟨J1 .i64 e 1,rfl,⟨J8,om,om⟩,om,om⟩
   ·exact .some ⟨(J4y h.1.2.1 oo),om⟩
  ·try dsimp only
   exact⟨fk0,oo,oo⟩
theorem Jn3{B S:Int}{x1:JAo}(h:zFt B S JFR x1)(ab:BG B S:=by omega):Tot (J7J x1) λy=>zFt 4098 0 (.pr JD (.pr .b zI)) y:=by
 unfold J7J;refine .bind ((J4O h.1).eqn) λy2 h1=>.not (λM=>?_) λM=>?_
 ·exact .some (⟨fzr,trivial,fkn 17⟩)
 ·have v3:=J3X h.1 h1.2 M;have:J0 x1.1.1<=B:=h.1.1.1;have:=J4 (l:=x1.1.1);have:J0 x1.1.1=_:=Jk h.1.1;have:J0 x1.1.2<=B:=h.1.2.1;have:J0 x1.1.2=_:=Jk h.1.2;have e:zFt 1024 0 JD x1.1:=v3.2;refine .bind (JbY h.2) λy3 a4=>.not (λQ=>?_) λQ=>?_
  ·exact .some (⟨fzr,trivial,fkn 1⟩)
  ·refine .bind (J7R (B:=1024) (S:=0) (⟨e,h.2.1⟩)) λy4 a2=>.ite (λL=>?_) λL=>?_
   ·refine .not (λG=>?_) λG=>?_
    ·exact .some (⟨fzr,trivial,fkn 15⟩)
    ·have a8:=J1I.1 G;refine .ite (λH=>?_) λH=>?_
     ·exact .some (⟨e.u,trivial,fk0⟩)
     ·refine .bind (J5L (B:=1024) (S:=0) (⟨e,h.2.1,h.c.1⟩)) λy5 a1=>.ge (λJ=>?_) λJ=>?_
      ·exact .some (⟨e.u,trivial,fk0⟩)
      ·have:=Jb (J0 x1.1.1) (J0 x1.1.2);refine .eq (λW=>?_) λW=>?_
       ·exact .some (⟨fzr,trivial,fkn 21⟩)
       ·refine .bind (Jhg (B:=1024) (S:=0) (⟨e,h.2⟩)) λN r=>?_;have:=J3.1 r.1;have:0<=N/\N<=J0 x1.1.2:=r.2;refine .bind (J6m e.2) λn g=>.clo g.1 oo (by decide) ?_;have:J0 n<=1024:=g.1.1;have:=J4 (l:=n);have:J0 n=_:=Jk g.1;refine .bind (J0x (B:=1025) (Bl:=1024) (Bm:=1) (S:=0) (J0 n) 1 g.1 (J0j (B:=1) (S:=0) (t:=Ja) oo h.2)) λU D=>.bind (J3J e.2) λq o=>?_;have:J0 U=_:=Jk D.1;have:J0 q=_:=Jk o.1;refine .bind (J0x (B:=2049) (Bl:=1025) (Bm:=1024) (S:=0) (J0 U) (J0 q) D.1 o.1) λaa Z=>.bind (J6P (B:=2049) (S:=0) (⟨e.1.u,Z.1⟩)) λT P=>?_;have A:zFt 4098 0 JD T:=P.1.u;refine .bind (J5L (B:=4098) (S:=0) (⟨A,h.2.1,h.c.1⟩)) λa3 a7=>.some (⟨A,trivial,fk0⟩)
   ·refine .ite (λY=>?_) λY=>?_
    ·exact .some (⟨e.u,trivial,fk0⟩)
    ·refine .bind (J5L (B:=1024) (S:=0) (⟨e,h.2.1,h.c.1⟩)) λa6 a0=>.ge (λK=>?_) λK=>?_
     ·exact .some (⟨e.u,trivial,fk0⟩)
     ·have:=Jb (J0 x1.1.1) (J0 x1.1.2);refine .eq (λR=>?_) λR=>?_
      ·exact .some (⟨fzr,trivial,fkn 21⟩)
      ·refine .bind (Jhg (B:=1024) (S:=0) (⟨e,h.2⟩)) λv E=>?_;have:=J3.1 E.1;have:0<=v/\v<=J0 x1.1.2:=E.2;refine .bind (J6m e.2) λj k=>.clo k.1 oo (by decide) ?_;have:J0 j<=1024:=k.1.1;have:=J4 (l:=j);have:J0 j=_:=Jk k.1;refine .bind (J0x (B:=1025) (Bl:=1024) (Bm:=1) (S:=0) (J0 j) 1 k.1 (J0j (B:=1) (S:=0) (t:=Ja) oo h.2)) λw F=>.bind (J3J e.2) λx z=>?_;have:J0 w=_:=Jk F.1;have:J0 x=_:=Jk z.1;refine .bind (J0x (B:=2049) (Bl:=1025) (Bm:=1024) (S:=0) (J0 w) (J0 x) F.1 z.1) λa5 O=>.bind (J6P (B:=2049) (S:=0) (⟨e.1.u,O.1⟩)) λI V=>?_;have C:zFt 4098 0 JD I:=V.1.u;refine .bind (J5L (B:=4098) (S:=0) (⟨C,h.2.1,h.c.1⟩)) λa9 ac=>.some (⟨C,trivial,fk0⟩)
theorem Jlp{B S:Int}{x1:J01}(h:zFt B S JD x1)(G:BC B S 0 0:=by omega):Tot (J7W x1) λy=>zFt 1024 0 (.l zI) y:=by
 unfold J7W;refine .bind ((J4O h).eqn) λJ h1=>.ite (λD=>?_) λD=>?_
 ·have v3:=J3X h h1.2 D;have:=J4 (l:=x1.1);have:J0 x1.1=_:=Jk h.1;have:=J4 (l:=x1.2);have:J0 x1.2=_:=Jk h.2;have C:zFt 1024 0 JD x1:=v3.2;refine Jf (τ:=J9z) (λq=>(q.1,q.2,x1)) (λq=>(zFt 0 0 zI q.2/\0<=q.2/\(q.2<=J0 x1.2\/q.2<=0))/\(zFt 1024 0 (.l zI) q.1/\J0 q.1<=1*q.2+0)) (λq=>J0 x1.2-q.2) ?_ ([],0) rfl ?_
  ·rintro⟨g,j⟩ r;dsimp only at r;obtain⟨⟨A,E,H⟩,k,F⟩:=r;unfold Jc5
   try dsimp only
   have:=J3.1 A;refine .lt (λw=>?_) λw=>?_
   ·refine .bind (Jh C.2) λI v=>.bind (Jd8 (B:=1024) (S:=0) (⟨k,v.1.1⟩)) λe o=>?_;have n:zFt 1025 0 (.l zI) e:=o.1.u;have:J0 e<=1025:=n.1;have:=J4 (l:=e);have:J0 g<=1024:=k.1;have:=J4 (l:=g);have:J0 e<=J0 g+1:=o.2;have z:zFt 1024 0 (.l zI) e:=⟨(by omega:J0 e<=1024),λx hx=>n.2 x hx⟩;have:=Jb j 1;exact .some ⟨(e,J1 .i64 j 1),rfl,⟨⟨J8,om,om⟩,z,om⟩,om,om⟩
   ·exact .some k
  ·have:J0 ([]:List Int)=0:=rfl
   try dsimp only
   exact⟨⟨fk0,oo,oo⟩,Jc,oo⟩
 ·exact .some Jc
section
variable {B S:Int}
theorem JFe(k:Nat): ∀{t:J01} {e:List Int} {n:Int},zFt B S JD t->zFt 1024 0 (.l zI) e->1<=J0 e->J0 e<=n->n<=1024->n-J0 e<k->0<=B->0<=S->B<=8589934591->Tot (JeE J5n k (t,e,n)) λy=>zFt 1024 0 (.l zI) y:=by
 induction k with
 |zero=>intro t e n h1 h2 h3 h4 h5 J;omega
 |succ k ih=>
  intro t e n h1 h2 h3 h4 h5 J z w K;show Tot (J5n (JeE J5n k) (t,e,n)) _;unfold J5n;dsimp only;have Q:=J0o (J0 e) 1;refine .bind (Jh h2 oo (by show _<J0 e;omega)) λL I=>.bind (JeC (B:=B) (S:=S) (x1:=(t,L)) ⟨h1,I.1⟩) λg h=>.eq (λc=>?_) λc=>?_
  ·have G:J0 g<=2*B:=Jd3 h.1 oo;refine Jf (τ:=Int) (λq=>(e,g,J0 g,q,t)) (λq=>0<=q/\q<=J0 g) (λq=>J0 g-q) ?_ 0 rfl ⟨J0F _,J4⟩;rintro i ⟨o,g1⟩;unfold JcX;dsimp only;have F:=Jb i 1;refine .lt (λc=>.bind (Jh h o c) λ_ _=>.bind (Jh h2 (J0F _) (by show 0<J0 e;omega)) λ_ _=>.eq (λ_=>.some h2) λ_=>.some ⟨J1 .i64 i 1,rfl,⟨oo,oo⟩,oo,oo⟩) λ_=>.some (Jc oo)
  ·have G:J0 g<=2*B:=Jd3 h.1 oo;refine Jf (τ:=Int) (λq=>(e,n,g,J0 g,q,t)) (λq=>0<=q/\q<=J0 g) (λq=>J0 g-q) ?_ 0 rfl ⟨J0F _,J4⟩;rintro i ⟨o,g1⟩;unfold Jdl;dsimp only;have F:=Jb i 1;refine .lt (λH=>.bind (Jh h o H) λr D=>?_) λ_=>.some (Jc oo);refine Jf (τ:=Bool×Int) (λq=>(e,n,r,q.1,g,J0 g,i,e,J0 e,q.2,t)) (λq=>0<=q.2/\q.2<=J0 e) (λq=>J0 e-q.2) ?_ (false,0) rfl ⟨J0F _,by show 0<=J0 e;omega⟩;rintro⟨E,j⟩ ⟨g2,M⟩;dsimp only at g2 M;unfold JcU;dsimp only;have R:=Jb j 1;have go: ∀b:Bool,j<J0 e-> ∃c':Bool×Int,((e,n,r,b,g,J0 g,i,e,J0 e,J1 .i64 j 1,t):JG5)=(e,n,r,c'.1,g,J0 g,i,e,J0 e,c'.2,t)/\(0<=c'.2/\c'.2<=J0 e)/\J0 e-c'.2<J0 e-j/\0<=J0 e-j:=λb hj=>⟨(b,J1 .i64 j 1),rfl,⟨by show 0<=J1 .i64 j 1;omega,by show J1 .i64 j 1<=_;omega⟩,by show J0 e-J1 .i64 j 1<_;omega,oo⟩;refine .lt (λv=>.bind (Jh h2 g2 v) λN _=>.itf (λ_=>.some (go _ v)) λ_=>.some (go _ v)) λ_=>.inr ?_;have C: ∃c':Int,((e,n,g,J0 g,J1 .i64 i 1,t):JBS)=(e,n,g,J0 g,c',t)/\(0<=c'/\c'<=J0 g)/\J0 g-c'<J0 g-i/\0<=J0 g-i:=⟨J1 .i64 i 1,rfl,⟨oo,oo⟩,oo,oo⟩;refine .ite (λ_=>.some C) λ_=>.clo h2 oo (by decide) ?_;refine .bind (J0x (B:=1024) (Bl:=1024) (Bm:=1024) (S:=0) (J0 e) 1 h2 (J0j (B:=1024) (S:=0) (t:=.i .i64) oo D.1) rfl rfl (J0F _) (J0F _) oo oo (by decide)) λP x=>.bind (ih h1 x.1 oo oo h5 oo z w K) λO A=>.gt (λ_=>.some A) λ_=>.some C
theorem Jsd{x1:J9B}(h:zFt B S JnS x1)(k:0<=B:=by omega)(j:0<=S:=by omega)(v:B<=8589934591:=by omega):Tot (J9t x1) λy=>zFt 1024 0 (.l zI) y:=by obtain⟨t,w⟩:=x1;obtain⟨e,g⟩:=h;unfold J9t;dsimp only;refine Jf (τ:=Int) (λq=>(w,q,t)) (λq=>1<=q/\q<=1025) (λq=>1025-q) ?_ 1 rfl ⟨J0F _,by decide⟩;rintro n ⟨x,g1⟩;unfold Jdy;dsimp only;have A:=Jb n 1;refine .bind (Jlp e) λo r=>.le (λc=>?_) λ_=>.some (Jc oo);have z:J0 o<=1024:=r.1;refine .bind (JFe (B:=B) (S:=S) 1100 e (J0j (B:=1024) (S:=0) (t:=.i .i64) oo g) (J0F _) (by show(1:Int)<=n;omega) oo (by show n-1<1100;omega) k j v) λC f4=>.gt (λ_=>.some f4) λ_=>.some ⟨J1 .i64 n 1,rfl,⟨oo,oo⟩,oo,oo⟩
end
theorem JfW{B S:Int}{x1:J2C}(h:zFt B S tq2 x1)(r:BC B S 0 0:=by omega):Tot (J3z x1) λy=>zFt 0 0 J0d y/\(y.2=0->0<=y.1/\y.1<J0 x1.1):=by
 unfold J3z;refine .bind ((J3V h.1).eqn) λw h1=>.not (λj=>?_) λj=>?_
 ·have:J0 x1.1<=B:=h.1.1;exact .some ⟨(⟨fk0,fkn 15⟩),om⟩
 ·have q:=J2X h.1 h1.2 j;have:J0 x1.1=_:=Jk h.1;have g:zFt 4096 0 (.l Jm) x1.1:=q.2;refine .bind (Ja1 (B:=4096) (S:=0) (⟨g,h.2⟩)) λk e=>?_;have:=J3.1 e.1;have: -1<=k/\k<J0 x1.1:=e.2;refine .lt (λo=>?_) λo=>?_
  ·exact .some ⟨(⟨fk0,fkn 16⟩),om⟩
  ·refine .bind (Jh g) λx v=>.ne (λn=>?_) λn=>?_
   ·exact .some ⟨(⟨fk0,fkn 15⟩),om⟩
   ·exact .some ⟨(⟨e.1,fk0⟩),om⟩
section
variable {B S:Int}
theorem Jg0{x:J2C}{y:JI}(h:zFt B S tq2 x)(e:J3z x=some y)(c:y.2=0):(J0 x.1<=64)/\zFt 4096 0 (.l Jm) x.1:=by
 have g:Par (J3z x) λy=>y.2=0->J18 x.1=some true:=by unfold J3z;refine .bind λa ha=>.not (λ_=>.some nofun) λc=>?_;subst c;exact λ_ _ _=>ha
 exact J2X h.1 (g _ e c) rfl
end
theorem JhJ{B S:Int}{x1:JoW}(h:zFt B S JEm x1)(I:BG B S:=by omega):Tot (J8l x1) λy=>zFt 4096 0 tq2 y:=by
 unfold J8l;refine .bind ((JfW (B:=B) (S:=S) (x1:=(x1.1,x1.2.1)) (⟨h.1,h.2.1⟩)).eqn) λq h1=>?_;have:=J3.1 h1.1.1.1;have:J0 x1.1=_:=Jk h.1;have:q.2=0->0<=q.1/\q.1<J0 x1.1:=h1.1.2;refine .ne (λr=>?_) λr=>?_
 ·exact .some (⟨Jc,h1.1.1.2⟩)
 ·have v9:=Jg0 (x:=(x1.1,x1.2.1)) (⟨h.1,h.2.1⟩) h1.2 r;have n:zFt 4096 0 (.l Jm) x1.1:=v9.2;refine .bind (Jh n) λw j=>?_;have:=J3.1 h.c;refine .ltf (λE=>?_) λE=>?_
  ·have:J0 w.2.2.2.2.2<=4096:=j.1.g.1;have:=J4 (l:=w.2.2.2.2.2);refine .ge (λC=>?_) λC=>?_
   ·exact .some (⟨Jc,fkn 19⟩)
   ·have:=Jb x1.2.2 1;refine .bind (J6m j.1.g) λo k=>.clo k.1 oo (by decide) ?_;have:J0 o<=4096:=k.1.1;have:=J4 (l:=o);refine .bind (J6j (l:=o)) λ_ _=>.bind (Jcb k.1) λJ v=>.bind (J8J (B:=4096) (S:=0) (⟨j.1.1,fkn 2,j.1.c.1,v.1,j.1.e.1,k.1⟩)) λG F=>?_;have z:zFt 4096 0 Jm G:=F.u;refine .bind (J9d (B:=4096) (S:=0) (⟨n,h1.1.1.1,z⟩) om om) λH A=>?_;have D:zFt 4096 0 (.l Jm) H:=A.1.u;exact .some (⟨D,fk0⟩)
  ·exact .some (⟨Jc,fkn 19⟩)
theorem Jhw{B S:Int}{x1:J2C}(h:zFt B S tq2 x1)(C:BG B S:=by omega):Tot (J8g x1) λy=>zFt 4097 0 tq2 y:=by
 unfold J8g;refine .bind ((JfW (B:=B) (S:=S) (x1:=(x1.1,x1.2)) (h)).eqn) λo h1=>?_;have:=J3.1 h1.1.1.1;have:J0 x1.1=_:=Jk h.1;have:o.2=0->0<=o.1/\o.1<J0 x1.1:=h1.1.2;refine .ne (λr=>?_) λr=>?_
 ·exact .some (⟨Jc,h1.1.1.2⟩)
 ·have v9:=Jg0 (x:=(x1.1,x1.2)) (h) h1.2 r;have k:zFt 4096 0 (.l Jm) x1.1:=v9.2;refine .bind (Jh k) λn j=>?_;have:J0 n.2.2.2.2.2<=4096:=j.1.g.1;have:=J4 (l:=n.2.2.2.2.2);refine .eq (λz=>?_) λz=>?_
  ·exact .some (⟨Jc,fkn 21⟩)
  ·refine .clo j.1.g oo (by decide) ?_;refine .bind (J0x (B:=4097) (Bl:=4096) (Bm:=1) (S:=0) (J0 n.2.2.2.2.2) 1 j.1.g (J0j (B:=1) (S:=0) (t:=zI) oo j.1.c.1)) λD v=>.bind (J9d (B:=4097) (S:=0) (⟨k.u,h1.1.1.1,j.1.1,j.1.2.1,j.1.c.1,j.1.d.1,j.1.e.1.u,v.1⟩) om om) λA q=>?_;have w:zFt 4097 0 (.l Jm) A:=q.1.u;exact .some (⟨w,fk0⟩)
theorem JqD{B S:Int}{x1:List Int}(h:zFt B S (.l zI) x1)(g:BS B S 0 0:=by omega):Tot (J9m x1) λy=>zFt 0 0 zI y:=by
 unfold J9m;have:=J4 (l:=x1);refine .eq (λe=>?_) λe=>?_
 ·exact .some fk0
 ·refine .bind (Jh h) λj h4=>.some h4.1
theorem JyM{B S:Int}{x1:J1G}(h:zFt B S tq1 x1)(g:BS B S 0 0:=by omega)(k:B<=8589934591:=by omega):Tot (Jbw x1) λy=>zFt 0 0 zI y:=by unfold Jbw;refine .bind (JeC (B:=B) (S:=S) (⟨h.1.e.1,h.2⟩)) λn h1=>.bind (JqD h1) λj h2=>.some h2
theorem Jyv{B S:Int}{x1:J6i}(h:zFt B S tq7 x1)(n:BH B S:=by omega)(q:B<=34359738368:=by omega):Tot (J6u x1) λy=>zFt B S JM y:=by
 unfold J6u;refine .bind ((J5y (B:=B) (S:=S) (x1:=(x1.1,x1.2)) (h)).eqn) λg h1=>?_;have:=J3.1 h1.1.1;have:J0 x1.1.2.1=_:=Jk h.1.2.1;have: -1<=g/\g<J0 x1.1.2.1:=h1.1.2;refine .lt (λk=>?_) λk=>?_
 ·exact .some h.1
 ·refine .bind (Jh h.1.2.1) λo e=>.bind (J7C (B:=B) (S:=S) (⟨h.1,h1.1.1,e.1.z.1.u,trivial,e.1.z.2.2.1,trivial⟩) om om) λr j=>.some j.1
theorem Joq{B S:Int}{x1:Jd0}(h:zFt B S JnK x1)(p0:0<=x1.2.2.2.2.1)(L:x1.2.2.2.2.1<16)(I:J0 x1.2.2.2.2.2<=12)(G:BH B S:=by omega)(N:B<=34359738368:=by omega):Tot (J2E x1) λy=>zFt B S tq4 y/\(J0 x1.1.2.2.1.2.1<=J0 y.1.2.2.1.2.1):=by
 unfold J2E;refine .bind (J9e (B:=B) (S:=S) (⟨h.1.d.1,h.2.z.2.2.1⟩)) λO h4=>.not (λE=>?_) λE=>?_
 ·have:J0 x1.1.2.2.1.2.1<=B:=h.1.c.1.2.1.1;exact .some ⟨(⟨h.1,fkn 3,fk0,h.2.z.2.2.1,⟨trivial,Je⟩,fk0⟩),om⟩
 ·have:=J3.1 h.2.z.2.1;refine .eq (λD=>?_) λD=>?_
  ·refine .bind (Jyv (B:=B) (S:=S) (⟨h.1.d.1,h.2.z.2.2.1⟩)) λJ w=>.bind (J7k) λ_ _=>.bind (Jcd h4.1.c) λK q=>.some ⟨(⟨⟨h.1.1,h.1.2.1,h.1.c.1,w,h.1.e⟩,fkn 1,fk0,fk0,q.u,fk0⟩),om⟩
  ·refine .bind (J7k) λ_ _=>.bind (Jcd h4.1.c) λH n=>.eq (λx=>?_) λx=>?_
   ·refine .bind (JeL (B:=B) (S:=S) (⟨h.1,fk0,fkn 1,h.2.z.1,fk0,fk0,fk0,⟨h.2.z.2.2.1,h.2.z.2.2.2.1,n.u,trivial,h.2.z.2.2.2.2.u⟩,Je⟩)) λo j=>?_;have:J0 o.1.2.2.1.2.1=_:=Jk j.1.1.c.1.2.1;have:J0 x1.1.2.2.1.2.1=_:=Jk h.1.c.1.2.1;have:o.2=0->J0 o.1.2.2.1.2.1=J0 x1.1.2.2.1.2.1+1:=j.2;refine .ne (λr=>?_) λr=>?_
    ·refine .bind (J0a j.1.2) λM v=>.some ⟨(⟨h.1,v.1.u⟩),om⟩
    ·exact .some ⟨(⟨j.1.1,fkn 1,fk0,fk0,⟨trivial,Je⟩,fk0⟩),om⟩
   ·refine .bind (JeL (B:=B) (S:=S) (⟨h.1,fk0,fkn 1,h.2.z.1,fk0,fk0,fk0,⟨h.2.z.2.2.1,h.2.z.2.2.2.1,n.u,trivial,Je⟩,Je⟩)) λk g=>?_;have:J0 k.1.2.2.1.2.1=_:=Jk g.1.1.c.1.2.1;have:J0 x1.1.2.2.1.2.1=_:=Jk h.1.c.1.2.1;have:k.2=0->J0 k.1.2.2.1.2.1=J0 x1.1.2.2.1.2.1+1:=g.2;refine .ne (λC=>?_) λC=>?_
    ·refine .bind (J0a g.1.2) λF A=>.some ⟨(⟨h.1,A.1.u⟩),om⟩
    ·exact .some ⟨(⟨g.1.1,fkn 1,fk0,fk0,⟨trivial,Je⟩,fk0⟩),om⟩
theorem JoS{B S:Int}{x1:J1G}(h:zFt B S tq1 x1)(D:Has x1.1.2.2.2.2.2.1 x1.2)(G:BH B S:=by omega)(M:B<=34359738368:=by omega):Tot (J2I x1) λy=>zFt B S tq4 y/\(J0 x1.1.2.2.1.2.1<=J0 y.1.2.2.1.2.1):=by
 unfold J2I;refine .bind ((J3h (B:=B) (S:=S) (x1:=(x1.1.2.2.2.2.2.1,x1.2)) (⟨h.1.g.1,h.2⟩)).eqn) λr h1=>?_;have:0<=r:=Jke D h1.2;have:J0 x1.1.2.2.2.2.2.1=_:=Jk h.1.g.1;have: -1<=r/\r<J0 x1.1.2.2.2.2.2.1:=h1.1.2;refine .bind (Jh h.1.g.1) λI K=>.eq (λE=>?_) λE=>?_
 ·refine .bind (JaX (B:=B) (S:=S) (⟨h.1.g.1,h.2⟩)) λL A=>.bind (J7U (B:=B) (S:=S) (⟨h.1.e.1,h.2⟩)) λJ z=>.some ⟨(⟨⟨h.1.1,h.1.2.1,h.1.c.1,h.1.d.1,z,A,h.1.h⟩,fkn 1,fk0,fk0,⟨trivial,Je⟩,fk0⟩),om⟩
 ·refine .bind ((J5e (B:=B) (S:=S) (x1:=(x1.1,0,3,x1.2,0,0,0,(0,0,(false,[]),false,[]),[])) (⟨h.1,fk0,fkn 3,h.2,fk0,fk0,fk0,⟨fk0,fk0,⟨trivial,Je⟩,trivial,Je⟩,Je⟩)).eqn) λn k=>?_;have:J0 n.1.2.2.1.2.1=_:=Jk k.1.1.1.c.1.2.1;have:J0 x1.1.2.2.1.2.1=_:=Jk h.1.c.1.2.1;have:n.2.2=0->J0 n.1.2.2.1.2.1=J0 x1.1.2.2.1.2.1+1/\J0 x1.1.2.2.1.2.1<=4095/\0<=(0:Int)/\(0:Int)<64/\0<=(0:Int)/\(0:Int)<16:=k.1.2;refine .ne (λx=>?_) λx=>?_
  ·refine .bind (J0a k.1.1.c) λH C=>.some ⟨(⟨h.1,C.1.u⟩),om⟩
  ·refine .bind (J9u (B:=16384) (S:=1073741824) (⟨k.1.1.1,k.1.1.2.1⟩)) λq o=>?_;have j:zFt 16384 1073741824 J9 q:=o.1.u;have:J0 q.2.2.1.2.1=_:=Jk j.c.1.2.1;have:J0 q.2.2.1.2.1=J0 n.1.2.2.1.2.1:=o.2;refine .bind (J7U (B:=16384) (S:=1073741824) (⟨j.e.1,h.2⟩)) λF w=>?_;have v:zFt 16384 1073741824 JD F:=w.u;exact .some ⟨(⟨⟨j.1,j.2.1,j.c.1.u,j.d.1.u,v.u,j.g.u⟩,fkn 1,fk0,fk0,⟨trivial,Je⟩,fk0⟩),om⟩
theorem JpA{B S:Int}{x1:J9B}(h:zFt B S JnS x1)(v:BG B S:=by omega):Tot (J8K x1) λy=>zFt B S JD y:=by
 unfold J8K;refine .bind ((J4O h.1).eqn) λw h1=>.not (λg=>?_) λg=>?_
 ·exact .some h.1
 ·have v3:=J3X h.1 h1.2 g;have e:zFt 1024 0 JD x1.1:=v3.2;refine .bind (JaH (B:=1024) (S:=0) (⟨e.2,h.2,trivial,fzr⟩)) λq k=>?_;have j:zFt 1025 0 (.l Ja) q:=k.u;refine .bind (J6P (B:=1025) (S:=0) (⟨e.1.u,j⟩)) λr n=>?_;have o:zFt 2050 0 JD r:=n.1.u;exact .some o.u
theorem Jlg{B S:Int}{x1:Jnz}(h:zFt B S JGm x1)(D:Has x1.1.2.2.2.2.2.1 x1.2.1)(F:BC B S 0 0:=by omega):Tot (J7N x1) λy=>zFt 0 0 .b y:=by
 unfold J7N;refine .bind ((J3h (B:=B) (S:=S) (x1:=(x1.1.2.2.2.2.2.1,x1.2.1)) (⟨h.1.g.1,h.2.1⟩)).eqn) λo h1=>?_;have:0<=o:=Jke D h1.2;have:J0 x1.1.2.2.2.2.2.1=_:=Jk h.1.g.1;have: -1<=o/\o<J0 x1.1.2.2.2.2.2.1:=h1.1.2;refine .bind (Jh h.1.g.1) λk w=>?_;have:J0 k.2.2.2.2.1<=B:=w.1.e.1.1;have:=J4 (l:=k.2.2.2.2.1);refine Jf (τ:=Int) (λq=>(q,x1.1,x1.2.2,k)) (λq=>(zFt 0 0 zI q/\0<=q/\(q<=J0 k.2.2.2.2.1\/q<=0))) (λq=>J0 k.2.2.2.2.1-q) ?_ 0 rfl ?_
 ·rintro j ⟨A,G,E⟩;unfold Jc7
  try dsimp only
  have:=J3.1 A;refine .lt (λv=>?_) λv=>?_
  ·refine .bind (Jh w.1.e.1) λH z=>.bind (J4q (B:=B) (S:=S) (⟨h.1.c.1,z.1⟩)) λI n=>.eq (λC=>?_) λC=>?_
   ·have:=J3.1 n.1.h.1.1;refine .eq (λx=>?_) λx=>?_
    ·have:=J3.1 n.1.h.1.2.1;refine .eq (λr=>?_) λr=>?_
     ·exact .some trivial
     ·have:=Jb j 1;exact .some ⟨J1 .i64 j 1,rfl,⟨J8,om,om⟩,om,om⟩
    ·have:=Jb j 1;exact .some ⟨J1 .i64 j 1,rfl,⟨J8,om,om⟩,om,om⟩
   ·have:=Jb j 1;exact .some ⟨J1 .i64 j 1,rfl,⟨J8,om,om⟩,om,om⟩
  ·exact .some trivial
 ·try dsimp only
  exact⟨fk0,oo,oo⟩
theorem Jhf{B S:Int}{x1:J7b}(h:zFt B S JkY x1)(P:Has x1.1.2.2.2.2.2.1 x1.2.1)(a2:BH B S:=by omega)(hB:B<=34359738368:=by omega):Tot (J2z x1) λy=>zFt B S tq4 y/\(J0 x1.1.2.2.1.2.1<=J0 y.1.2.2.1.2.1):=by
 unfold J2z;refine .bind (JpA (B:=B) (S:=S) (⟨h.1.e.1,h.2.1⟩)) λQ h1=>.bind ((J3h (B:=B) (S:=S) (x1:=(x1.1.2.2.2.2.2.1,x1.2.1)) (⟨h.1.g.1,h.2.1⟩)).eqn) λA h2=>?_;have:0<=A:=Jke P h2.2;have:J0 x1.1.2.2.2.2.2.1=_:=Jk h.1.g.1;have: -1<=A/\A<J0 x1.1.2.2.2.2.2.1:=h2.1.2;refine .bind (Jh h.1.g.1) λy4 h9=>.eq (λI=>?_) λI=>?_
 ·refine .bind (JaX (B:=B) (S:=S) (⟨h.1.g.1,h.2.1⟩)) λy5 F=>.bind (J7U (B:=B) (S:=S) (⟨h1,h.2.1⟩)) λy6 D=>.some ⟨(⟨⟨h.1.1,h.1.2.1,h.1.c.1,h.1.d.1,D,F,h.1.h⟩,h.c,fk0,fk0,⟨trivial,Je⟩,fk0⟩),om⟩
 ·refine .bind ((J5e (B:=B) (S:=S) (x1:=((x1.1.1,x1.1.2.1,x1.1.2.2.1,x1.1.2.2.2.1,Q,x1.1.2.2.2.2.2),0,4,x1.2.1,0,0,0,(0,0,(false,[]),false,[]),[])) (⟨⟨h.1.1,h.1.2.1,h.1.c.1,h.1.d.1,h1,h.1.g⟩,fk0,fkn 4,h.2.1,fk0,fk0,fk0,⟨fk0,fk0,⟨trivial,Je⟩,trivial,Je⟩,Je⟩)).eqn) λo j=>?_;have:J0 o.1.2.2.1.2.1=_:=Jk j.1.1.1.c.1.2.1;have:J0 x1.1.2.2.1.2.1=_:=Jk h.1.c.1.2.1;have:o.2.2=0->J0 o.1.2.2.1.2.1=J0 x1.1.2.2.1.2.1+1/\J0 x1.1.2.2.1.2.1<=4095/\0<=(0:Int)/\(0:Int)<64/\0<=(0:Int)/\(0:Int)<16:=j.1.2;refine .ne (λw=>?_) λw=>?_
  ·refine .bind (J0a j.1.1.c) λy8 G=>.some ⟨(⟨h.1,G.1.u⟩),om⟩
  ·have K:Has o.1.2.2.2.2.2.1 x1.2.1:=JjB (⟨⟨h.1.1,h.1.2.1,h.1.c.1,h.1.d.1,h1,h.1.g⟩,fk0,fkn 4,h.2.1,fk0,fk0,fk0,⟨fk0,fk0,⟨trivial,Je⟩,trivial,Je⟩,Je⟩) j.2 w;refine Jf (τ:=Jbj) (λq=>(x1.2.1,x1.2.2,o.1.2.2.2.2.1.1,q.1,x1.1,(0,0,(0,[],0),(0,[],0),([],[]),[],[],[]),(0,0,0,(false,[]),0),q.2)) (λq=>zFt 0 0 zI q.1/\zFt 16384 1073741824 J9 q.2/\(0<=q.1)/\(q.1<=J0 o.1.2.2.2.2.1.1)/\(J0 x1.1.2.2.1.2.1<=J0 q.2.2.2.1.2.1)/\(Has q.2.2.2.2.2.2.1 x1.2.1)) (λq=>J0 o.1.2.2.2.2.1.1-q.1) ?_ (0,o.1) rfl ?_
   ·rintro⟨r,n⟩ x;dsimp only at x;obtain⟨C,k,W,V,Y,v⟩:=x;unfold J7Y
    try dsimp only
    have:=J3.1 C;have:J0 o.1.2.2.2.2.1.1<=16384:=j.1.1.1.e.1.1.1;have:=J4 (l:=o.1.2.2.2.2.1.1);have:J0 o.1.2.2.2.2.1.1=_:=Jk j.1.1.1.e.1.1;refine .lt (λH=>?_) λH=>?_
    ·refine .bind (Jh j.1.1.1.e.1.1) λT R=>.eq (λE=>?_) λE=>?_
     ·refine .bind (Jh j.1.1.1.e.1.1) λa1 L=>.bind (Jlg (B:=16384) (S:=1073741824) (⟨k,h.2.1,L.1.2.1⟩) v) λZ a0=>.not (λN=>?_) λN=>?_
      ·refine .bind (Jh j.1.1.1.e.1.1) λU O=>.bind (Jhz (B:=16384) (S:=1073741824) (⟨k.2.2.2.2.1,h.2.1,O.1.2.1⟩)) λz J=>?_;have M:zFt 16384 1073741824 JD z:=J.u;have:=Jb r 1;exact .some ⟨(J1 .i64 r 1,(n.1,n.2.1,n.2.2.1,n.2.2.2.1,z,n.2.2.2.2.2)),rfl,⟨J8,⟨k.1,k.2.1,k.2.2.1,k.2.2.2.1,M,k.2.2.2.2.2⟩,om,om,om,v⟩,om,om⟩
      ·have:=Jb r 1;exact .some ⟨(J1 .i64 r 1,n),rfl,⟨J8,k,om,om,om,v⟩,om,om⟩
     ·have:=Jb r 1;exact .some ⟨(J1 .i64 r 1,n),rfl,⟨J8,k,om,om,om,v⟩,om,om⟩
    ·exact .some ⟨(⟨k.u,h.c,fk0,fk0,⟨trivial,Je⟩,fk0⟩),om⟩
   ·have:J0 o.1.2.2.2.2.1.1<=16384:=j.1.1.1.e.1.1.1;have:=J4 (l:=o.1.2.2.2.2.1.1)
    try dsimp only
    exact⟨fk0,j.1.1.1,om,om,om,K⟩
theorem JhK{B S:Int}{x1:Int×J2b}(h:zFt B S tq6 x1)(j:BS B S 0 0:=by omega):Tot (J86 x1) λy=>zFt 0 0 (.pr Ja .b) y:=by
 unfold J86;have s0:zFt 0 S tq6 x1:=h;refine .eq (λg=>?_) λg=>?_
 ·exact .some (⟨⟨s0.1,⟨s0.2.2.1,s0.2.2.2.1⟩,fkn 1⟩,trivial⟩)
 ·refine .eq (λc3=>?_) λc3=>?_
  ·exact .some (⟨⟨s0.1,⟨s0.2.2.1,s0.2.2.2.1⟩,fkn 2⟩,trivial⟩)
  ·refine .eq (λe=>?_) λe=>?_
   ·exact .some (⟨⟨s0.1,⟨s0.2.2.1,s0.2.2.2.1⟩,fkn 2⟩,trivial⟩)
   ·exact .some (⟨fzr,trivial⟩)
theorem Jg1{B S:Int}{x1:J6×J2b}(h:zFt B S (.pr J9 J0v) x1)(ah:BS B S 0 0:=by omega):Tot (J5j x1) λy=>zFt 0 0 zI y/\(y=0->1<=x1.2.1/\x1.2.1<=7/\J0 x1.2.2.2.2<=12/\(x1.2.1<=3->0<=x1.2.2.1/\x1.2.2.1<x1.1.1/\0<=x1.2.2.2.1/\x1.2.2.2.1<16)):=by
 unfold J5j;refine .eq (λc1=>?_) λc1=>?_
 ·have:=J3.1 h.2.z.2.1;refine .ltf (λc3=>?_) λc3=>?_
  ·have:=J3.1 h.1.1;refine .gef (λc5=>?_) λc5=>?_
   ·have:=J3.1 h.2.z.2.2.1;refine .ltf (λc7=>?_) λc7=>?_
    ·refine .ge (λc9=>?_) λc9=>?_
     ·have:J0 x1.2.2.2.2<=S:=h.2.z.2.2.2;exact .some ⟨(fkn 1),om⟩
     ·refine .eq (λK=>?_) λK=>?_
      ·refine .not (λv=>?_) λv=>?_
       ·have:J0 x1.2.2.2.2<=S:=h.2.z.2.2.2;exact .some ⟨(fkn 1),om⟩
       ·have ag:=J1I.1 v;refine .gt (λM=>?_) λM=>?_
        ·exact .some ⟨(fkn 22),om⟩
        ·exact .some ⟨fk0,om⟩
      ·refine .not (λr=>?_) λr=>?_
       ·have:J0 x1.2.2.2.2<=S:=h.2.z.2.2.2;exact .some ⟨(fkn 1),om⟩
       ·have ai:=J1I.1 r;have:=J4 (l:=x1.2.2.2.2);refine .gt (λY=>?_) λY=>?_
        ·exact .some ⟨(fkn 22),om⟩
        ·exact .some ⟨fk0,om⟩
    ·have:J0 x1.2.2.2.2<=S:=h.2.z.2.2.2;exact .some ⟨(fkn 1),om⟩
   ·have:J0 x1.2.2.2.2<=S:=h.2.z.2.2.2;exact .some ⟨(fkn 1),om⟩
  ·have:J0 x1.2.2.2.2<=S:=h.2.z.2.2.2;exact .some ⟨(fkn 1),om⟩
 ·refine .eq (λL=>?_) λL=>?_
  ·have:=J3.1 h.2.z.2.1;refine .ltf (λV=>?_) λV=>?_
   ·have:=J3.1 h.1.1;refine .gef (λa2=>?_) λa2=>?_
    ·have:=J3.1 h.2.z.2.2.1;refine .ltf (λW=>?_) λW=>?_
     ·refine .ge (λa0=>?_) λa0=>?_
      ·have:J0 x1.2.2.2.2<=S:=h.2.z.2.2.2;exact .some ⟨(fkn 1),om⟩
      ·refine .eq (λN=>?_) λN=>?_
       ·refine .not (λn=>?_) λn=>?_
        ·have:J0 x1.2.2.2.2<=S:=h.2.z.2.2.2;exact .some ⟨(fkn 1),om⟩
        ·have aj:=J1I.1 n;have:=J4 (l:=x1.2.2.2.2);refine .gt (λa3=>?_) λa3=>?_
         ·exact .some ⟨(fkn 22),om⟩
         ·exact .some ⟨fk0,om⟩
       ·refine .not (λq=>?_) λq=>?_
        ·have:J0 x1.2.2.2.2<=S:=h.2.z.2.2.2;exact .some ⟨(fkn 1),om⟩
        ·have ae:=J1I.1 q;have:=J4 (l:=x1.2.2.2.2);refine .gt (λT=>?_) λT=>?_
         ·exact .some ⟨(fkn 22),om⟩
         ·exact .some ⟨fk0,om⟩
     ·have:J0 x1.2.2.2.2<=S:=h.2.z.2.2.2;exact .some ⟨(fkn 1),om⟩
    ·have:J0 x1.2.2.2.2<=S:=h.2.z.2.2.2;exact .some ⟨(fkn 1),om⟩
   ·have:J0 x1.2.2.2.2<=S:=h.2.z.2.2.2;exact .some ⟨(fkn 1),om⟩
  ·refine .eq (λa1=>?_) λa1=>?_
   ·have:=J3.1 h.2.z.2.1;refine .ltf (λR=>?_) λR=>?_
    ·have:=J3.1 h.1.1;refine .gef (λa4=>?_) λa4=>?_
     ·have:=J3.1 h.2.z.2.2.1;refine .ltf (λQ=>?_) λQ=>?_
      ·refine .ge (λO=>?_) λO=>?_
       ·have:J0 x1.2.2.2.2<=S:=h.2.z.2.2.2;exact .some ⟨(fkn 1),om⟩
       ·refine .eq (λU=>?_) λU=>?_
        ·refine .not (λw=>?_) λw=>?_
         ·have:J0 x1.2.2.2.2<=S:=h.2.z.2.2.2;exact .some ⟨(fkn 1),om⟩
         ·have ad:=J1I.1 w;refine .gt (λP=>?_) λP=>?_
          ·exact .some ⟨(fkn 22),om⟩
          ·exact .some ⟨fk0,om⟩
        ·refine .not (λo=>?_) λo=>?_
         ·have:J0 x1.2.2.2.2<=S:=h.2.z.2.2.2;exact .some ⟨(fkn 1),om⟩
         ·have af:=J1I.1 o;have:=J4 (l:=x1.2.2.2.2);refine .gt (λZ=>?_) λZ=>?_
          ·exact .some ⟨(fkn 22),om⟩
          ·exact .some ⟨fk0,om⟩
      ·have:J0 x1.2.2.2.2<=S:=h.2.z.2.2.2;exact .some ⟨(fkn 1),om⟩
     ·have:J0 x1.2.2.2.2<=S:=h.2.z.2.2.2;exact .some ⟨(fkn 1),om⟩
    ·have:J0 x1.2.2.2.2<=S:=h.2.z.2.2.2;exact .some ⟨(fkn 1),om⟩
   ·refine .eq (λx=>?_) λx=>?_
    ·have:=J3.1 h.2.z.2.2.1;refine .ltf (λG=>?_) λG=>?_
     ·refine .ge (λA=>?_) λA=>?_
      ·have:J0 x1.2.2.2.2<=S:=h.2.z.2.2.2;exact .some ⟨(fkn 1),om⟩
      ·refine .not (λk=>?_) λk=>?_
       ·have:J0 x1.2.2.2.2<=S:=h.2.z.2.2.2;exact .some ⟨(fkn 1),om⟩
       ·have a9:=J1I.1 k;have:=J4 (l:=x1.2.2.2.2);refine .gt (λF=>?_) λF=>?_
        ·have:=J3.1 h.2.z.2.1;exact .some ⟨(fkn 22),om⟩
        ·have:=J3.1 h.2.z.2.1;exact .some ⟨fk0,om⟩
     ·have:J0 x1.2.2.2.2<=S:=h.2.z.2.2.2;exact .some ⟨(fkn 1),om⟩
    ·refine .eq (λD=>?_) λD=>?_
     ·refine .not (λg=>?_) λg=>?_
      ·have:J0 x1.2.2.2.2<=S:=h.2.z.2.2.2;exact .some ⟨(fkn 1),om⟩
      ·have a5:=J1I.1 g;have:=J4 (l:=x1.2.2.2.2);refine .gt (λC=>?_) λC=>?_
       ·have:=J3.1 h.2.z.2.1;exact .some ⟨(fkn 22),om⟩
       ·have:=J3.1 h.2.z.2.1;exact .some ⟨fk0,om⟩
     ·refine .eq (λH=>?_) λH=>?_
      ·refine .not (λe=>?_) λe=>?_
       ·have:J0 x1.2.2.2.2<=S:=h.2.z.2.2.2;exact .some ⟨(fkn 1),om⟩
       ·have ab:=J1I.1 e;have:=J4 (l:=x1.2.2.2.2);refine .gt (λI=>?_) λI=>?_
        ·have:=J3.1 h.2.z.2.1;exact .some ⟨(fkn 22),om⟩
        ·have:=J3.1 h.2.z.2.1;exact .some ⟨fk0,om⟩
      ·refine .eq (λE=>?_) λE=>?_
       ·refine .not (λj=>?_) λj=>?_
        ·have:J0 x1.2.2.2.2<=S:=h.2.z.2.2.2;exact .some ⟨(fkn 1),om⟩
        ·have a7:=J1I.1 j;have:=J4 (l:=x1.2.2.2.2);refine .gt (λJ=>?_) λJ=>?_
         ·have:=J3.1 h.2.z.2.1;exact .some ⟨(fkn 22),om⟩
         ·have:=J3.1 h.2.z.2.1;exact .some ⟨fk0,om⟩
       ·have:J0 x1.2.2.2.2<=S:=h.2.z.2.2.2;exact .some ⟨(fkn 1),om⟩
theorem JlK{B S:Int}{x1:Jd0}(h:zFt B S JnK x1)(I:BG B S:=by omega):Tot (J2R x1) λy=>zFt 0 0 zI y:=by
 unfold J2R;refine .bind ((J1o h.1).eqn) λN h1=>.not (λv=>?_) λv=>?_
 ·exact .some (fkn 15)
 ·have v3:=J1y h.1 h1.2 v;have j:zFt 4096 8192 J9 x1.1:=v3.2;refine .bind ((J3h (B:=4096) (S:=8192) (x1:=(x1.1.2.2.2.2.2.1,x1.2.1)) (⟨j.g.1,h.2.z.1⟩)).eqn) λq k=>?_;have:=J3.1 k.1.1;have:J0 x1.1.2.2.2.2.2.1=_:=Jk j.g.1;have: -1<=q/\q<J0 x1.1.2.2.2.2.2.1:=k.1.2;refine .lt (λw=>?_) λw=>?_
  ·exact .some (fkn 16)
  ·refine .bind (Jh j.g.1) λM F=>.ne (λo=>?_) λo=>?_
   ·exact .some (fkn 15)
   ·refine .bind (Jg1 (B:=4096) (S:=S) (⟨j.u,h.2.z.2.u⟩)) λK x=>.ne (λC=>?_) λC=>?_
    ·exact .some x.1
    ·refine .bind (J7R (B:=4096) (S:=8192) (⟨j.e.1,h.2.z.1⟩)) λL E=>.bind (JhK (B:=0) (S:=S) (⟨h.2.z.1,h.2.z.2⟩)) λJ H=>.ite (λD=>?_) λD=>?_
     ·refine .ne (λA=>?_) λA=>?_
      ·refine .nof (λr=>?_) λr=>?_
       ·refine .not (λn=>?_) λn=>?_
        ·exact .some (fkn 15)
        ·have G:=J1I.1 n;exact .some fk0
       ·exact .some (fkn 15)
      ·exact .some fk0
     ·exact .some fk0
section
variable {B S:Int}
theorem Jad{x:Jd0}(e:J2R x=some 0):Jq x.1=some true/\Has x.1.2.2.2.2.2.1 x.2.1/\J5j (x.1,x.2.2)=some 0:=by
 have h:Par (J2R x) λy=>y=0->Jq x.1=some true/\Has x.1.2.2.2.2.2.1 x.2.1/\J5j (x.1,x.2.2)=some 0:=by unfold J2R;refine .bind λa ha=>.not (λ_=>.some nofun) λn=>.bind λj hj=>.lt (λ_=>.some nofun) λo=>.bind λt q=>.ne (λ_=>.some nofun) λc3=>.bind λb hb=>.ne (λg=>.some λk=>absurd k g) λg=>?_;subst n;subst g;exact λ_ _ _=>⟨ha,⟨j,hj,oo⟩,hb⟩
 exact h _ e rfl
theorem JmN{x:Jd0}{y:Int}(h:zFt B S JnK x)(e:J2R x=some y)(c:y=0)(g:BC B S 0 0:=by omega):(1<=x.1.1/\x.1.1<=64/\J0 x.1.2.2.2.2.2.2.1=x.1.1/\1<=x.1.2.1/\x.1.2.1<=1073741825/\1<=x.1.2.2.1.1/\x.1.2.2.1.1<=1099511627776/\J0 x.1.2.2.1.2.1<=4096/\x.1.2.2.1.1-1<=x.1.2.2.1.2.2/\x.1.2.2.1.2.2<=x.1.2.2.1.1+J0 x.1.2.2.1.2.1-1/\1<=x.1.2.2.2.1.1/\x.1.2.2.2.1.1<=64/\J0 x.1.2.2.2.1.2.1<=x.1.2.2.2.1.1/\0<=x.1.2.2.2.1.2.2/\(x.1.2.2.2.1.2.2<J0 x.1.2.2.2.1.2.1\/x.1.2.2.2.1.2.2=0)/\1<=x.2.2.1/\x.2.2.1<=7/\J0 x.2.2.2.2.2<=12/\(x.2.2.1<=3->0<=x.2.2.2.1/\x.2.2.2.1<x.1.1/\0<=x.2.2.2.2.1/\x.2.2.2.2.1<16))/\zFt 4096 8192 J9 x.1:=by subst c;obtain⟨h1,h2,h3⟩:=Jad e;obtain⟨q1,q2⟩:=J1y h.1 h1 rfl;have q3:=((Jg1 (x1:=(x.1,x.2.2)) ⟨h.1,h.c⟩).get h3).2 rfl;exact⟨⟨q1.1,q1.2.1,q1.2.2.1,q1.2.2.2.1,q1.2.2.2.2.1,q1.2.2.2.2.2.1,q1.2.2.2.2.2.2.1,q1.2.2.2.2.2.2.2.1,q1.2.2.2.2.2.2.2.2.1,q1.2.2.2.2.2.2.2.2.2.1,q1.2.2.2.2.2.2.2.2.2.2.1,q1.2.2.2.2.2.2.2.2.2.2.2.1,q1.2.2.2.2.2.2.2.2.2.2.2.2.1,q1.2.2.2.2.2.2.2.2.2.2.2.2.2.1,q1.2.2.2.2.2.2.2.2.2.2.2.2.2.2,q3⟩,q2⟩
theorem JrI{x:Jd0}{y:Int}(h:zFt B S JnK x)(e:J2R x=some y)(c:y=0):Has x.1.2.2.2.2.2.1 x.2.1:=by subst c;exact(Jad e).2.1
end
end Go.Am
end
section
namespace Go.Am
set_option linter.unusedVariables false
set_option maxRecDepth 20000
set_option maxHeartbeats 4000000
theorem JCl{B S:Int}{x1:Jd0}(h:zFt B S JnK x1)(ay:BG B S:=by omega):Tot (J4o x1) λy=>zFt B S tq4 y/\(J0 x1.1.2.2.1.2.1<=J0 y.1.2.2.1.2.1):=by
 unfold J4o;refine .bind ((JlK (B:=B) (S:=S) (x1:=(x1.1,x1.2.1,x1.2.2)) (⟨h.1,h.2.z.1,h.2.z.2.u⟩)).eqn) λy2 h1=>.ne (λN=>?_) λN=>?_
 ·refine .bind (J0a h1.1) λy3 h4=>.some ⟨(⟨h.1,h4.1.u⟩),om⟩
 ·have q:Has x1.1.2.2.2.2.2.1 x1.2.1:=JrI (⟨h.1,h.2.z.1,h.2.z.2.u⟩) h1.2 N;have L:=JmN (x:=(x1.1,x1.2.1,x1.2.2)) (⟨h.1,h.2.z.1,h.2.z.2.u⟩) h1.2 N;have:=J3.1 h.2.z.2.1;have:=J4 (l:=x1.2.2.2.2.2);have:=J3.1 h.2.z.2.2.2.1;have:1<=x1.1.1/\x1.1.1<=64/\J0 x1.1.2.2.2.2.2.2.1=x1.1.1/\1<=x1.1.2.1/\x1.1.2.1<=1073741825/\1<=x1.1.2.2.1.1/\x1.1.2.2.1.1<=1099511627776/\J0 x1.1.2.2.1.2.1<=4096/\x1.1.2.2.1.1-1<=x1.1.2.2.1.2.2/\x1.1.2.2.1.2.2<=x1.1.2.2.1.1+J0 x1.1.2.2.1.2.1-1/\1<=x1.1.2.2.2.1.1/\x1.1.2.2.2.1.1<=64/\J0 x1.1.2.2.2.1.2.1<=x1.1.2.2.2.1.1/\0<=x1.1.2.2.2.1.2.2/\(x1.1.2.2.2.1.2.2<J0 x1.1.2.2.2.1.2.1\/x1.1.2.2.2.1.2.2=0)/\1<=x1.2.2.1/\x1.2.2.1<=7/\J0 x1.2.2.2.2.2<=12/\(x1.2.2.1<=3->0<=x1.2.2.2.1/\x1.2.2.2.1<x1.1.1/\0<=x1.2.2.2.2.1/\x1.2.2.2.2.1<16):=L.1;have j:zFt 4096 8192 J9 x1.1:=L.2;refine .eq (λY=>?_) λY=>?_
  ·have U:zFt 16384 1073741824 tq1 (x1.1,x1.2.1):=⟨j.u,h.2.z.1⟩;refine .bind (JoS U q) λy4 C=>?_;have J:zFt 16384 1073741824 tq4 y4:=C.1.u;have:J0 x1.1.2.2.1.2.1<=J0 y4.1.2.2.1.2.1:=C.2;exact .some ⟨(⟨J.1.u,J.2.z.u⟩),om⟩
  ·refine .eq (λal=>?_) λal=>?_
   ·have ai:zFt 16384 1073741824 JkY (x1.1,x1.2.1,1):=⟨j.u,h.2.z.1,fkn 1⟩;refine .bind (Jhf ai q) λy5 I=>?_;have D:zFt 16384 1073741824 tq4 y5:=I.1.u;have:J0 x1.1.2.2.1.2.1<=J0 y5.1.2.2.1.2.1:=I.2;exact .some ⟨(⟨D.1.u,D.2.z.u⟩),om⟩
   ·refine .eq (λa7=>?_) λa7=>?_
    ·have am:zFt 16384 1073741824 tq2 (x1.1.2.2.2.2.2.1,x1.2.1):=⟨j.g.1.u,h.2.z.1⟩;refine .bind (Jhw am) λy6 v=>.eq (λa9=>?_) λa9=>?_
     ·have a6:zFt 16384 1073741824 JEm (x1.1.2.2.2.2.2.1,x1.2.1,x1.2.2.2.2.1):=⟨j.g.1.u,h.2.z.1,h.2.z.2.2.2.1⟩;refine .bind (JhJ a6) λy7 K=>.ne (λae=>?_) λae=>?_
      ·refine .bind (J0a K.2) λy8 ag=>.some ⟨(⟨j.u,ag.1.u⟩),om⟩
      ·exact .some ⟨(⟨⟨j.1,j.2.1,j.c.1.u,j.d.1.u,j.e.1.u,K.1.u,j.h.u⟩,fkn 1,fk0,fk0,⟨trivial,Je⟩,fk0⟩),om⟩
     ·have:=J3.1 v.2;refine .ne (λa3=>?_) λa3=>?_
      ·refine .bind (J0a v.2) λy9 a4=>.some ⟨(⟨j.u,a4.1.u⟩),om⟩
      ·exact .some ⟨(⟨⟨j.1,j.2.1,j.c.1.u,j.d.1.u,j.e.1.u,v.1.u,j.h.u⟩,fkn 1,fk0,fk0,⟨trivial,Je⟩,fk0⟩),om⟩
    ·refine .eq (λaf=>?_) λaf=>?_
     ·have aa:zFt 16384 1073741824 tq2 (x1.1.2.2.2.2.2.1,x1.2.1):=⟨j.g.1.u,h.2.z.1⟩;refine .bind (Jhw aa) λao r=>.eq (λak=>?_) λak=>?_
      ·have ah:zFt 16384 1073741824 JEm (x1.1.2.2.2.2.2.1,x1.2.1,x1.2.2.2.2.1):=⟨j.g.1.u,h.2.z.1,h.2.z.2.2.2.1⟩;refine .bind (JhJ ah) λax A=>.ne (λZ=>?_) λZ=>?_
       ·refine .bind (J0a A.2) λaw T=>.some ⟨(⟨j.u,T.1.u⟩),om⟩
       ·exact .some ⟨(⟨⟨j.1,j.2.1,j.c.1.u,j.d.1.u,j.e.1.u,A.1.u,j.h.u⟩,fkn 1,fk0,fk0,⟨trivial,Je⟩,fk0⟩),om⟩
      ·have:=J3.1 r.2;refine .ne (λW=>?_) λW=>?_
       ·refine .bind (J0a r.2) λap a8=>.some ⟨(⟨j.u,a8.1.u⟩),om⟩
       ·exact .some ⟨(⟨⟨j.1,j.2.1,j.c.1.u,j.d.1.u,j.e.1.u,r.1.u,j.h.u⟩,fkn 1,fk0,fk0,⟨trivial,Je⟩,fk0⟩),om⟩
     ·refine .bind (JhK (B:=0) (S:=S) (⟨h.2.z.1,h.2.z.2⟩)) λab aj=>?_;have a1:zFt 16384 1073741824 JFR (x1.1.2.2.2.2.1,ab.1):=⟨j.e.1.u,aj.1⟩;refine .bind (Jn3 a1) λF k=>.ne (λa0=>?_) λa0=>?_
      ·refine .bind (J0a k.c) λav ac=>.some ⟨(⟨j.u,ac.1.u⟩),om⟩
      ·refine .ite (λa2=>?_) λa2=>?_
       ·have V:zFt 16384 S JnK ((x1.1.1,x1.1.2.1,x1.1.2.2.1,x1.1.2.2.2.1,F.1,x1.1.2.2.2.2.2),x1.2.1,x1.2.2):=⟨⟨j.1,j.2.1,j.c.1.u,j.d.1.u,k.1.u,j.g.u⟩,h.2.z.1,h.2.z.2.u⟩;refine .bind (Joq V om om om) λG E=>?_;have o:zFt 16384 S tq4 G:=E.1.u;have:J0 x1.1.2.2.1.2.1<=J0 G.1.2.2.1.2.1:=E.2;refine .eq (λR=>?_) λR=>?_
        ·exact .some ⟨(⟨j.u,o.2.z.u⟩),om⟩
        ·exact .some ⟨(⟨o.1.u,o.2.z.u⟩),om⟩
       ·refine .bind (Jsd (B:=4098) (S:=0) (⟨k.1,h.2.z.1⟩)) λaq an=>.gt (λM=>?_) λM=>?_
        ·have P:zFt 16384 1073741824 JkY ((x1.1.1,x1.1.2.1,x1.1.2.2.1,x1.1.2.2.2.1,F.1,x1.1.2.2.2.2.2),x1.2.1,4):=⟨⟨j.1,j.2.1,j.c.1.u,j.d.1.u,k.1.u,j.g.u⟩,h.2.z.1,fkn 4⟩;refine .bind (Jhf P q) λH w=>?_;have n:zFt 16384 1073741824 tq4 H:=w.1.u;have:J0 x1.1.2.2.1.2.1<=J0 H.1.2.2.1.2.1:=w.2;refine .eq (λQ=>?_) λQ=>?_
         ·exact .some ⟨(⟨j.u,n.2.z.u⟩),om⟩
         ·exact .some ⟨(⟨n.1.u,n.2.z.u⟩),om⟩
        ·refine .bind (JyM (B:=4098) (S:=8192) (⟨⟨j.1,j.2.1,j.c.1.u,j.d.1.u,k.1.u,j.g.u⟩,h.2.z.1⟩)) λau O=>.some ⟨(⟨⟨j.1,j.2.1,j.c.1.u,j.d.1.u,k.1.u,j.g.u⟩,fkn 2,O,fk0,⟨trivial,Je⟩,fk0⟩),om⟩
theorem Jea{B S:Int}{x1:J2O}(h:zFt B S tq3 x1)(k:BC B S 0 0:=by omega):Tot (J2Q x1) λy=>zFt 0 0 .b y:=by
 unfold J2Q;refine .bind ((J3h (B:=B) (S:=S) (x1:=(x1.1.1.2.2.2.2.2.1,x1.2)) (⟨h.1.1.g.1,h.2⟩)).eqn) λe h1=>?_;have:J0 x1.1.1.2.2.2.2.2.1=_:=Jk h.1.1.g.1;have: -1<=e/\e<J0 x1.1.1.2.2.2.2.2.1:=h1.1.2;refine .ge (λj=>?_) λj=>?_
 ·refine .bind (Jh h.1.1.g.1) λn o=>.some trivial
 ·exact .some trivial
section
variable {B S:Int}
theorem J7f{e:Int}{y:J0f}(h:Js e=some y):y.1=5:=by unfold Js at h;injection h with h;subst h;rfl
theorem Jpr{x:Jd0}{y:J41}(e:J2E x=some y)(c:y.2.1=3): ¬InP x.1.2.2.2.1 x.2.2.2.1/\y.1=x.1/\y.2.2.2.1=x.2.2.2.1:=by
 have g:Par (J2E x) λy=>y.2.1=3-> ¬InP x.1.2.2.2.1 x.2.2.2.1/\y.1=x.1/\y.2.2.2.1=x.2.2.2.1:=by
  unfold J2E;refine .bind λn h2=>.not (λc=>.some λ_=>⟨λh=>(by rw[(JeG h2).2 h]at c;cases c),rfl,rfl⟩) λ_=>.eq (λ_=>.bind λ_ _=>.bind λ_ _=>.bind λ_ _=>.some nofun) λ_=>.bind λ_ _=>.bind λ_ _=>.eq (λ_=>?_) λ_=>?_
  all_goals
   refine .bind λo _=>.ne (λ_=>.bind λk j=>.some λc=>?_) λ_=>.some nofun;have:=J7f j;dsimp only at c;omega
 exact g _ e c
theorem JoX{x:J1G}{y:J41}(e:J2I x=some y): ¬y.2.1=3:=by
 have g:Par (J2I x) λy=> ¬y.2.1=3:=by unfold J2I;refine .bind λ_ _=>.bind λ_ _=>.eq (λ_=>.bind λ_ _=>.bind λ_ _=>.some nofun) λ_=>.bind λ_ _=>.ne (λ_=>.bind λj h=>.some λc=>?_) λ_=>.bind λ_ _=>.bind λ_ _=>.some nofun;have:=J7f h;dsimp only at c;omega
 exact g _ e
theorem JgT{x:J7b}{y:J41}(e:J2z x=some y):y.2.1=x.2.2\/y.2.1=5:=by
 have g:Par (J2z x) λy=>y.2.1=x.2.2\/y.2.1=5:=by unfold J2z;refine .bind λ_ _=>.bind λ_ _=>.bind λ_ _=>.eq (λ_=>.bind λ_ _=>.bind λ_ _=>.some (.inl rfl)) λ_=>.bind λj _=>.ne (λ_=>.bind λq h=>.some (.inr (J7f h))) λ_=>.while (λz=>z.2.1=x.2.2) rfl ?_;rintro⟨a,st,hl,i,k,n,o,out⟩ hz;dsimp only at hz;unfold J7Y;dsimp only;exact .lt (λ_=>.bind λ_ _=>.eq (λ_=>.bind λ_ _=>.bind λ_ _=>.not (λ_=>.bind λ_ _=>.bind λ_ _=>.some hz) λ_=>.some hz) λ_=>.some hz) λ_=>.some (.inl hz)
 exact g _ e
theorem JBY{x:Jd0}{y:J41}(e:J4o x=some y)(c:y.2.1=3):Jq x.1=some true/\ ¬InP x.1.2.2.2.1 x.2.2.2.1/\y.1.2.2.2.1=x.1.2.2.2.1/\y.2.2.2.1=x.2.2.2.1:=by
 have o:Par (J4o x) λy=>y.2.1=3->Jq x.1=some true/\ ¬InP x.1.2.2.2.1 x.2.2.2.1/\y.1.2.2.2.1=x.1.2.2.2.1/\y.2.2.2.1=x.2.2.2.1:=by
  unfold J4o;have g: ∀{e:Int} {k:J6} {r:J0f} {Q:Prop},Js e=some r->(k,r).2.1=3->Q:=fun{e k r Q} h c=>by have:=J7f h;dsimp only at c;omega
  refine .bind λE h2=>.ne (λ_=>.bind λ_ h3=>.some (g h3)) λq=>.eq (λ_=>.bind λD h4=>.some λc=>absurd c (JoX h4)) λ_=>.eq (λ_=>.bind λC h5=>.some λc=>?_) λ_=>.eq (λ_=>?_) λ_=>.eq (λ_=>?_) λ_=>.bind λB _=>.bind λv _=>.ne (λ_=>.bind λ_ h=>.some (g h)) λ_=>.ite (λ_=>.bind λw n=>.eq (λd=>.some λc=>?_) λ_=>.some λc=>?_) λ_=>.bind λz _=>.gt (λ_=>.bind λA j=>.eq (λd=>.some λc=>?_) λ_=>.some λc=>?_) λ_=>.bind λ_ _=>.some nofun
  ·have:=JgT h5;dsimp only at c this;omega
  ·exact .bind λ_ _=>.eq (λ_=>.bind λ_ _=>.ne (λ_=>.bind λ_ h=>.some (g h)) λ_=>.some nofun) λ_=>.ne (λ_=>.bind λ_ h=>.some (g h)) λ_=>.some nofun
  ·exact .bind λ_ _=>.eq (λ_=>.bind λ_ _=>.ne (λ_=>.bind λ_ h=>.some (g h)) λ_=>.some nofun) λ_=>.ne (λ_=>.bind λ_ h=>.some (g h)) λ_=>.some nofun
  ·dsimp only at c;omega
  ·subst q;obtain⟨a1,a2,a3⟩:=Jpr n c;exact⟨(Jad h2).1,a1,by rw[a2],a3⟩
  ·dsimp only at c;omega
  ·have:=JgT j;dsimp only at c this;omega
 exact o _ e c
end
section
variable {B S:Int}
def Jcc(k y:J6):Prop:=Jq k=some true/\Jq y=some true/\y.2.2.2.2.2.1=k.2.2.2.2.2.1/\y.2.2.1.1=k.2.2.1.1/\y.2.2.1.2.1=k.2.2.1.2.1
theorem Jxe{k y:J6}(h:Jcc k y)(n:Int):J0A (y.2.2.1,n)=J0A (k.2.2.1,n):=by obtain⟨h1,h2,h3,h4,h5⟩:=h;have v1:=(J4P h1).1;have v2:=(J4P h2).1;unfold J0A J1Y;dsimp only;rw[v1,v2,h4,h5]
theorem JiM{k y:J6}(h:Jcc k y)(e:Int):J1k (y,e)=J1k (k,e):=by obtain⟨h1,h2,h3,h4,h5⟩:=h;unfold J1k;dsimp only;rw[h1,h2,h3]
theorem JCE{k y:J6}(h:Jcc k y)(e:Int):J2V (y,e)=J2V (k,e):=by unfold J2V;dsimp only;rw[JiM h e];simp only[Jxe h]
theorem JHl{k y:J6}(h:Jcc k y)(x:Jo)(c:JI)(n:Int):J74 (y,x,c,n)=J74 (k,x,c,n):=by
 unfold J74;dsimp only;refine JpO (R:=λz g=>z.1=g.1/\z.2.1=y/\g.2.1=k/\z.2.2=g.2.2) ?_ ⟨rfl,rfl,rfl,rfl⟩;rintro⟨i,a,r⟩ ⟨C,v,r'⟩ ⟨e1,e2,A,B⟩;dsimp only at e1 e2 A B;subst e1;subst e2;subst A;subst B;unfold JcG;dsimp only;by_cases hi:geI i 0=true
 ·rw[if_pos hi,if_pos hi];cases idx r.1.2.2.2.2.1 i with
  |none=>exact .inl ⟨rfl,rfl⟩
  |some j=>
   rw[J07,J07,Jxe h];cases J0A (v.2.2.1,j)with
   |none=>exact .inl ⟨rfl,rfl⟩
   |some e=>
    rw[J07,J07];have w:JBZ (fun(z g:TQ34)=>z.1=g.1/\z.2.1=a/\g.2.1=v/\z.2.2=g.2.2) (some (.inl (JH .i64 i 1,a,r.1,r.2.1,r.2.2):(TQ34)⊕(JiW))) (some (.inl (JH .i64 i 1,v,r.1,r.2.1,r.2.2))):=.inr (.inr ⟨_,_,rfl,rfl,rfl,rfl,rfl,rfl⟩);by_cases o:eqI e.2 0=true
    ·rw[if_pos o,if_pos o];by_cases q:eqI e.1.2.2.2.2.2.2.1.1 r.2.1.1=true
     ·rw[if_pos q,if_pos q];by_cases c3:eqI e.1.2.2.2.2.2.2.1.2.1 r.2.1.2=true
      ·rw[if_pos c3,if_pos c3];exact .inr (.inl ⟨_,rfl,rfl⟩)
      ·rw[if_neg c3,if_neg c3];exact w
     ·rw[if_neg q,if_neg q];exact w
    ·rw[if_neg o,if_neg o];exact w
 ·rw[if_neg hi,if_neg hi];exact .inr (.inl ⟨_,rfl,rfl⟩)
theorem Jy5{k y:J6}(h:Jcc k y)(e:Int)(c:JI):J3b (y,e,c)=J3b (k,e,c):=by unfold J3b;dsimp only;rw[JiM h e];simp only[JHl h]
theorem J7V{k:J6}{h:Int}{y:Jo×Int}(e:J1k (k,h)=some y)(c:y.2=0):Jq k=some true:=by
 have g:Par (J1k (k,h)) λy=>y.2=0->Jq k=some true:=by unfold J1k;refine .bind λa ha=>.not (λ_=>.some nofun) λc=>?_;subst c;exact λ_ _ _=>ha
 exact g _ e c
theorem JiQ{x:JAj}{y:J41}(e:J0W x=some y)(c:y.2.1=3): ¬InP x.1.2.2.2.1 x.2.2.2.2.2.2.2.2.1.1/\y.2.2.2.1=x.2.2.2.2.2.2.2.2.1.1:=by
 have j: ∀{e:Int} {k:J6} {r:J0f} {Q:Prop},Js e=some r->(k,r).2.1=3->Q:=fun{e k r Q} h c=>by have:=J7f h;dsimp only at c;omega
 have g:Par (J0W x) λy=>y.2.1=3-> ¬InP x.1.2.2.2.1 x.2.2.2.2.2.2.2.2.1.1/\y.2.2.2.1=x.2.2.2.2.2.2.2.2.1.1:=by unfold J0W;exact .bind λn h2=>.not (λc=>.some λ_=>⟨λh=>(by rw[(JeG h2).2 h]at c;cases c),rfl⟩) λ_=>.bind λ_ _=>.bind λ_ _=>.ne (λ_=>.bind λ_ h=>.some (j h)) λ_=>.bind λ_ _=>.ne (λ_=>.bind λ_ h=>.some (j h)) λ_=>.eq (λ_=>.bind λ_ _=>.not (λ_=>.bind λ_ _=>.some nofun) λ_=>.some nofun) λ_=>.some nofun
 exact g _ e c
def Jmb(k:J6)(e p:Int):Prop:=Jq k=some true/\ ¬InP k.2.2.2.1 p/\ ∃y,J2V (k,e)=some y/\p=y.1.2.2.2.2.2.2.1.1
theorem JuU{k:J6}{g:Int}{y:J41}(e:J0M (k,g)=some y)(c:y.2.1=3):Jmb k g y.2.2.2.1:=by
 have j: ∀{e:Int} {k:J6} {r:J0f} {Q:Prop},Js e=some r->(k,r).2.1=3->Q:=fun{e k r Q} h c=>by have:=J7f h;dsimp only at c;omega
 have n:Par (J0M (k,g)) λy=>y.2.1=3->Jmb k g y.2.2.2.1:=by
  unfold J0M;refine .bind λz h2=>.ne (λ_=>.bind λ_ h=>.some (j h)) λv=>.eq (λ_=>.eq (λ_=>.bind λ_ _=>.ne (λ_=>.bind λ_ h=>.some (j h)) λ_=>.bind λ_ _=>.some nofun) λ_=>?_) λ_=>?_
  all_goals
   refine .bind λo q=>.not (λ_=>.bind λ_ h=>.some (j h)) λ_=>.bind λx w=>.some λc=>?_;obtain⟨a1,a2⟩:=JiQ w c;exact⟨J7V h2 v,a2▸a1,o,q,a2⟩
 exact n _ e c
def Jlz(k:J6)(e:Int)(c:JI)(p:Int):Prop:=Jq k=some true/\ ¬InP k.2.2.2.1 p/\ ∃y,J3b (k,e,c)=some y/\p=y.1.2.2.2.2.2.2.1.1
theorem JwJ{k:J6}{g:Int}{l:JI}{y:J41}(e:J1X (k,g,l)=some y)(c:y.2.1=3):Jlz k g l y.2.2.2.1:=by
 have n: ∀{e:Int} {k:J6} {r:J0f} {Q:Prop},Js e=some r->(k,r).2.1=3->Q:=fun{e k r Q} h c=>by have:=J7f h;dsimp only at c;omega
 have j:Par (J1X (k,g,l)) λy=>y.2.1=3->Jlz k g l y.2.2.2.1:=by unfold J1X;refine .bind λx h2=>.ne (λ_=>.bind λ_ h=>.some (n h)) λq=>.ne (λ_=>.bind λ_ h=>.some (n h)) λ_=>.bind λo h5=>.not (λ_=>.some nofun) λ_=>.bind λw v=>.some λc=>?_;obtain⟨a1,a2⟩:=JiQ v c;exact⟨J7V h2 q,a2▸a1,o,h5,a2⟩
 exact j _ e c
theorem JpR{e:Int}{y:J0f}(h:Js e=some y):y.2.2.2.2=e:=by unfold Js at h;injection h with h;subst h;rfl
theorem JAC{x:JAj}{y:J41}(e:J0W x=some y)(c:y.2.1=5): ¬y.2.2.2.2.2=0:=by
 have j: ∀{e:Int} {k:J6} {r:J0f},¬e=0->Js e=some r->(k,r).2.1=5-> ¬(k,r).2.2.2.2.2=0:=fun{e k r} n h _=>by have:=JpR h;dsimp only;omega
 have g:Par (J0W x) λy=>y.2.1=5-> ¬y.2.2.2.2.2=0:=by unfold J0W;exact .bind λo h2=>.not (λc=>.some nofun) λ_=>.bind λ_ _=>.bind λ_ _=>.ne (λc=>.bind λ_ h=>.some (j c h)) λ_=>.bind λ_ _=>.ne (λc=>.bind λ_ h=>.some (j c h)) λ_=>.eq (λ_=>.bind λ_ _=>.not (λ_=>.bind λ_ _=>.some nofun) λ_=>.some nofun) λ_=>.some nofun
 exact g _ e c
theorem JCp{k:J6}{n:Int}{y:J41}(e:J0M (k,n)=some y)(c:y.2.1=5): ¬y.2.2.2.2.2=0:=by
 have g: ∀{e:Int} {k:J6} {r:J0f},¬e=0->Js e=some r->(k,r).2.1=5-> ¬(k,r).2.2.2.2.2=0:=fun{e k r} z h _=>by have:=JpR h;dsimp only;omega
 have j:Par (J0M (k,n)) λy=>y.2.1=5-> ¬y.2.2.2.2.2=0:=by
  unfold J0M;refine .bind λA h2=>.ne (λc=>.bind λ_ h=>.some (g c h)) λq=>.eq (λ_=>.eq (λ_=>.bind λ_ _=>.ne (λc=>.bind λ_ h=>.some (g c h)) λ_=>.bind λ_ _=>.some nofun) λ_=>?_) λ_=>?_
  all_goals
   exact .bind λv x=>.not (λ_=>.bind λ_ h=>.some (g (by decide) h)) λ_=>.bind λw o=>.some λc=>JAC o c
 exact j _ e c
theorem Jvo{k:J6}{j:Int}{y:J41}(e:J0M (k,j)=some y)(c: ¬y.2.1=5):Jq k=some true:=by
 have g:Par (J0M (k,j)) λy=> ¬y.2.1=5->Jq k=some true:=by unfold J0M;refine .bind λo h2=>.ne (λ_=>.bind λ_ h=>.some λc=>absurd (J7f h) c) λn=>λ_ _ _=>J7V h2 n
 exact g _ e c
theorem Jvg{k:J6}{j:Int}{l:JI}{y:J41}(e:J1X (k,j,l)=some y)(c: ¬y.2.1=5):Jq k=some true:=by
 have g:Par (J1X (k,j,l)) λy=> ¬y.2.1=5->Jq k=some true:=by unfold J1X;refine .bind λo h2=>.ne (λ_=>.bind λ_ h=>.some λc=>absurd (J7f h) c) λn=>λ_ _ _=>J7V h2 n
 exact g _ e c
def Jci(e:Int)(k:J6)(p:Int):Prop:= ∃y,J0M (k,e)=some y/\y.2.1=3/\y.2.2.2.1=p
def Jjj(e:Int)(l:JI)(k:J6)(p:Int):Prop:= ∃y,J1X (k,e,l)=some y/\y.2.1=3/\y.2.2.2.1=p
theorem Jci.want{g:Int}{k:J6}{p:Int}(h:Jci g k p):Jmb k g p:=by obtain⟨y,e,c,d⟩:=h;exact d▸JuU e c
theorem Jjj.want{g:Int}{l:JI}{k:J6}{p:Int}(h:Jjj g l k p):Jlz k g l p:=by obtain⟨y,e,c,d⟩:=h;exact d▸JwJ e c
theorem JhE{k y:J6}{p:Int}(W:J6->Int->Prop)(g: ∀{k p},W k p->Jq k=some true/\ ¬InP k.2.2.2.1 p)(same: ∀{p q},Jcc k y->W k p->W y q->q=p)(h:W k p)(r:J3H k y)(hp:JbZ y.2.2.2.1 p)(hy:zFt B S JM y.2.2.2.1)(hl:J0 y.2.2.1.2.1=J0 k.2.2.1.2.1)(o:BS B S 0 0:=by omega)(v:B<=9223372036854775807:=by omega): ∀q,¬W y q:=by
 intro q hq;obtain⟨a1,a2⟩:=g hq;obtain⟨j,n,m,e⟩:=r;have hm:m=[]:=by rw[e]at hl;unfold J0 at hl;rw[J57]at hl;exact List.length_eq_zero_iff.1 oo
 subst hm;rw[JbW]at e;have ks:Jcc k y:=⟨(g h).1,a1,j,n,e⟩;rw[same ks h hq]at a2;exact a2 (hp.inP (B:=B) (S:=S) (J4P a1).2.1 hy)
theorem JGL{j:Int}{k y:J6}{p q:Int}(ks:Jcc k y)(h:Jmb k j p)(g:Jmb y j q):q=p:=by obtain⟨_,_,a,ha,e⟩:=h;obtain⟨_,_,b,hb,f⟩:=g;rw[JCE ks,ha]at hb;injection hb with hb;subst hb;rw[e,f]
theorem JKN{j:Int}{l:JI}{k y:J6}{p q:Int}(ks:Jcc k y)(h:Jlz k j l p)(g:Jlz y j l q):q=p:=by obtain⟨_,_,a,ha,e⟩:=h;obtain⟨_,_,b,hb,f⟩:=g;rw[Jy5 ks,ha]at hb;injection hb with hb;subst hb;rw[e,f]
theorem JbC{k:J6}(h:Jq k=some true):J0 k.2.2.1.2.1<=4096:=(Jf1 (J4P h).1).2.2
open Classical in
noncomputable def left(W:J6->Int->Prop)(k:J6):Int:=2*(4097-J0 k.2.2.1.2.1)+if∃p,W k p then 1 else 0
open Classical in
theorem Jzq{W:J6->Int->Prop}{k y:J6}(h:J0 y.2.2.1.2.1=J0 k.2.2.1.2.1+1)(hk: ¬∃p,W k p):left W y<left W k:=by have e1:(if∃p,W k p then(1:Int)else 0)=0:=if_neg hk;unfold left;rw[e1];split<;>omega
open Classical in
theorem Jil{W:J6->Int->Prop}{k y:J6}{p:Int}(hk:W k p)(h:J0 k.2.2.1.2.1<=J0 y.2.2.1.2.1)(hy:J0 y.2.2.1.2.1=J0 k.2.2.1.2.1-> ∀q,¬W y q):left W y<left W k:=by
 have e1:(if∃p,W k p then(1:Int)else 0)=1:=if_pos ⟨p,hk⟩;unfold left;rw[e1];by_cases e:J0 y.2.2.1.2.1=J0 k.2.2.1.2.1
 ·have e2:(if∃p,W y p then(1:Int)else 0)=0:=if_neg fun⟨q,hq⟩=>hy e q hq;rw[e2];omega
 ·split<;>omega
open Classical in
theorem Jfj{W:J6->Int->Prop}{k:J6}(h:J0 k.2.2.1.2.1<=4097):0<=left W k:=by unfold left;split<;>omega
theorem JLj{y:J0f}(g:0<=B)(e:0<=S)(h:zFt 0 0 J00 y):zFt B S J00 y:=h.u
abbrev sZ:Jt:=((0,0,(0,[],0),(0,[],0),([],[]),[],[],[]),[],0,[],false,[])
theorem JkK{x1:J2O}(h:zFt B S tq3 x1)(A:0<=B:=by omega)(x:0<=S:=by omega)(J:16384<=B:=by omega)(I:1073741824<=S:=by omega)(O:B<=1000000:=by omega)(N:S<=1000000000000:=by omega):Tot (J1E x1) λy=>zFt B S tq3 y/\(y.2=0->J0 x1.1.1.2.2.1.2.1<=J0 y.1.1.2.2.1.2.1):=by
 obtain⟨s,k⟩:=x1;obtain⟨hs,o⟩:=h;dsimp only at hs o⊢;have z0:zFt B S Jl sZ:=J0i A x Jl;unfold J1E;dsimp only;refine .bind (J1o hs.1) λM h2=>.not (λ_=>.some ⟨⟨z0,fkn 15⟩,nofun⟩) λ_=>.bind (J3h (x1:=(s.1.2.2.2.2.2.1,k)) ⟨hs.1.2.2.2.2.2.1,o⟩) λK _=>.lt (λ_=>.some ⟨⟨z0,fkn 16⟩,nofun⟩) λ_=>Jf (τ:=Jt) (λq=>(k,q,sZ)) (λq=>zFt B S Jl q/\J0 s.1.2.2.1.2.1<=J0 q.1.2.2.1.2.1) (λq=>left (Jci k) q.1) ?_ s rfl ⟨hs,J0F _⟩;rintro q ⟨g1,g2⟩;unfold J8r;dsimp only;refine .bind (Jea (x1:=(q,k)) ⟨g1,o⟩) λL _=>.ite (λ_=>?_) λ_=>.some ⟨⟨g1,fk0⟩,λ_=>g2⟩;refine .bind ((JhI (x1:=(q.1,k)) ⟨g1.1,o⟩).eqn) λn j=>.eq (λH=>.some ⟨⟨z0,j.1.1.g⟩,λc=>absurd c (JCp j.2 H)⟩) λz=>.eq (λc=>?_) λc3=>?_
 ·have w:Jci k q.1 n.2.2.2.1:=⟨n,j.2,c,rfl⟩;refine .bind ((J7q (x1:=(q,n.2.2.2.1)) ⟨g1,j.1.1.d.1⟩).eqn) λC r=>.ne (λE=>.some ⟨⟨z0,r.1.1.2⟩,λc=>absurd c E⟩) λv=>?_;obtain⟨D,G⟩:=J9v (B:=B) (S:=S) g1.1.2.2.2.1 r.2 v;have hl:=r.1.2 v;refine .some ⟨C.1,rfl,⟨r.1.1.1,Jd3 g2 hl⟩,Jil w hl λe=>JhE (B:=B) (S:=S) (Jci k) (λh=>⟨h.want.1,h.want.2.1⟩) (λks h g=>JGL ks h.want g.want) w D G r.1.1.1.1.d.1 e,Jfj ?_⟩;have:=JbC w.want.1;omega
 ·have h1:n.2.1=1/\J0 n.1.2.2.1.2.1=J0 q.1.2.2.1.2.1+1:=by
   rcases j.1.2 with h|h|h
   ·exact h
   ·exact absurd h c3
   ·exact absurd h z
  have F: ¬∃p,Jci k q.1 p:=fun⟨p,y,e,c,_⟩=>by rw[j.2]at e;injection e with e;subst e;exact c3 c
  refine .some ⟨(n.1,q.2),rfl,⟨⟨j.1.1.1,g1.2⟩,?_⟩,Jzq h1.2 F,Jfj ?_⟩
  ·show J0 s.1.2.2.1.2.1<=J0 n.1.2.2.1.2.1;omega
  ·have:=JbC (Jvo j.2 z);omega
end
section
variable {B S:Int}
open Classical in
theorem JBQ{x1:JAH}(h:zFt B S (.pr Jl tq6) x1)(G:BH B S:=by omega)(K:B<=1000000:=by omega)(J:S<=1000000000000:=by omega):Tot (J6X x1) λy=>zFt B S JAX y/\J0 x1.1.1.2.2.1.2.1<=J0 y.1.1.2.2.1.2.1:=by
 obtain⟨s,n,a⟩:=x1;obtain⟨hs,k,ha⟩:=h;unfold J6X;dsimp only at hs k ha⊢;refine Jf (τ:=Jt) (λq=>(n,q,a,((0,0,(0,[],0),(0,[],0),([],[]),[],[],[]),[],0,[],false,[]),0,0,0,(false,[]),0)) (λq=>zFt B S Jl q/\J0 s.1.2.2.1.2.1<=J0 q.1.2.2.1.2.1) (λq=>if JbZ q.1.2.2.2.1 a.2.1 then 0 else 1) ?_ s rfl ⟨hs,J0F _⟩;rintro q ⟨g1,g2⟩;unfold JcJ;dsimp only;refine .bind ((JCl (x1:=(q.1,n,a)) ⟨g1.1,k,ha⟩).eqn) λg h3=>?_;have hy:zFt B S Jl (g.1,q.2):=⟨h3.1.1.1,g1.2⟩;have hl:J0 s.1.2.2.1.2.1<=J0 g.1.2.2.1.2.1:=Jd3 g2 h3.1.2;have fin: ∀{y:J0f},zFt B S J00 y->zFt B S JAX ((g.1,q.2),y)/\J0 s.1.2.2.1.2.1<=J0 ((g.1,q.2),y).1.1.2.2.1.2.1:=λhr=>⟨⟨hy,hr⟩,hl⟩;refine .eq (λc=>?_) λ_=>?_
 ·obtain⟨w1,w2,w3,F⟩:=JBY h3.2 c;refine .bind ((J7q (x1:=((g.1,q.2),g.2.2.2.1)) ⟨hy,h3.1.1.d.1⟩).eqn) λE h4=>.ne (λ_=>.bind (J0a (B:=B) (S:=S) h4.1.1.2) λI h5=>.some (fin h5.1.u)) λA=>?_;obtain⟨H,v⟩:=J9v (B:=B) (S:=S) hy.1.2.2.2.1 h4.2 A;rw[F]at v;have v:JbZ E.1.1.2.2.2.1 a.2.1:=v;have C: ¬JbZ q.1.2.2.2.1 a.2.1:=λhp=>w2 (hp.inP (B:=B) (S:=S) (J4P w1).2.1 g1.1.2.2.2.1);refine .some ⟨E.1,rfl,⟨h4.1.1.1,Jd3 hl (h4.1.2 A)⟩,?_,?_⟩
  ·rw[if_pos v,if_neg C];decide
  ·rw[if_neg C];decide
 ·have rb:Tot ((J2Q ((g.1,q.2),n)).bind λx=>if x=true then(J1E ((g.1,q.2),n)).bind λj=>if neI j.2 0=true then(Js j.2).bind λw=>some (Sum.inr ((g.1,q.2),w))else some (Sum.inr (j.1,g.2))else some (Sum.inr ((g.1,q.2),g.2))) fun(r:(TQ25)⊕(TQ79))=> ∃y,r=.inr y/\zFt B S JAX y/\J0 s.1.2.2.1.2.1<=J0 y.1.1.2.2.1.2.1:=by
   refine .bind (Jea (x1:=((g.1,q.2),n)) ⟨hy,k⟩) λx _=>.ite (λ_=>.bind (JkK (x1:=((g.1,q.2),n)) ⟨hy,k⟩) λj o=>.ne (λ_=>.bind (J0a (B:=B) (S:=S) o.1.2) λw z=>.some ⟨_,rfl,fin z.1.u⟩) λD=>.some ⟨_,rfl,⟨o.1.1,h3.1.1.2⟩,Jd3 hl (o.2 D)⟩) λ_=>.some ⟨_,rfl,fin h3.1.1.2⟩
  refine .eqf (λ_=>.eq (λ_=>.eqf (λ_=>.eq (λ_=>?_) λ_=>.some (fin h3.1.1.2)) λ_=>?_) λ_=>.some (fin h3.1.1.2)) λ_=>?_
  all_goals
   exact rb.mono λr ⟨y,e,h⟩=>by subst e;exact h
end
theorem Jwb{B S:Int}{x1:Jnz}(h:zFt B S JGm x1)(r:BG B S:=by omega):Tot (J1X x1) λy=>zFt B S tq4 y/\((y.2.1=1/\(J0 y.1.2.2.1.2.1=J0 x1.1.2.2.1.2.1+1\/y.2.2.1=0))\/y.2.1=3\/y.2.1=5):=by
 unfold J1X;refine .bind (J7P (B:=B) (S:=S) (⟨h.1,h.2.1⟩)) λA h1=>.ne (λq=>?_) λq=>?_
 ·refine .bind (J0a h1.2) λv h4=>.some ⟨(⟨h.1,h4.1.u⟩),om⟩
 ·have:=J3.1 h1.1.2.1;refine .ne (λk=>?_) λk=>?_
  ·refine .bind (J0a (B:=0) (S:=0) (fkn 15)) λx j=>.some ⟨(⟨h.1,j.1.u⟩),om⟩
  ·refine .bind (Jf8 (B:=B) (S:=S) (h)) λw n=>.not (λo=>?_) λo=>?_
   ·have:J0 x1.1.2.2.1.2.1<=B:=h.1.c.1.2.1.1;exact .some ⟨(⟨h.1,fkn 1,fk0,fk0,⟨trivial,Je⟩,fk0⟩),om⟩
   ·refine .bind (JcL (B:=B) (S:=S) (⟨h.1,h1.1.u,n.1.u⟩)) λg e=>?_;have:=J3.1 e.1.2.z.1;have:J0 g.1.2.2.1.2.1=_:=Jk e.1.1.c.1.2.1;have:J0 x1.1.2.2.1.2.1=_:=Jk h.1.c.1.2.1;have:(g.2.1=1/\J0 g.1.2.2.1.2.1=J0 x1.1.2.2.1.2.1+1)\/g.2.1=3\/g.2.1=5:=e.2;exact .some ⟨(⟨e.1.1,e.1.2.z.u⟩),om⟩
section
variable {B S:Int}
theorem Juj{x1:JAc}(h:zFt B S (.pr Jl Jd) x1)(K:BH B S:=by omega)(O:B<=1000000:=by omega)(M:S<=1000000000000:=by omega):Tot (J5M x1) λy=>zFt B S JCb y/\J0 x1.1.1.2.2.1.2.1<=J0 y.1.1.2.2.1.2.1/\(¬y.2.1=0->J0 x1.1.1.2.2.1.2.1+1<=J0 y.1.1.2.2.1.2.1/\J0 x1.1.1.2.2.1.2.1<=4096):=by
 obtain⟨s,o,l⟩:=x1;obtain⟨hs,v,hl⟩:=h;dsimp only at hs v hl⊢;unfold J5M;dsimp only;refine Jf (τ:=Int×Jt) (λq=>(o,q.1,q.2,l,sZ)) (λq=>zFt B S Jl q.2/\0<=q.1/\q.1+J0 s.1.2.2.1.2.1<=J0 q.2.1.2.2.1.2.1/\(¬q.1=0->J0 s.1.2.2.1.2.1<=4096)) (λq=>left (Jjj o l) q.2.1) ?_ (0,s) rfl ⟨hs,J0F _,by dsimp only;omega,λc=>absurd rfl c⟩;rintro⟨n,q⟩ ⟨g1,g2,J,A⟩;dsimp only at g1 g2 J A;unfold Jbe;dsimp only;have:=Jb n 1;have:J0 q.1.2.2.1.2.1<=B:=g1.1.2.2.1.2.1.1;have:=J4 (l:=s.1.2.2.1.2.1);have fn:zFt B S zI n:=J3.2 oo;have fin: ∀{e:Int},zFt B S zI e->zFt B S JCb (q,n,e)/\J0 s.1.2.2.1.2.1<=J0 ((q,n,e):JeS).1.1.2.2.1.2.1/\(¬((q,n,e):JeS).2.1=0->J0 s.1.2.2.1.2.1+1<=J0 ((q,n,e):JeS).1.1.2.2.1.2.1/\J0 s.1.2.2.1.2.1<=4096):=fun{e} he=>⟨⟨g1,fn,he⟩,by dsimp only;omega,λc=>by dsimp only at c⊢;have:=A c;omega⟩;refine .bind ((Jwb (x1:=(q.1,o,l)) ⟨g1.1,v,hl⟩).eqn) λj k=>.eq (λN=>.some (fin k.1.1.g)) λE=>.eq (λc=>?_) λc3=>.eq (λc=>.some (fin fk0)) λG=>?_
 ·have w:Jjj o l q.1 j.2.2.2.1:=⟨j,k.2,c,rfl⟩;refine .bind ((J7q (x1:=(q,j.2.2.2.1)) ⟨g1,k.1.1.d.1⟩).eqn) λC r=>.ne (λL=>.some (fin r.1.1.2)) λD=>?_;obtain⟨F,I⟩:=J9v (B:=B) (S:=S) g1.1.2.2.2.1 r.2 D;have x:=r.1.2 D;dsimp only at x;refine .some ⟨(n,C.1),rfl,⟨r.1.1.1,g2,by show n+_<=J0 C.1.1.2.2.1.2.1;omega,A⟩,Jil w x λe=>JhE (B:=B) (S:=S) (Jjj o l) (λh=>⟨h.want.1,h.want.2.1⟩) (λks h g=>JKN ks h.want g.want) w F I r.1.1.1.1.d.1 e,Jfj ?_⟩;have:=JbC w.want.1;show J0 q.1.2.2.1.2.1<=4097;omega
 ·have h1:j.2.1=1/\J0 j.1.2.2.1.2.1=J0 q.1.2.2.1.2.1+1:=by
   rcases k.1.2 with⟨h,z|z⟩|h|h
   ·exact⟨h,z⟩
   ·exact absurd z G
   ·exact absurd h c3
   ·exact absurd h E
  have H: ¬∃p,Jjj o l q.1 p:=fun⟨p,y,e,c,_⟩=>by rw[k.2]at e;injection e with e;subst e;exact c3 c
  have hv:=JbC (Jvg k.2 E);refine .some ⟨(J1 .i64 n 1,(j.1,q.2)),rfl,⟨⟨k.1.1.1,g1.2⟩,by show 0<=J1 .i64 n 1;omega,by show J1 .i64 n 1+_<=J0 j.1.2.2.1.2.1;omega,λ_=>by omega⟩,Jzq h1.2 H,Jfj (by show J0 q.1.2.2.1.2.1<=4097;omega)⟩
theorem JB8{x1:JAH}(h:zFt B S (.pr Jl tq6) x1)(n:0<=B:=by omega)(k:0<=S:=by omega)(z:16384<=B:=by omega)(x:1073741824<=S:=by omega)(D:B<=1000000:=by omega)(C:S<=1000000000000:=by omega):Tot (J7m x1) λy=>zFt B S JAX y:=by obtain⟨s,g,a⟩:=x1;obtain⟨hs,e,ha⟩:=h;dsimp only at hs e ha⊢;unfold J7m;dsimp only;refine Jf (τ:=Jt) (λq=>(g,q,a,sZ,0,0,0,(false,[]),0)) (λq=>zFt B S Jl q) (λq=>4097-J0 q.1.2.2.1.2.1) ?_ s rfl hs;rintro q g1;unfold JcO;dsimp only;refine .bind (JBQ (x1:=(q,g,a)) ⟨g1,e,ha⟩) λj h3=>.ne (λ_=>.some h3.1) λ_=>.bind (Jm2 (x1:=(j.1.1,g)) ⟨h3.1.1.1,e⟩) λo h4=>.not (λ_=>.some h3.1) λ_=>.bind (Juj (x1:=(j.1,o.1,o.2.1)) ⟨h3.1.1,h4.1,h4.2.1⟩) λr h5=>.ne (λ_=>.bind (J0a (B:=B) (S:=S) h5.1.c) λA v=>.some ⟨h5.1.1,JLj n k v.1⟩) λ_=>.eq (λ_=>.some ⟨h5.1.1,h3.1.2⟩) λc=>?_;obtain⟨e1,e2⟩:=h5.c c;have w:=h3.2;dsimp only at e1 e2 w;exact .some ⟨r.1,rfl,h5.1.1,oo,oo⟩
theorem Jw4{x1:Jt}(h:zFt B S Jl x1)(E:0<=B:=by omega)(D:0<=S:=by omega)(L:16384<=B:=by omega)(K:1073741824<=S:=by omega)(R:B<=1000000:=by omega)(P:S<=1000000000000:=by omega):Tot (J5I x1) λy=>zFt B S (.pr Jl (.pr .b zI)) y:=by
 have z0:zFt B S Jl sZ:=J0i E D Jl;unfold J5I;refine .bind (J1o h.1) λN _=>.not (λ_=>.some ⟨z0,trivial,fkn 15⟩) λ_=>.gt (λc=>?_) λ_=>?_
 ·exact .bind (Jh h.1.i (J0F _) c) λG h3=>.bind (J7q (x1:=(x1,G.1)) ⟨h,h3.1.1⟩) λO h4=>.some ⟨h4.1.1,trivial,h4.1.2⟩
 refine .bind (JtS h.1) λj h5=>.eq (λ_=>.some ⟨h,trivial,fk0⟩) λI=>?_;have o:=J4 (l:=j);have x:0<J0 j:=by omega
 have v:(0:Int).toNat<j.length:=by unfold J0 at x;omega
 have C:idx j 0=some j[(0:Int).toNat]:=by unfold idx;rw[if_pos (J0F _),zQ9 v]
 have hx:=h5.2 _ (Jam v);generalize j[(0:Int).toNat]=n at C hx;refine Jf (τ:=Jt) (λq=>(j,q,sZ)) (λq=>zFt B S Jl q) (λq=>left (Jci n) q.1) ?_ x1 rfl h;rintro q g1;unfold JaU;dsimp only;rw[C];show Tot ((J0M (q.1,n)).bind _) _;refine .bind ((JhI (x1:=(q.1,n)) ⟨g1.1,hx⟩).eqn) λz r=>.eq (λQ=>.some ⟨z0,trivial,r.1.1.g⟩) λI=>.ne (λ_=>.some ⟨⟨r.1.1.1,g1.2⟩,trivial,fk0⟩) λc=>?_;have w:Jci n q.1 z.2.2.2.1:=⟨z,r.2,c,rfl⟩;refine .bind ((J7q (x1:=(q,z.2.2.2.1)) ⟨g1,r.1.1.d.1⟩).eqn) λF k=>.ne (λM=>.some ⟨z0,trivial,k.1.1.2⟩) λA=>?_;obtain⟨H,J⟩:=J9v (B:=B) (S:=S) g1.1.2.2.2.1 k.2 A;have hl:=k.1.2 A;refine .some ⟨F.1,rfl,k.1.1.1,Jil w hl λe=>JhE (B:=B) (S:=S) (Jci n) (λh=>⟨h.want.1,h.want.2.1⟩) (λks h g=>JGL ks h.want g.want) w H J k.1.1.1.1.d.1 e,Jfj ?_⟩;have:=JbC w.want.1;show J0 q.1.2.2.1.2.1<=4097;omega
end
theorem Jgl{B S:Int}{x1:TQ4}(h:zFt B S (.pr J0Z tq0) x1)(p0:J0 x1.2.2.2.2.2.2.2.2.2.2.2.2.2.2.2.2.2.2.2.2.1<=16000)(U:J0 x1.2.2.2.2.2.2.2.2.2.2.2.2.2.2.2.2.2.2.2.2.2<=16000)(O:BH B S:=by omega)(Y:B<=1000000:=by omega)(W:S<=1000000000000:=by omega):Tot (J2s x1) λy=>zFt B S JAS y/\(J0 y.2.2.2.2.2.2.2.2.2.2.2.2.2.2.2.2.2.2.2.2.1<=J0 x1.2.2.2.2.2.2.2.2.2.2.2.2.2.2.2.2.2.2.2.2.1+1/\J0 y.2.2.2.2.2.2.2.2.2.2.2.2.2.2.2.2.2.2.2.2.2<=J0 x1.2.2.2.2.2.2.2.2.2.2.2.2.2.2.2.2.2.2.2.2.2+1):=by
 unfold J2s;have:J0 x1.2.2.2.2.2.2.2.2.2.2.2.2.2.2.2.2.2.2.2.2.1<=B:=h.k.k.c.1.1;have:=J4 (l:=x1.2.2.2.2.2.2.2.2.2.2.2.2.2.2.2.2.2.2.2.2.1);have:=J4 (l:=x1.2.2.2.2.2.2.2.2.2.2.2.2.2.2.2.2.2.2.2.2.2);have:J0 x1.2.2.2.2.2.2.2.2.2.2.2.2.2.2.2.2.2.2.2.2.2=_:=Jk h.k.k.d;have o:zFt 16000 S (.l zI) x1.2.2.2.2.2.2.2.2.2.2.2.2.2.2.2.2.2.2.2.2.1:=⟨(by omega:J0 x1.2.2.2.2.2.2.2.2.2.2.2.2.2.2.2.2.2.2.2.2.1<=16000),λx hx=>h.k.k.c.1.2 x hx⟩;have q:zFt 16000 S (.l J0D) x1.2.2.2.2.2.2.2.2.2.2.2.2.2.2.2.2.2.2.2.2.2:=⟨(by omega:J0 x1.2.2.2.2.2.2.2.2.2.2.2.2.2.2.2.2.2.2.2.2.2<=16000),λx hx=>h.k.k.e x hx⟩;have:=J3.1 h.1.z.2.1;refine .ltf (λJ=>?_) λJ=>?_
 ·refine .gtf (λG=>?_) λG=>?_
  ·have:=J0o x1.1.2.1 1;refine .bind (J6j (l:=x1.2.2.2.2.2.2.2.2.2.2.2.2.2.2.2.2.2.2.2.2.1)) λ_ _=>.bind (Jcb o) λQ L=>.eq (λC=>?_) λC=>?_
   ·refine .bind (J0a (B:=0) (S:=0) (fkn 16)) λV E=>.some ⟨(⟨E.1.u,h.2.1,h.c.1,h.d.1,h.e.1,h.g.1,h.h.1,h.i.1,h.j.1,h.k.1,h.k.2.1,h.k.c.1,h.k.d.1,h.k.e.1,h.k.g.1,h.k.h.1,h.k.i.1,trivial,h.k.k.1,trivial,o.u,q.u⟩),om⟩
   ·refine .bind (J6j (l:=x1.2.2.2.2.2.2.2.2.2.2.2.2.2.2.2.2.2.2.2.2.1)) λ_ _=>.bind (Jcb o) λT v=>.bind (JB8 (B:=B) (S:=S) (⟨⟨⟨h.2.1,h.c.1,⟨h.d.1,h.e.1,h.g.1⟩,⟨h.h.1,h.i.1,h.j.1⟩,⟨h.k.1,h.k.2.1⟩,h.k.c.1,h.k.d.1,h.k.e.1⟩,h.k.g.1,h.k.h.1,h.k.i.1,trivial,h.k.k.1⟩,v.1,h.1.z.2.2.2.2.2.u⟩)) λP n=>.eq (λI=>?_) λI=>?_
    ·exact .some ⟨(⟨n.2.z.u,h.2.1,h.c.1,h.d.1,h.e.1,h.g.1,h.h.1,h.i.1,h.j.1,h.k.1,h.k.2.1,h.k.c.1,h.k.d.1,h.k.e.1,h.k.g.1,h.k.h.1,h.k.i.1,trivial,h.k.k.1,trivial,o.u,q.u⟩),om⟩
    ·refine .eq (λH=>?_) λH=>?_
     ·have:=J3.1 h.1.z.2.2.2.2.2.1;refine .eq (λA=>?_) λA=>?_
      ·refine .bind (J8q n.1.1.c.1) λR D=>.bind (J0x (B:=16001) (Bl:=16000) (Bm:=1) (S:=S) (J0 x1.2.2.2.2.2.2.2.2.2.2.2.2.2.2.2.2.2.2.2.2.2) 1 q (J0j (B:=1) (S:=S) (t:=J0D) oo (⟨v.1,h.1.z.2.2.2.2.2.2.1,h.1.z.2.2.2.2.2.2.2.1,D,n.2.z.2.2.2.1.u⟩))) λK r=>?_;have:J0 K=_:=Jk r.1;exact .some ⟨(⟨n.2.z.u,n.1.1.1,n.1.1.2.1,n.1.1.c.1.1,n.1.1.c.1.2.1,n.1.1.c.1.c,n.1.1.d.1.1,n.1.1.d.1.2.1,n.1.1.d.1.c,n.1.1.e.1.1,n.1.1.e.1.2,n.1.1.g.1,n.1.1.h.1,n.1.1.i,n.1.2.1,n.1.c.1,n.1.d.1,trivial,n.1.g,trivial,o.u,r.1.u⟩),om⟩
      ·exact .some ⟨(⟨n.2.z.u,n.1.1.1,n.1.1.2.1,n.1.1.c.1.1,n.1.1.c.1.2.1,n.1.1.c.1.c,n.1.1.d.1.1,n.1.1.d.1.2.1,n.1.1.d.1.c,n.1.1.e.1.1,n.1.1.e.1.2,n.1.1.g.1,n.1.1.h.1,n.1.1.i,n.1.2.1,n.1.c.1,n.1.d.1,trivial,n.1.g,trivial,o.u,q.u⟩),om⟩
     ·exact .some ⟨(⟨n.2.z.u,n.1.1.1,n.1.1.2.1,n.1.1.c.1.1,n.1.1.c.1.2.1,n.1.1.c.1.c,n.1.1.d.1.1,n.1.1.d.1.2.1,n.1.1.d.1.c,n.1.1.e.1.1,n.1.1.e.1.2,n.1.1.g.1,n.1.1.h.1,n.1.1.i,n.1.2.1,n.1.c.1,n.1.d.1,trivial,n.1.g,trivial,o.u,q.u⟩),om⟩
  ·refine .bind (J0a (B:=0) (S:=0) (fkn 16)) λM F=>.some ⟨(⟨F.1.u,h.2.1,h.c.1,h.d.1,h.e.1,h.g.1,h.h.1,h.i.1,h.j.1,h.k.1,h.k.2.1,h.k.c.1,h.k.d.1,h.k.e.1,h.k.g.1,h.k.h.1,h.k.i.1,trivial,h.k.k.1,trivial,o.u,q.u⟩),om⟩
 ·refine .bind (J0a (B:=0) (S:=0) (fkn 16)) λN w=>.some ⟨(⟨w.1.u,h.2.1,h.c.1,h.d.1,h.e.1,h.g.1,h.h.1,h.i.1,h.j.1,h.k.1,h.k.2.1,h.k.c.1,h.k.d.1,h.k.e.1,h.k.g.1,h.k.h.1,h.k.i.1,trivial,h.k.k.1,trivial,o.u,q.u⟩),om⟩
theorem Jh2{B S:Int}{x1:List UInt8}(h:zFt B S .s x1)(r:BS B S 0 0:=by omega)(x:S<=4611686018427387887:=by omega):Tot (J3Y x1) λy=>zFt 0 (S+16) .s y:=by
 unfold J3Y;have s0:zFt 0 S .s x1:=h;have:J0 x1<=S:=s0;have:=J4 (l:=x1);refine .gt (λn=>?_) λn=>?_
 ·exact .some Je
 ·refine .bind (JW (B:=0) (S:=0) (⟨Je,J4y s0 oo,fkn 4⟩)) λe h4=>?_;have h5:zFt 0 8 .s e:=h4.1.u;have:J0 e<=8:=h5;have:=J4 (l:=e);refine .bind (J75) λk w=>?_;have h10:zFt 0 (S+8) .s k:=(by omega:J0 k<=(S+8));refine .bind (Jbp h10) λv q=>.bind (JW (B:=0) (S:=(S+8)) (⟨h10,JbI,fkn 4⟩)) λo g=>?_;have j:zFt 0 (S+16) .s o:=g.1.u;exact .some j
theorem JhD{B S:Int}{x1:(List UInt8)×J1l}(h:zFt B S (.pr .s JJ) x1)(q:BS B S 0 0:=by omega)(r:S<=2305843009213693948:=by omega):Tot (J4v x1) λy=>zFt 0 (2*S+8) .s y:=by
 unfold J4v;have s0:zFt 0 S (.pr .s JJ) x1:=h;refine .not (λn=>?_) λn=>?_
 ·refine .bind (JW (B:=0) (S:=S) (⟨s0.1,fkn 255,fkn 1⟩)) λv h2=>.some h2.1.u
 ·refine .bind (JW (B:=0) (S:=S) (⟨s0.1,J4y s0.2.2 oo,fkn 1⟩)) λj k=>?_;have:J0 j<=(S+8):=k.1;have:J0 x1.2.2<=S:=s0.2.2;refine .bind (J75) λe o=>?_;have g:zFt 0 (2*S+8) .s e:=(by omega:J0 e<=(2*S+8));exact .some g
theorem Jo9{B S:Int}{x1:J2}(h:zFt B S J5 x1)(a6:BS B S 0 0:=by omega):Tot (J4g x1) λy=>zFt 0 40992 JbL y:=by
 unfold J4g;have s0:zFt 0 S J5 x1:=h;refine .bind ((J2Y (B:=0) (S:=S) (x1:=x1) s0).eqn) λy2 h1=>.not (λG=>?_) λG=>?_
 ·exact .some (⟨Je,fkn 12⟩)
 ·have v3:=J2v (x:=x1) s0 h1.2 G;have:=J4 (l:=x1.2.2.2.2.2.2.2);have j:zFt 0 8192 J5 x1:=v3.2;refine .bind (JW (B:=0) (S:=0) (⟨Je,j.1,fkn 8⟩)) λZ r=>?_;have I:zFt 0 8 .s Z:=r.1.u;refine .bind (JW (B:=0) (S:=8) (⟨I,j.2.1,fkn 1⟩)) λy4 K=>?_;have z:zFt 0 16 .s y4:=K.1.u;refine .bind (JW (B:=0) (S:=16) (⟨z,j.c.1,fkn 4⟩)) λy5 H=>?_;have E:zFt 0 24 .s y5:=H.1.u;refine .bind (JW (B:=0) (S:=24) (⟨E,j.d.1,fkn 8⟩)) λy6 O=>?_;have q:zFt 0 32 .s y6:=O.1.u;refine .bind (JW (B:=0) (S:=32) (⟨q,j.e.1,fkn 8⟩)) λY L=>?_;have C:zFt 0 40 .s Y:=L.1.u;refine .bind (JW (B:=0) (S:=40) (⟨C,j.g.1,fkn 8⟩)) λy8 T=>?_;have v:zFt 0 48 .s y8:=T.1.u;refine .bind (JW (B:=0) (S:=48) (⟨v,j.h.1.1,fkn 4⟩)) λy9 Q=>?_;have P:zFt 0 56 .s y9:=Q.1.u;refine .bind (JW (B:=0) (S:=56) (⟨P,j.h.1.2.1,fkn 1⟩)) λw U=>?_;have J:zFt 0 64 .s w:=U.1.u;refine .bind (JhD (B:=0) (S:=8192) (⟨J.u,j.h.1.c.1⟩)) λW D=>?_;have o:zFt 0 16392 .s W:=D.u;refine .bind (JhD (B:=0) (S:=16392) (⟨o,j.h.1.d.u⟩)) λM A=>?_;have R:zFt 0 32792 .s M:=A.u;refine .bind (JW (B:=0) (S:=32792) (⟨R,J4y j.i oo,fkn 4⟩)) λk F=>?_;have V:zFt 0 32800 .s k:=F.1.u;have:J0 k<=32800:=V;have:=J4 (l:=k);refine .bind (J75) λn a5=>?_;have N:zFt 0 40992 .s n:=(by omega:J0 n<=40992);exact .some (⟨N,fk0⟩)
theorem Jha{B S:Int}{x1:J2}(h:zFt B S J5 x1)(g:BS B S 0 0:=by omega):Tot (J31 x1) λy=>zFt 0 41008 .s y:=by unfold J31;refine .bind (Jo9 (B:=0) (S:=S) h.z) λj h1=>.bind (Jh2 h1.1) λe h2=>?_;have h3:zFt 0 41008 .s e:=h2.u;exact .some h3
theorem Jxp{B S x1:Int}(h:zFt B S zI x1)(n:BS B S 0 0:=by omega):Tot (J5x x1) λy=>zFt 0 28 .s y:=by unfold J5x;refine .bind (JW (B:=0) (S:=4) (⟨JJl 4 rfl oo,h,fkn 8⟩)) λk h1=>?_;have h2:zFt 0 12 .s k:=h1.1.u;refine .bind (Jh2 h2) λg e=>?_;have j:zFt 0 28 .s g:=e.u;exact .some j
theorem J9n{B S:Int}{x1:J6z}(h:zFt B S tq8 x1)(a0:BC B S 0 0:=by omega):Tot (J1P x1) λy=>zFt 0 335937564 .s y:=by
 unfold J1P;refine .bind ((J2y h.1).eqn) λy2 h1=>.not (λJ=>?_) λJ=>?_
 ·exact .some Je
 ·have v3:=J27 h.1 h1.2 J;have:=J4 (l:=x1.1.2.1);have:J0 x1.1.2.1=_:=Jk h.1.2.1;have h10:zFt 4096 8192 JU x1.1:=v3.2;refine .bind (Jxp h10.1) λr x=>?_;have:J0 r<=28:=x;have:=J4 (l:=r);refine Jf (τ:=(List UInt8)×(List UInt8)×Int) (λq=>(x1.2,q.1,q.2.1,q.2.2,x1.1)) (λq=>(zFt 0 0 zI q.2.2/\0<=q.2.2/\(q.2.2<=J0 x1.1.2.1\/q.2.2<=0))/\(zFt 0 167968796 .s q.1/\J0 q.1<=41008*q.2.2+J0 r)/\(zFt 0 167968768 .s q.2.1/\J0 q.2.1<=41008*q.2.2+0)) (λq=>J0 x1.1.2.1-q.2.2) ?_ (r,[],0) rfl ?_
  ·rintro⟨g,e,j⟩ C;dsimp only at C;obtain⟨⟨L,W,U⟩,⟨o,Z⟩,k,T⟩:=C;unfold Ja4
   try dsimp only
   have:=J3.1 L;refine .lt (λM=>?_) λM=>?_
   ·refine .bind (Jh h10.2.1) λy5 a2=>.le (λN=>?_) λN=>?_
    ·refine .bind (Jh h10.2.1) λy6 P=>.bind (Jha (B:=0) (S:=8192) P.1.z) λE G=>?_;have:J0 g<=167968796:=o;have:=J4 (l:=g);have:J0 E<=41008:=G;have:=J4 (l:=E);refine .bind (J75) λD V=>?_;have I:zFt 0 167968796 .s D:=(by omega:J0 D<=167968796);have:=Jb j 1;exact .some ⟨(D,e,J1 .i64 j 1),rfl,⟨⟨J8,om,om⟩,⟨I,om⟩,k,om⟩,om,om⟩
    ·refine .bind (Jh h10.2.1) λy9 F=>.bind (Jha (B:=0) (S:=8192) F.1.z) λv O=>?_;have:J0 e<=167968768:=k;have:=J4 (l:=e);have:J0 v<=41008:=O;have:=J4 (l:=v);refine .bind (J75) λn Y=>?_;have K:zFt 0 167968768 .s n:=(by omega:J0 n<=167968768);have:=Jb j 1;exact .some ⟨(g,n,J1 .i64 j 1),rfl,⟨⟨J8,om,om⟩,⟨o,om⟩,K,om⟩,om,om⟩
   ·refine .inr ?_;have:=J6I x1.2 0;have:J0 e<=167968768:=k;have:=J4 (l:=e);have:=JzU (J1m x1.2 0) (J0 e);refine .bind (JcM k) λA Q=>?_;have R:zFt 0 167968768 .s A:=Q.1;have:J0 g<=167968796:=o;have:=J4 (l:=g);have:=J4 (l:=A);refine .bind (J75) λw a1=>?_;have H:zFt 0 335937564 .s w:=(by omega:J0 w<=335937564);exact .some H
  ·have:J0 ([]:List UInt8)=0:=rfl
   try dsimp only
   exact⟨⟨fk0,oo,oo⟩,⟨x.u,oo⟩,Je,oo⟩
theorem JrE{B S:Int}{x1:JAc}(h:zFt B S (.pr Jl Jd) x1)(F:BG B S:=by omega):Tot (J4S x1) λy=>zFt B S (.pr JV .s) y:=by
 unfold J4S;refine .bind ((J5y (B:=B) (S:=S) (x1:=(x1.1.1.2.2.2.1,x1.2.2.1)) (⟨h.1.1.d.1,h.c.1⟩)).eqn) λw h1=>?_;have:J0 x1.1.1.2.2.2.1.2.1=_:=Jk h.1.1.d.1.2.1;have: -1<=w/\w<J0 x1.1.1.2.2.2.1.2.1:=h1.1.2;refine .ge (λA=>?_) λA=>?_
 ·refine .bind (Jh h.1.1.d.1.2.1) λH L=>.ite (λx=>?_) λx=>?_
  ·refine .bind (Jh h.1.1.d.1.2.1) λN h10=>.bind (Jb7 (B:=0) (S:=S) h10.1.z.1) λJ n=>.bind (Jh h.1.1.d.1.2.1) λK j=>.bind (J9u (B:=B) (S:=S) (⟨h.1.1,j.1.z.1.2.1⟩)) λG e=>.bind (Jwh (B:=B) (S:=S) (⟨h.1.2,h.c.1,n.1.u,h.d⟩)) λI o=>.eq (λq=>?_) λq=>?_
   ·refine .bind (J9n (B:=B) (S:=S) (⟨e.1.c.1,h.2.1⟩)) λM r=>.some (⟨o.1.u,r.u⟩)
   ·refine .bind (J9n (B:=B) (S:=S) (⟨e.1.c.1,h.2.1⟩)) λC g=>.some (⟨h.1.2,g.u⟩)
  ·refine .bind (J9n (B:=B) (S:=S) (⟨h.1.1.c.1,h.2.1⟩)) λE v=>.some (⟨h.1.2,v.u⟩)
 ·refine .bind (J9n (B:=B) (S:=S) (⟨h.1.1.c.1,h.2.1⟩)) λD k=>.some (⟨h.1.2,k.u⟩)
theorem JdZ{B S:Int}{x1:J4p}(h:zFt B S JbL x1)(F:BS B S 0 0:=by omega)(I:S<=9223372036854775807:=by omega):Tot (J1z x1) λy=>zFt 0 S JB y/\(y.2.2=0->0<=y.2.1/\y.2.1<=J0 x1.1/\J0 y.1<=8392):=by
 unfold J1z;have s0:zFt 0 S JbL x1:=h;have:=J3.1 s0.2;refine .ltf (λA=>?_) λA=>?_
 ·have:J0 x1.1<=S:=s0.1;have:=J4 (l:=x1.1);refine .gt (λc3=>?_) λc3=>?_
  ·exact .some ⟨(⟨Je,fk0,fkn 1⟩),om⟩
  ·refine .bind ((J1i (B:=0) (S:=S) (x1:=(x1.1,x1.2,4)) (⟨s0.1,s0.2,fkn 4⟩)).eqn) λe z=>.ne (λn=>?_) λn=>?_
   ·exact .some ⟨(⟨Je,fk0,fkn 5⟩),om⟩
   ·have v9:=J7A (x:=(x1.1,x1.2,4)) (⟨s0.1,s0.2,fkn 4⟩) z.2 n;have:=J3.1 z.1.1;have:1<=(4:Int)/\(4:Int)<=8/\0<=x1.2/\x1.2<=J0 x1.1/\(4:Int)<=J0 x1.1-x1.2/\((4:Int)<=4->0<=e.1/\e.1<=4294967295)/\((4:Int)=1->e.1<=255)/\((4:Int)=2->e.1<=65535):=v9.1;refine .gt (λg=>?_) λg=>?_
    ·exact .some ⟨(⟨Je,fk0,fkn 2⟩),om⟩
    ·have:=J0o (J0 x1.1) x1.2;have:=Jb e.1 8;refine .lt (λr=>?_) λr=>?_
     ·exact .some ⟨(⟨Je,fk0,fkn 5⟩),om⟩
     ·refine .bind ((J1i (B:=0) (S:=S) (x1:=(x1.1,J1 .i64 (J1 .i64 x1.2 4) e.1,4)) (⟨s0.1,J8,fkn 4⟩)).eqn) λG E=>?_;have:=Jb x1.2 4;have:=Jb (J1 .i64 x1.2 4) e.1;refine .bind (JcS s0.1) λC k=>?_;have o:zFt 0 S .s C:=k.1;refine .bind (Jbp o) λH D=>.ne (λv=>?_) λv=>?_
      ·exact .some ⟨(⟨Je,fk0,fkn 3⟩),om⟩
      ·refine .bind (JcS s0.1) λq j=>?_;have w:zFt 0 S .s q:=j.1;have:=Jb x1.2 8;have:=Jb (J1 .i64 x1.2 8) e.1;have:=J4 (l:=q);exact .some ⟨(⟨w,J8,fk0⟩),om⟩
 ·have:J0 x1.1<=S:=s0.1;exact .some ⟨(⟨Je,fk0,fkn 1⟩),om⟩
theorem Ja7{B S:Int}{x1:Jw1}(h:zFt B S JwH x1)(p0:0<=x1.2.2.1)(r:x1.2.2.1<=J0 x1.2.1)(w:0<=x1.1)(q:x1.1<=4294967295)(o:BS B S 0 0:=by omega)(v:S<=9223372036854775807:=by omega):Tot (J1W x1) λy=>zFt 0 S (.pr .s JB) y/\(0<=y.2.2.1/\y.2.2.1<=J0 y.2.1):=by
 unfold J1W;have s0:zFt 0 S JwH x1:=h;have:=J3.1 s0.2.2.1;have:J0 x1.2.1<=S:=s0.2.1;have:=J4 (l:=x1.2.1);refine .ne (λk=>?_) λk=>?_
 ·exact .some ⟨(⟨Je,s0.2⟩),om⟩
 ·have:=J0o (J0 x1.2.1) x1.2.2.1;refine .gt (λj=>?_) λj=>?_
  ·exact .some ⟨(⟨Je,s0.2.1,s0.2.2.1,fkn 5⟩),om⟩
  ·have:=Jb x1.2.2.1 x1.1;have:=J0o (J1 .i64 x1.2.2.1 x1.1) x1.1;refine .bind (JcS s0.2.1) λn g=>?_;have e:zFt 0 S .s n:=g.1;exact .some ⟨(⟨e,s0.2.1,J8,s0.2.2.2⟩),om⟩
theorem J1b{B S:Int}{x1:Jw1}(h:zFt B S JwH x1)(p0:0<=x1.2.2.1)(q:x1.2.2.1<=J0 x1.2.1)(o:BS B S 0 0:=by omega)(r:S<=9223372036854775807:=by omega):Tot (JE x1) λy=>zFt 0 S JwH y/\(0<=y.2.2.1/\y.2.2.1<=J0 y.2.1/\(x1.1<=4->0<=y.1/\y.1<=4294967295)/\(x1.1=1->y.1<=255)):=by
 unfold JE;have s0:zFt 0 S JwH x1:=h;have:=J3.1 s0.2.2.1;have:J0 x1.2.1<=S:=s0.2.1;refine .ne (λn=>?_) λn=>?_
 ·have:=J3.1 s0.1;exact .some ⟨(⟨fk0,s0.2⟩),om⟩
 ·refine .bind ((J1i (B:=0) (S:=S) (x1:=(x1.2.1,x1.2.2.1,x1.1)) (⟨s0.2.1,s0.2.2.1,s0.1⟩)).eqn) λg e=>.ne (λk=>?_) λk=>?_
  ·have:=J3.1 s0.1;exact .some ⟨(⟨fk0,s0.2.1,s0.2.2.1,e.1.2⟩),om⟩
  ·have j:=J7A (x:=(x1.2.1,x1.2.2.1,x1.1)) (⟨s0.2.1,s0.2.2.1,s0.1⟩) e.2 k;have:=J3.1 s0.1;have:=J3.1 e.1.1;have:1<=x1.1/\x1.1<=8/\0<=x1.2.2.1/\x1.2.2.1<=J0 x1.2.1/\x1.1<=J0 x1.2.1-x1.2.2.1/\(x1.1<=4->0<=g.1/\g.1<=4294967295)/\(x1.1=1->g.1<=255)/\(x1.1=2->g.1<=65535):=j.1;have:=Jb x1.2.2.1 x1.1;exact .some ⟨(⟨e.1.1,s0.2.1,J8,s0.2.2.2⟩),om⟩
theorem JaL{B S:Int}{x1:J0J}(h:zFt B S JB x1)(p0:0<=x1.2.1)(v:x1.2.1<=J0 x1.1)(r:BS B S 0 0:=by omega)(w:S<=9223372036854775807:=by omega):Tot (J2M x1) λy=>zFt 0 S (.pr JJ JB) y/\(0<=y.2.2.1/\y.2.2.1<=J0 y.2.1):=by
 unfold J2M;refine .bind (J1b (B:=0) (S:=S) (⟨fkn 1,h.z⟩) om om) λj h4=>?_;have:=J3.1 h4.1.c.1;have:=J3.1 h4.1.1;have:0<=j.2.2.1/\j.2.2.1<=J0 j.2.1/\0<=j.1/\j.1<=255:=⟨h4.2.1,h4.c.1,(h4.d.1 (show(1:Int)<=4 by decide)).1,h4.e rfl⟩;refine .nef (λo=>?_) λo=>?_
 ·refine .eq (λn=>?_) λn=>?_
  ·exact .some ⟨(⟨⟨trivial,Je⟩,h4.1.2⟩),om⟩
  ·refine .gt (λq=>?_) λq=>?_
   ·exact .some ⟨(⟨⟨trivial,Je⟩,h4.1.2.1,h4.1.c.1,fkn 4⟩),om⟩
   ·refine .bind (Ja7 (B:=0) (S:=S) (h4.1) om om om om) λk g=>?_;have:0<=k.2.2.1/\k.2.2.1<=J0 k.2.1:=g.2;exact .some ⟨(⟨⟨trivial,g.1.1⟩,g.1.2⟩),om⟩
 ·exact .some ⟨(⟨⟨trivial,Je⟩,h4.1.2⟩),om⟩
theorem Joi{B S:Int}{x1:List UInt8}(h:zFt B S .s x1)(W:BS B S 0 0:=by omega)(Y:S<=9223372036854775807:=by omega):Tot (J5k x1) λy=>zFt 0 8192 JJ0 y:=by
 unfold J5k;have:=J4 (l:=x1);refine .bind (J1b (B:=0) (S:=S) (⟨fkn 8,h.z,fzr⟩) om om) λO h1=>?_;have:=J3.1 h1.1.c.1;refine .bind (J1b (B:=0) (S:=S) (⟨fkn 1,h1.1.2⟩) om om) λI F=>?_;have:=J3.1 F.1.c.1;refine .bind (J1b (B:=0) (S:=S) (⟨fkn 4,F.1.2⟩) om om) λN k=>?_;have:=J3.1 k.1.c.1;refine .bind (J1b (B:=0) (S:=S) (⟨fkn 8,k.1.2⟩) om om) λK q=>?_;have:=J3.1 q.1.c.1;refine .bind (J1b (B:=0) (S:=S) (⟨fkn 8,q.1.2⟩) om om) λL n=>?_;have:=J3.1 n.1.c.1;refine .bind (J1b (B:=0) (S:=S) (⟨fkn 8,n.1.2⟩) om om) λH o=>?_;have:=J3.1 o.1.c.1;refine .bind (J1b (B:=0) (S:=S) (⟨fkn 4,o.1.2⟩) om om) λJ j=>?_;have:=J3.1 j.1.c.1;refine .bind (J1b (B:=0) (S:=S) (⟨fkn 1,j.1.2⟩) om om) λM v=>?_;have:=J3.1 v.1.c.1;refine .bind (JaL v.1.2 om om) λA r=>?_;have:=J3.1 r.1.c.1;refine .bind (JaL r.1.2 om om) λE w=>?_;have:=J3.1 w.1.c.1;refine .bind (J1b (B:=0) (S:=S) (⟨fkn 4,w.1.2⟩) om om) λg e=>?_;have:=J3.1 e.1.c.1;have:=J3.1 e.1.1;have:0<=g.2.2.1/\g.2.2.1<=J0 g.2.1/\0<=g.1/\g.1<=4294967295:=⟨e.2.1,e.c.1,e.d.1 (show(4:Int)<=4 by decide)⟩;refine .bind (Ja7 (B:=0) (S:=S) (e.1) om om om om) λC D=>.ne (λP=>?_) λP=>?_
 ·exact .some (⟨⟨fk0,fk0,fk0,fk0,fk0,fk0,⟨fk0,fk0,⟨trivial,Je⟩,trivial,Je⟩,Je⟩,D.1.d⟩)
 ·refine .ne (λT=>?_) λT=>?_
  ·exact .some (⟨⟨fk0,fk0,fk0,fk0,fk0,fk0,⟨fk0,fk0,⟨trivial,Je⟩,trivial,Je⟩,Je⟩,fkn 4⟩)
  ·refine .bind ((J2Y (B:=0) (S:=S) (x1:=(O.1,I.1,N.1,K.1,L.1,H.1,(J.1,M.1,A.1,E.1),C.1)) (⟨h1.1.1,F.1.1,k.1.1,q.1.1,n.1.1,o.1.1,⟨j.1.1,v.1.1,r.1.1,w.1.1⟩,D.1.1⟩)).eqn) λV R=>.not (λG=>?_) λG=>?_
   ·exact .some (⟨⟨fk0,fk0,fk0,fk0,fk0,fk0,⟨fk0,fk0,⟨trivial,Je⟩,trivial,Je⟩,Je⟩,fkn 12⟩)
   ·have U:=J2v (x:=(O.1,I.1,N.1,K.1,L.1,H.1,(J.1,M.1,A.1,E.1),C.1)) (⟨h1.1.1,F.1.1,k.1.1,q.1.1,n.1.1,o.1.1,⟨j.1.1,v.1.1,r.1.1,w.1.1⟩,D.1.1⟩) R.2 G;have Q:zFt 0 8192 J5 (O.1,I.1,N.1,K.1,L.1,H.1,(J.1,M.1,A.1,E.1),C.1):=U.2;exact .some (⟨Q,fk0⟩)
theorem Jtm{B S:Int}{x1:List UInt8}(h:zFt B S .s x1)(U:BS B S 0 0:=by omega)(Y:S<=9223372036854775807:=by omega):Tot (J4x x1) λy=>zFt 4096 8192 tq8 y:=by
 unfold J4x;have s0:zFt 0 S .s x1:=h;refine .bind (JdZ (B:=0) (S:=S) (⟨s0,fk0⟩)) λo h1=>?_;have:=J3.1 h1.1.2.1;have:o.2.2=0->0<=o.2.1/\o.2.1<=J0 x1/\J0 o.1<=8392:=h1.2;refine .nef (λO=>?_) λO=>?_
 ·refine .nef (λG=>?_) λG=>?_
  ·refine .bind (JcM h1.1.1) λW T=>.ite (λF=>?_) λF=>?_
   ·exact .some (⟨fzr,fkn 4⟩)
   ·refine .bind ((J1i (B:=0) (S:=S) (x1:=(o.1,4,8)) (⟨h1.1.1,fkn 4,fkn 8⟩)).eqn) λH j=>.ltf (λM=>?_) λM=>?_
    ·refine .gt (λL=>?_) λL=>?_
     ·exact .some (⟨fzr,fkn 4⟩)
     ·refine Jf (τ:=Int×(List J2)×Int) (λq=>(x1,q.1,[],0,0,q.2.1,[],H.1,q.2.2)) (λq=>zFt 0 0 zI q.1/\zFt 4096 8192 (.l J5) q.2.1/\zFt 0 0 zI q.2.2/\(J0 q.2.1<=4096)/\(0<=q.1)/\(q.1<=J0 x1)) (λq=>4096-J0 q.2.1) ?_ (o.2.1,[],JH .i64 H.1 1) rfl ?_
      ·rintro⟨Q,g,P⟩ z;dsimp only at z;obtain⟨K,e,n,z22,R,V⟩:=z;unfold JaP
       try dsimp only
       have:=J4 (l:=g);have:J0 g=_:=Jk e;refine .lt (λC=>?_) λC=>?_
       ·refine .bind (JdZ (B:=0) (S:=S) (⟨s0,K⟩)) λr k=>?_;have:=J3.1 k.1.2.1;have:r.2.2=0->0<=r.2.1/\r.2.1<=J0 x1/\J0 r.1<=8392:=k.2;refine .ne (λD=>?_) λD=>?_
        ·exact .some (⟨⟨j.1.1,e,n⟩,fk0⟩)
        ·refine .bind (Joi k.1.1) λN v=>.nef (λJ=>?_) λJ=>?_
         ·have:=J3.1 v.1.1;refine .ne (λE=>?_) λE=>?_
          ·exact .some (⟨⟨j.1.1,e,n⟩,fk0⟩)
          ·refine .bind (J0x (B:=4097) (Bl:=4096) (Bm:=1) (S:=8192) (J0 g) 1 e (J0j (B:=1) (S:=8192) (t:=J5) oo v.1.u)) λw A=>?_;have:J0 w=_:=Jk A.1;have I:zFt 4096 8192 (.l J5) w:=⟨(by omega:J0 w<=4096),λx hx=>A.1.2 x hx⟩;exact .some ⟨(r.2.1,w,N.1.1),rfl,⟨k.1.2.1,I,v.1.1,om,om,om⟩,om,om⟩
         ·exact .some (⟨⟨j.1.1,e,n⟩,fk0⟩)
       ·exact .some (⟨⟨j.1.1,e,n⟩,fk0⟩)
      ·try dsimp only
       exact⟨h1.1.2.1,Jc,J2f,om,om,om⟩
    ·exact .some (⟨fzr,fkn 4⟩)
  ·exact .some (⟨fzr,fkn 4⟩)
 ·exact .some (⟨fzr,fkn 4⟩)
theorem Jxi{B S:Int}{x1:Jpn}(h:zFt B S JFF x1)(j:BS B S 0 0:=by omega):Tot (JaB x1) λy=>zFt 0 0 .b y:=by
 unfold JaB;refine .ne (λg=>?_) λg=>?_
 ·exact .some trivial
 ·have:=J3.1 h.1.2.1.2;refine .ne (λe=>?_) λe=>?_
  ·exact .some trivial
  ·exact .some trivial
theorem Jtv{B S:Int}{x1:JAY}(h:zFt B S (.pr (.l Ja) Ja) x1)(ac:BS B S 0 0:=by omega)(hB:B<=17179869183:=by omega):Tot (Jax x1) λy=>zFt (2*B+1) S (.l Ja) y/\(J0 y<=J0 x1.1+1):=by
 unfold Jax;have:J0 x1.1<=B:=h.1.1;have:=J4 (l:=x1.1);have:J0 x1.1=_:=Jk h.1;refine Jf (τ:=Int) (λq=>(x1.1,q,x1.2)) (λq=>(zFt 0 0 zI q/\0<=q/\(q<=J0 x1.1\/q<=0))) (λq=>J0 x1.1-q) ?_ 0 rfl ?_
 ·rintro n ⟨i4,w5,z6⟩;unfold Jfs
  try dsimp only
  have:=J3.1 i4;refine .lt (λc7=>?_) λc7=>?_
  ·refine .bind (Jh h.1) λy3 O=>.bind (Jxi (B:=0) (S:=0) (⟨O.1,h.2⟩)) λy4 a5=>.ite (λM=>?_) λM=>?_
   ·have:=Jb n 1;exact .some ⟨J1 .i64 n 1,rfl,⟨J8,om,om⟩,om,om⟩
   ·refine .inr ?_;refine .lt (λa2=>?_) λa2=>?_
    ·refine .bind (Jh h.1) λy5 a6=>.ite (λE=>?_) λE=>?_
     ·have aa:=J1I.1 E;exact .some ⟨h.1.u,om⟩
     ·refine .bind (J6m h.1) λG e=>.clo e.1 oo (by decide) ?_;have:J0 G<=B:=e.1.1;have:J0 G=_:=Jk e.1;refine .bind (J0x (B:=(B+1)) (Bl:=B) (Bm:=1) (S:=S) (J0 G) 1 e.1 ((J0j (B:=1) (S:=0) (t:=Ja) oo h.2).u)) λR F=>.bind (J3J h.1) λH k=>?_;have:J0 R=_:=Jk F.1;have:J0 H<=B:=k.1.1;have:J0 H=_:=Jk k.1;refine .bind (J0x (B:=(2*B+1)) (Bl:=(B+1)) (Bm:=B) (S:=S) (J0 R) (J0 H) F.1 k.1) λK v=>?_;have:J0 K=_:=Jk v.1;exact .some ⟨v.1,om⟩
    ·refine .bind (J6m h.1) λZ A=>.clo A.1 oo (by decide) ?_;refine .bind (J0x (B:=(B+1)) (Bl:=B) (Bm:=1) (S:=S) (J0 Z) 1 A.1 ((J0j (B:=1) (S:=0) (t:=Ja) oo h.2).u)) λL a1=>.bind (J3J h.1) λW Y=>.bind (J0x (B:=(2*B+1)) (Bl:=(B+1)) (Bm:=B) (S:=S) (J0 L) (J0 W) a1.1 Y.1) λa8 V=>.some ⟨V.1,om⟩
  ·refine .inr ?_;refine .lt (λN=>?_) λN=>?_
   ·refine .bind (Jh h.1) λab a9=>.ite (λz=>?_) λz=>?_
    ·have ad:=J1I.1 z;exact .some ⟨h.1.u,om⟩
    ·refine .bind (J6m h.1) λQ C=>.clo C.1 oo (by decide) ?_;refine .bind (J0x (B:=(B+1)) (Bl:=B) (Bm:=1) (S:=S) (J0 Q) 1 C.1 ((J0j (B:=1) (S:=0) (t:=Ja) oo h.2).u)) λU a0=>.bind (J3J h.1) λT I=>.bind (J0x (B:=(2*B+1)) (Bl:=(B+1)) (Bm:=B) (S:=S) (J0 U) (J0 T) a0.1 I.1) λa7 J=>.some ⟨J.1,om⟩
   ·refine .bind (J6m h.1) λo g=>.clo g.1 oo (by decide) ?_;have:J0 o<=B:=g.1.1;have:J0 o=_:=Jk g.1;refine .bind (J0x (B:=(B+1)) (Bl:=B) (Bm:=1) (S:=S) (J0 o) 1 g.1 ((J0j (B:=1) (S:=0) (t:=Ja) oo h.2).u)) λr D=>.bind (J3J h.1) λj x=>?_;have:J0 r=_:=Jk D.1;have:=J4 (l:=j);have:J0 j=_:=Jk x.1;refine .bind (J0x (B:=(2*B+1)) (Bl:=(B+1)) (Bm:=B) (S:=S) (J0 r) (J0 j) D.1 x.1) λP w=>?_;have:J0 P=_:=Jk w.1;exact .some ⟨w.1,om⟩
 ·try dsimp only
  exact⟨fk0,oo,oo⟩
section
variable {B S:Int}
theorem JrW{x1:JO×List Jo}(h:zFt B S (.pr JU (.l Jm)) x1)(J:BH B S:=by omega)(C:B<=20000:=by omega):Tot (J9j x1) λy=>zFt 400000001 0 (.pr (.l Ja) zI) y:=by
 obtain⟨l,e⟩:=x1;obtain⟨hl,v⟩:=h;unfold J9j;dsimp only;have:J0 e<=20000:=Jd3 v.1 C;have E:=J4 (l:=e);refine Jf (τ:=Jx3) (λq=>(e,q.1,q.2,l)) (λq=>0<=q.2/\q.2<=J0 e/\zFt 400000001 0 (.l Ja) q.1/\J0 q.1<=20000*q.2) (λq=>J0 e-q.2) ?_ ([],0) rfl ⟨J0F _,E,Jc,by show(0:Int)<=20000*0;omega⟩;rintro⟨out,i⟩ ⟨r,h1,h2,h3⟩;dsimp only at r h1 h2 h3;unfold Jet;dsimp only;have a1:=Jb i 1;refine .lt (λc=>?_) λc=>.some ⟨h2,fk0⟩;have n:i.toNat<e.length:=by unfold J0 at c;omega
 have x:idx e i=some e[i.toNat]:=by unfold idx;rw[if_pos r,zQ9 n]
 have hx:=v.2 _ (Jam n);generalize e[i.toNat]=t at x hx;have:J0 t.2.2.2.2.1<=20000:=Jd3 hx.2.2.2.2.1.1 C;refine Jf (τ:=Jx3) (λq=>(e,q.1,i,q.2,l)) (λq=>0<=q.2/\q.2<=J0 t.2.2.2.2.1/\zFt 400000001 0 (.l Ja) q.1/\J0 q.1<=20000*i+q.2) (λq=>J0 t.2.2.2.2.1-q.2) ?_ (out,0) rfl ⟨J0F _,J4,h2,by show J0 out<=20000*i+0;omega⟩;rintro⟨out,k⟩ ⟨w,g1,g2,H⟩;dsimp only at w g1 g2 H;unfold Jdv;dsimp only;rw[x];have a2:=Jb k 1;show Tot (if ltI k (J0 t.2.2.2.2.1)=true then _ else _) _;refine .lt (λz=>?_) λz=>.some ⟨(out,J1 .i64 i 1),rfl,⟨by show 0<=J1 .i64 i 1;omega,by show J1 .i64 i 1<=J0 e;omega,g2,by show J0 out<=20000*J1 .i64 i 1;omega⟩,by show J0 e-J1 .i64 i 1<J0 e-i;omega,oo⟩;show Tot ((idx t.2.2.2.2.1 k).bind _) _;refine .bind (Jh hx.2.2.2.2.1 w z) λF G=>.bind (J4q (x1:=(l,F)) ⟨hl,G.1⟩) λg o=>.ne (λ_=>.inr (.some ⟨Jc,fkn 14⟩)) λ_=>.nef (λ_=>?_) λ_=>.inr (.some ⟨Jc,fkn 13⟩);show Tot (if neI g.1.2.2.1 t.1=true then _ else _) _;refine .ne (λ_=>.inr (.some ⟨Jc,fkn 13⟩)) λ_=>?_;have D:zFt 0 0 Ja (g.1.2.2.1,(g.1.2.2.2.2.2.2.1.1,g.1.2.2.2.2.2.2.1.2.1),2):=⟨o.1.2.2.1,⟨o.1.2.2.2.2.2.2.1.1,o.1.2.2.2.2.2.2.1.2.1⟩,fkn 2⟩;have:=J4 (l:=out);refine .bind (Jtv (B:=J0 out) (S:=0) (x1:=(out,g.1.2.2.1,(g.1.2.2.2.2.2.2.1.1,g.1.2.2.2.2.2.2.1.2.1),2)) ⟨⟨J0F _,g2.2⟩,D⟩) λj A=>?_;have I:J0 j<=J0 out+1:=A.2;exact .some ⟨(j,J1 .i64 k 1),rfl,⟨by show 0<=J1 .i64 k 1;omega,by show J1 .i64 k 1<=J0 t.2.2.2.2.1;omega,⟨by show J0 j<=400000001;omega,A.1.2⟩,by show J0 j<=20000*i+J1 .i64 k 1;omega⟩,by show J0 t.2.2.2.2.1-J1 .i64 k 1<J0 t.2.2.2.2.1-k;omega,oo⟩
end
theorem JoE{B S:Int}{x1:List UInt8}(h:zFt B S .s x1)(N:BS B S 0 0:=by omega)(T:S<=9223372036854775807:=by omega):Tot (J4a x1) λy=>zFt 64 0 JBo y:=by
 unfold J4a;have s0:zFt 0 S .s x1:=h;refine .bind ((J1i (B:=0) (S:=S) (x1:=(x1,0,2)) (⟨s0,fk0,fkn 2⟩)).eqn) λk h1=>.nef (λF=>?_) λF=>?_
 ·have v4:=J7A (x:=(x1,0,2)) (⟨s0,fk0,fkn 2⟩) h1.2 F;have:=J3.1 h1.1.1;have:1<=(2:Int)/\(2:Int)<=8/\0<=(0:Int)/\(0:Int)<=J0 x1/\(2:Int)<=J0 x1-(0:Int)/\((2:Int)<=4->0<=k.1/\k.1<=4294967295)/\((2:Int)=1->k.1<=255)/\((2:Int)=2->k.1<=65535):=v4.1;have:=JFu 24 k.1;refine .lt (λJ=>?_) λJ=>?_
  ·exact .some (⟨Jc,fkn 5⟩)
  ·refine .gt (λv=>?_) λv=>?_
   ·exact .some (⟨Jc,fkn 4⟩)
   ·refine Jf (τ:=Jeu) (λq=>(x1,k.1,q.1,[],q.2)) (λq=>(zFt 0 0 zI q.1/\0<=q.1/\(q.1<=k.1\/q.1<=0))/\(zFt 65535 0 (.l Jd) q.2/\J0 q.2<=1*q.1+0)) (λq=>k.1-q.1) ?_ (0,[]) rfl ?_
    ·rintro⟨e,g⟩ n;dsimp only at n;obtain⟨⟨D,M,L⟩,j,K⟩:=n;unfold J9E
     try dsimp only
     have:=J3.1 D;refine .lt (λI=>?_) λI=>?_
     ·refine .bind ((J1i (B:=0) (S:=S) (x1:=(x1,J1 .i64 2 (J2u .i64 24 e),8)) (⟨s0,J8,fkn 8⟩)).eqn) λR G=>.bind ((J1i (B:=0) (S:=S) (x1:=(x1,J1 .i64 10 (J2u .i64 24 e),8)) (⟨s0,J8,fkn 8⟩)).eqn) λP E=>.bind ((J1i (B:=0) (S:=S) (x1:=(x1,J1 .i64 18 (J2u .i64 24 e),8)) (⟨s0,J8,fkn 8⟩)).eqn) λQ z=>?_;have:J0 g<=65535:=j.1;have:=J4 (l:=g);have:J0 g=_:=Jk j;refine .bind (J0x (B:=65535) (Bl:=65535) (Bm:=1) (S:=0) (J0 g) 1 j (J0j (B:=1) (S:=0) (t:=Jd) oo (⟨G.1.1,E.1.1,z.1.1⟩))) λw r=>?_;have:=Jb e 1;have:J0 w=_:=Jk r.1;exact .some ⟨(J1 .i64 e 1,w),rfl,⟨⟨J8,om,om⟩,r.1,om⟩,om,om⟩
     ·refine .inr ?_;refine .bind ((J5V j).eqn) λO C=>.not (λo=>?_) λo=>?_
      ·exact .some (⟨Jc,fkn 28⟩)
      ·have A:=J4R j C.2 o;have H:zFt 64 0 (.l Jd) g:=A.2;exact .some (⟨H,fk0⟩)
    ·have:J0 ([]:List T_api_Row)=0:=rfl
     try dsimp only
     exact⟨⟨fk0,oo,oo⟩,Jc,oo⟩
 ·exact .some (⟨Jc,fkn 5⟩)
theorem J2i{B S:Int}{x1:JuW}(h:zFt B S JvZ x1)(p0:0<=x1.2.2.1)(n:x1.2.2.1<=J0 x1.2.1)(k:BS B S 0 0:=by omega)(o:S<=9223372036854775807:=by omega):Tot (J1a x1) λy=>zFt 0 S JvZ y/\(0<=y.2.2.1/\y.2.2.1<=J0 y.2.1/\(x1.1<=4->0<=y.1/\y.1<=4294967295)/\(x1.1=1->y.1<=255)/\(x1.1=2->y.1<=65535)):=by
 unfold J1a;have s0:zFt 0 S JvZ x1:=h;have:=J3.1 s0.2.2.1;have:J0 x1.2.1<=S:=s0.2.1;refine .bind ((J1i (B:=0) (S:=S) (x1:=(x1.2.1,x1.2.2.1,x1.1)) (⟨s0.2.1,s0.2.2.1,s0.1⟩)).eqn) λe h4=>.itf (λj=>?_) λj=>?_
 ·have:=J3.1 h4.1.2;refine .ne (λg=>?_) λg=>?_
  ·have:=J3.1 s0.1;exact .some ⟨(⟨fk0,s0.2.1,s0.2.2.1,trivial⟩),om⟩
  ·have v9:=J7A (x:=(x1.2.1,x1.2.2.1,x1.1)) (⟨s0.2.1,s0.2.2.1,s0.1⟩) h4.2 g;have:=J3.1 s0.1;have:=J3.1 h4.1.1;have:1<=x1.1/\x1.1<=8/\0<=x1.2.2.1/\x1.2.2.1<=J0 x1.2.1/\x1.1<=J0 x1.2.1-x1.2.2.1/\(x1.1<=4->0<=e.1/\e.1<=4294967295)/\(x1.1=1->e.1<=255)/\(x1.1=2->e.1<=65535):=v9.1;have:=Jb x1.2.2.1 x1.1;exact .some ⟨(⟨h4.1.1,s0.2.1,J8,trivial⟩),om⟩
 ·have:=J3.1 s0.1;exact .some ⟨(⟨fk0,s0.2.1,s0.2.2.1,trivial⟩),om⟩
theorem JaJ{B S:Int}{x1:JuW}(h:zFt B S JvZ x1)(p0:1<=x1.1)(O:x1.1<=2)(N:0<=x1.2.2.1)(M:x1.2.2.1<=J0 x1.2.1)(K:BS B S 0 0:=by omega)(P:S<=9223372036854775807:=by omega):Tot (J45 x1) λy=>zFt 65535 S (.pr (.l zI) J0z) y/\(0<=y.2.2.1/\y.2.2.1<=J0 y.2.1):=by
 unfold J45;have s0:zFt 0 S JvZ x1:=h;refine .bind (J2i (B:=0) (S:=S) (s0) om om) λe h5=>?_;have:=J3.1 h5.1.c.1;have:=J3.1 h5.1.1;have:0<=e.2.2.1/\e.2.2.1<=J0 e.2.1/\(x1.1<=4->0<=e.1/\e.1<=4294967295)/\(x1.1=1->e.1<=255)/\(x1.1=2->e.1<=65535):=h5.2;refine Jf (τ:=JF9) (λq=>(q.1,q.2.1,q.2.2)) (λq=>zFt 0 0 zI q.1/\zFt 0 S J0z q.2.1/\zFt 65535 0 (.l zI) q.2.2/\(J0 q.2.2+q.1<=65535)/\(0<=q.1)/\(J0 q.2.2<=65535)/\(0<=q.2.1.2.1)/\(q.2.1.2.1<=J0 q.2.1.1)) (λq=>q.1) ?_ (e.1,e.2,[]) rfl ?_
 ·rintro⟨o,E,n⟩ r;dsimp only at r;obtain⟨D,g,k,J,I,L,G,H⟩:=r;unfold J9X
  try dsimp only
  have:=J4 (l:=n);have:=J3.1 D;have:=J3.1 g.2.1;refine .gt (λz=>?_) λz=>?_
  ·refine .not (λA=>?_) λA=>?_
   ·refine .bind (J2i (B:=0) (S:=S) (⟨fkn 8,g⟩) om om) λF j=>?_;have:=J3.1 j.1.c.1;refine .bind (J0x (B:=65536) (Bl:=65535) (Bm:=1) (S:=0) (J0 n) 1 k (J0j (B:=1) (S:=0) (t:=zI) oo j.1.1)) λv C=>?_;have w:zFt 65535 0 (.l zI) v:=⟨(by omega:J0 v<=65535),λx hx=>C.1.2 x hx⟩;have:=J0o o 1;exact .some ⟨(JH .i64 o 1,F.2,v),rfl,⟨J2f,j.1.2,w,om,om,om,om,om⟩,om,om⟩
   ·exact .some ⟨(⟨k.u,g.u⟩),om⟩
  ·exact .some ⟨(⟨k.u,g.u⟩),om⟩
 ·try dsimp only
  exact⟨h5.1.1,h5.1.2,Jc,om,om,om,om,om⟩
theorem Jnc{B S:Int}{x1:List UInt8}(h:zFt B S .s x1)(a3:BS B S 0 0:=by omega)(hS:S<=9223372036854775807:=by omega):Tot (J8H x1) λy=>zFt 4096 0 tq2 y:=by
 unfold J8H;have:=J4 (l:=x1);refine .bind (J2i (B:=0) (S:=S) (⟨fkn 2,h.z,fk0,trivial⟩) om om) λk h1=>?_;have:=J3.1 h1.1.c.1;have:=J3.1 h1.1.1;have:0<=k.2.2.1/\k.2.2.1<=J0 k.2.1/\0<=k.1/\k.1<=65535:=⟨h1.2.1,h1.c.1,(h1.d.1 (show(2:Int)<=4 by decide)).1,h1.g rfl⟩;refine Jf (τ:=Int×J2F×(List Jo)) (λq=>(x1,q.1,q.2.1,q.2.2)) (λq=>zFt 0 0 zI q.1/\zFt 0 S J0z q.2.1/\zFt 65535 S (.l Jm) q.2.2/\(J0 q.2.2+q.1<=65535)/\(J0 q.2.2<=65535)/\(0<=q.2.1.2.1)/\(q.2.1.2.1<=J0 q.2.1.1)/\(0<=q.1)) (λq=>q.1) ?_ (k.1,k.2,[]) rfl ?_
 ·rintro⟨r,V,e⟩ E;dsimp only at E;obtain⟨W,K,j,a1,Z,a2,a0,a5⟩:=E;unfold JcI
  try dsimp only
  have:=J4 (l:=e);have:J0 e=_:=Jk j;have:=J3.1 W;refine .gt (λN=>?_) λN=>?_
  ·refine .not (λI=>?_) λI=>?_
   ·refine .bind (J2i (B:=0) (S:=S) (⟨fkn 4,K⟩) om om) λy4 x=>?_;have:=J3.1 x.1.c.1;refine .bind (J2i (B:=0) (S:=S) (⟨fkn 1,x.1.2⟩) om om) λy5 A=>?_;have:=J3.1 A.1.c.1;refine .bind (J2i (B:=0) (S:=S) (⟨fkn 8,A.1.2⟩) om om) λy6 C=>?_;have:=J3.1 C.1.c.1;refine .bind (J2i (B:=0) (S:=S) (⟨fkn 8,C.1.2⟩) om om) λy7 v=>?_;have:=J3.1 v.1.c.1;refine .bind (JaJ (B:=0) (S:=S) (⟨fkn 2,v.1.2⟩) om om om om) λy8 w=>?_;have:=J3.1 w.1.2.z.2.1;refine .bind (JaJ (B:=0) (S:=S) (⟨fkn 1,w.1.2.z⟩) om om om om) λY D=>?_;have:=J3.1 D.1.2.z.2.1;refine .bind (J0x (B:=65535) (Bl:=65535) (Bm:=65535) (S:=S) (J0 e) 1 j (J0j (B:=65535) (S:=S) (t:=Jm) oo (⟨x.1.1,A.1.1,C.1.1,v.1.1,w.1.1,D.1.1⟩))) λn o=>?_;have:J0 n<=65535:=o.1.1;have:=J4 (l:=n);have:J0 n=_:=Jk o.1;have:=J0o r 1;exact .some ⟨(JH .i64 r 1,Y.2,n),rfl,⟨J2f,D.1.2.z,o.1,om,om,om,om,om⟩,om,om⟩
   ·refine .inr ?_;refine .ite (λR=>?_) λR=>?_
    ·exact .some (⟨Jc,fkn 5⟩)
    ·refine .ne (λM=>?_) λM=>?_
     ·exact .some (⟨Jc,fkn 4⟩)
     ·refine .bind ((J3V j).eqn) λa6 T=>.not (λF=>?_) λF=>?_
      ·exact .some (⟨Jc,fkn 15⟩)
      ·have O:=J2X j T.2 F;have Q:zFt 4096 0 (.l Jm) e:=O.2;exact .some (⟨Q,fk0⟩)
  ·refine .inr ?_;refine .ite (λP=>?_) λP=>?_
   ·exact .some (⟨Jc,fkn 5⟩)
   ·refine .ne (λJ=>?_) λJ=>?_
    ·exact .some (⟨Jc,fkn 4⟩)
    ·refine .bind ((J3V j).eqn) λa4 U=>.not (λG=>?_) λG=>?_
     ·exact .some (⟨Jc,fkn 15⟩)
     ·have L:=J2X j U.2 G;have H:zFt 4096 0 (.l Jm) e:=L.2;exact .some (⟨H,fk0⟩)
 ·try dsimp only
  exact⟨h1.1.1,h1.1.2,Jc,om,om,om,om,om⟩
theorem Jpb{B S:Int}{x1:List UInt8}(h:zFt B S .s x1)(ac:BH B S:=by omega)(hS:S<=9223372036854775807:=by omega):Tot (J35 x1) λy=>zFt 4096 0 (.pr J1e zI) y:=by
 unfold J35;have s0:zFt 0 S .s x1:=h;refine .bind ((J1i (B:=0) (S:=S) (x1:=(x1,0,2)) (⟨s0,fk0,fkn 2⟩)).eqn) λy2 h1=>.bind ((J1i (B:=0) (S:=S) (x1:=(x1,2,4)) (⟨s0,fkn 2,fkn 4⟩)).eqn) λJ h2=>.bind ((J1i (B:=0) (S:=S) (x1:=(x1,6,4)) (⟨s0,fkn 6,fkn 4⟩)).eqn) λg h3=>.nef (λN=>?_) λN=>?_
 ·have v6:=J7A (x:=(x1,6,4)) (⟨s0,fkn 6,fkn 4⟩) h3.2 N;have:J0 x1<=S:=s0;have:=J3.1 h3.1.1;have:1<=(4:Int)/\(4:Int)<=8/\0<=(6:Int)/\(6:Int)<=J0 x1/\(4:Int)<=J0 x1-(6:Int)/\((4:Int)<=4->0<=g.1/\g.1<=4294967295)/\((4:Int)=1->g.1<=255)/\((4:Int)=2->g.1<=65535):=v6.1;have:=JnF (J0 x1) 10;refine .gt (λK=>?_) λK=>?_
  ·exact .some (⟨fzr,fkn 5⟩)
  ·have:=Jdn 10 g.1;refine .bind (JcS s0) λM F=>?_;have L:zFt 0 S .s M:=F.1;refine .bind ((J1i (B:=0) (S:=S) (x1:=(x1,J1 .i64 10 g.1,1)) (⟨s0,J8,fkn 1⟩)).eqn) λk A=>.nef (λz=>?_) λz=>?_
   ·have v20:=J7A (x:=(x1,J1 .i64 10 g.1,1)) (⟨s0,J8,fkn 1⟩) A.2 z;have:=J3.1 A.1.1;have:1<=(1:Int)/\(1:Int)<=8/\0<=(J1 .i64 10 g.1)/\(J1 .i64 10 g.1)<=J0 x1/\(1:Int)<=J0 x1-(J1 .i64 10 g.1)/\((1:Int)<=4->0<=k.1/\k.1<=4294967295)/\((1:Int)=1->k.1<=255)/\((1:Int)=2->k.1<=65535):=v20.1;have:=JnF (J0 x1) (J1 .i64 10 g.1);have:=JnF (JH .i64 (J0 x1) (J1 .i64 10 g.1)) 1;have:=JFu 17 k.1;refine .lt (λW=>?_) λW=>?_
    ·exact .some (⟨fzr,fkn 5⟩)
    ·refine Jf (τ:=Int×Int×(List T_api_Row)) (λq=>(x1,M,q.1,k.1,q.2.1,[],0,0,[],[],q.2.2,y2.1,J.1,[],[])) (λq=>zFt 0 0 zI q.1/\zFt 0 0 zI q.2.1/\zFt 255 0 (.l Jd) q.2.2/\(0<=q.2.1)/\(q.2.1<=k.1)/\(q.1+17*(k.1-q.2.1)<=J0 x1)/\(0<=q.1)/\(J0 q.2.2<=q.2.1)) (λq=>k.1-q.2.1) ?_ (J1 .i64 (J1 .i64 10 g.1) 1,0,[]) rfl ?_
     ·rintro⟨j,r,e⟩ E;dsimp only at E;obtain⟨C,H,n,a8,ad,ab,aa,a7⟩:=E;unfold J9P
      try dsimp only
      have:=J3.1 H;have:=J3.1 C;have:J0 e<=255:=n.1;have:=J4 (l:=e);have:J0 e=_:=Jk n;refine .lt (λG=>?_) λG=>?_
      ·refine .bind ((J1i (B:=0) (S:=S) (x1:=(x1,j,1)) (⟨s0,C,fkn 1⟩)).eqn) λy8 Y=>.bind ((J1i (B:=0) (S:=S) (x1:=(x1,J1 .i64 j 1,8)) (⟨s0,J8,fkn 8⟩)).eqn) λy9 Q=>.bind ((J1i (B:=0) (S:=S) (x1:=(x1,J1 .i64 j 9,8)) (⟨s0,J8,fkn 8⟩)).eqn) λa5 U=>.bind (J0x (B:=256) (Bl:=255) (Bm:=1) (S:=0) (J0 e) 1 n (J0j (B:=1) (S:=0) (t:=Jd) oo (⟨Y.1.1,Q.1.1,U.1.1⟩))) λo D=>?_;have:J0 o=_:=Jk D.1;have a1:zFt 255 0 (.l Jd) o:=⟨(by omega:J0 o<=255),λx hx=>D.1.2 x hx⟩;have:=Jdn r 1;have:=Jdn j 17;exact .some ⟨(J1 .i64 j 17,J1 .i64 r 1,o),rfl,⟨J8,J8,a1,om,om,om,om,om⟩,om,om⟩
      ·refine .inr ?_;refine .bind (Jnc L) λV w=>.ne (λR=>?_) λR=>?_
       ·exact .some (⟨fzr,w.2⟩)
       ·refine .bind (JwK s0) λI O=>?_;have P:zFt 0 S .s I:=O.1;refine .bind (JoE P) λT v=>.ne (λZ=>?_) λZ=>?_
        ·exact .some (⟨fzr,v.2⟩)
        ·have a0:zFt 16384 1073741824 J1e (y2.1,J.1,V.1,e,T.1):=⟨h1.1.1,h2.1.1,w.1.u,n.u,v.1.u⟩;refine .bind (Jhh a0) λa9 a6=>.not (λa2=>?_) λa2=>?_
         ·exact .some (⟨fzr,fkn 24⟩)
         ·exact .some (⟨⟨h1.1.1,h2.1.1,w.1,n.u,v.1.u⟩,fk0⟩)
     ·have:=Jdn (J1 .i64 10 g.1) 1
      try dsimp only
      exact⟨J8,fk0,Jc,om,om,om,om,om⟩
   ·exact .some (⟨fzr,fkn 5⟩)
 ·exact .some (⟨fzr,fkn 5⟩)
theorem Jpj{B S:Int}{x1:JO}(h:zFt B S JU x1)(E:BG B S:=by omega):Tot (J49 x1) λy=>zFt 4096 0 (.pr J1e (.pr zI .b)) y:=by
 unfold J49;refine .bind ((J2y h).eqn) λI h1=>.not (λo=>?_) λo=>?_
 ·exact .some (⟨fzr,fk0,trivial⟩)
 ·have v3:=J27 h h1.2 o;have:=J4 (l:=x1.2.1);have:J0 x1.2.1=_:=Jk h.2.1;have h10:zFt 4096 8192 JU x1:=v3.2;have:=J0o (J0 x1.2.1) 1;refine Jf (τ:=Int) (λq=>(q,x1,0,0,[],[],[])) (λq=>(zFt 0 0 zI q/\q<=JH .i64 (J0 x1.2.1) 1)) (λq=>q-0) ?_ (JH .i64 (J0 x1.2.1) 1) rfl ?_
  ·rintro e ⟨w,D⟩;unfold J9O
   try dsimp only
   have:=J3.1 w;refine .ge (λk=>?_) λk=>?_
   ·refine .bind (Jh h10.2.1) λH C=>.ne (λj=>?_) λj=>?_
    ·have:=J0o e 1;exact .some ⟨JH .i64 e 1,rfl,⟨J2f,om⟩,om,om⟩
    ·refine .bind (Jh h10.2.1) λA n=>?_;have x:zFt 16384 1073741824 .s A.2.2.2.2.2.2.2:=n.1.z.2.2.2.2.2.2.2.u;refine .bind (Jpb x) λG g=>.eq (λr=>?_) λr=>?_
     ·refine .bind (Jh h10.2.1) λF v=>.some (⟨g.1,v.1.z.1,trivial⟩)
     ·have:=J0o e 1;exact .some ⟨JH .i64 e 1,rfl,⟨J2f,om⟩,om,om⟩
   ·exact .some (⟨fzr,fk0,trivial⟩)
  ·try dsimp only
   exact⟨J2f,oo⟩
theorem Jqq{B S:Int}{x1:J6z}(h:zFt B S tq8 x1)(j:BG B S:=by omega):Tot (J4J x1) λy=>zFt 4096 0 Jw3 y:=by
 unfold J4J;refine .bind (Jpj h.1) λn h1=>.not (λe=>?_) λe=>?_
 ·have:=J3.1 h.1.1;refine .gt (λc3=>?_) λc3=>?_
  ·exact .some (⟨fzr,fkn 24⟩)
  ·refine .bind (JjE h.2) λk h5=>.some (⟨⟨h.2,fkn 1,fk0,Jc,Jc,Jc,h5.1.u⟩,fk0⟩)
 ·have:=J3.1 h1.1.1;refine .ne (λg=>?_) λg=>?_
  ·exact .some (⟨fzr,fkn 24⟩)
  ·exact .some (⟨⟨h.2,h1.1.2.1,h1.2.1,h1.1.c.1,Jc,h1.1.d⟩,fk0⟩)
end Go.Am
end
section
namespace Go.Am
set_option linter.unusedVariables false
set_option maxRecDepth 20000
set_option maxHeartbeats 4000000
section
variable {B S:Int}
theorem JdQ{un:List T_api_Row}{n:J2}(h:zFt B S (.l Jd) un)(hn:zFt B S J5 n)(M:BS B S 0 0:=by omega)(Q:B<=17179869183:=by omega):Tot (Jg Jaw (un,false,0,n,[])) λy=>zFt (B+1) S (.l Jd) y/\J0 y<=J0 un+1:=by
 have hl:J0 un<=B:=h.1;have G:=J4 (l:=un);refine Jf (τ:=Bool×Int×List T_api_Row) (λq=>(un,q.1,q.2.1,n,q.2.2)) (λq=>0<=q.2.1/\q.2.1<=J0 un/\zFt (B+1) S (.l Jd) q.2.2/\J0 q.2.2<=q.2.1+1/\(q.1=false->J0 q.2.2<=q.2.1)) (λq=>J0 un-q.2.1) ?_ (false,0,[]) rfl ⟨J0F _,G,Jc,by show(0:Int)<=0+1;omega,λ_=>J0F _⟩;rintro⟨done,i,out⟩ ⟨E,h1,h2,h3,h4⟩;dsimp only at E h1 h2 h3 h4;unfold Jaw;dsimp only;have:=Jb i 1;have app: ∀{x:T_api_Row} {l:List T_api_Row},zFt (B+1) S (.l Jd) l->zFt (B+1) S Jd x->J0 l+1<=B+1->Tot (JA 24 l [x]) λr=>zFt (B+1) S (.l Jd) r/\J0 r=J0 l+1:=λhl hx I=>
  (J0x (B:=B+1) (Bl:=B+1) (Bm:=B+1) (S:=S) _ 1 hl (J0j oo hx) rfl rfl (J0F _) (J0F _) I oo (by decide)).mono λ_ h=>⟨h.1,h.2.1⟩
 have k:zFt (B+1) S Jd (n.2.2.2.2.2.2.1.1,n.1,n.1):=⟨hn.2.2.2.2.2.2.1.1,hn.1,hn.1⟩;have w:Tot (Jz n) λ_=>True:=(J1U hn).mono λ_ _=>trivial;have o: ∀{d:Bool} {l:List T_api_Row},i<J0 un->zFt (B+1) S (.l Jd) l->J0 l<=i+2->(d=false->J0 l<=i+1)->(∃c':Bool×Int×List T_api_Row,(un,d,J1 .i64 i 1,n,l)=(un,c'.1,c'.2.1,n,c'.2.2)/\(0<=c'.2.1/\c'.2.1<=J0 un/\zFt (B+1) S (.l Jd) c'.2.2/\J0 c'.2.2<=c'.2.1+1/\(c'.1=false->J0 c'.2.2<=c'.2.1))/\J0 un-c'.2.1<J0 un-i/\0<=J0 un-i):=fun{d l} a1 a2 a3 a4=>
  ⟨(d,J1 .i64 i 1,l),rfl,⟨by show 0<=J1 .i64 i 1;omega,by show J1 .i64 i 1<=_;omega,a2,by show J0 l<=J1 .i64 i 1+1;omega,λe=>by show J0 l<=J1 .i64 i 1;have:=a4 e;omega⟩,by show J0 un-J1 .i64 i 1<J0 un-i;omega,oo⟩
 refine .lt (λc=>?_) λc=>Tot.map (P:=λy:List T_api_Row=>zFt (B+1) S (.l Jd) y/\J0 y<=J0 un+1) ?_ λ_ h=>h
 ·have L:Tot (idx un i) λr=>zFt (B+1) S Jd r:=(Jh h E c).mono λ_ h=>h.1.u;refine .bind L λg f4=>?_
  have body: ∀{d:Bool} {l:List T_api_Row},zFt (B+1) S (.l Jd) l->J0 l<=i+1->(d=false->J0 l<=i)->Tot (ρ:=(TQ29)⊕(List T_api_Row)) (if eqI g.1 n.2.2.2.2.2.2.1.1 then
     (Jz n).bind λA=>
     if A then
      (JA 24 l [(g.1,g.2.1,n.1)]).bind λF=>
      some (.inl (un,true,J1 .i64 i 1,n,F))
     else
      if geI n.2.2.2.2.2.1 g.2.2 then
       some (.inl (un,true,J1 .i64 i 1,n,l))
      else
       if geI n.2.2.2.2.2.1 g.2.1 then
        (JA 24 l [(g.1,J1 .i64 n.2.2.2.2.2.1 1,g.2.2)]).bind λv=>
        some (.inl (un,true,J1 .i64 i 1,n,v))
       else
        (JA 24 l [g]).bind λD=>
        some (.inl (un,true,J1 .i64 i 1,n,D))
    else
     (JA 24 l [g]).bind λJ=>
     some (.inl (un,d,J1 .i64 i 1,n,J))) λr=>match r with
      | .inl z=> ∃c':Bool×Int×List T_api_Row,z=(un,c'.1,c'.2.1,n,c'.2.2)/\(0<=c'.2.1/\c'.2.1<=J0 un/\zFt (B+1) S (.l Jd) c'.2.2/\J0 c'.2.2<=c'.2.1+1/\(c'.1=false->J0 c'.2.2<=c'.2.1))/\J0 un-c'.2.1<J0 un-i/\0<=J0 un-i
      | .inr y=>zFt (B+1) S (.l Jd) y/\J0 y<=J0 un+1:=fun{d l} b1 b2 K=>
   .eq (λ_=>.bind w λA _=>.ite (λ_=>.bind (app b1 ⟨f4.1,f4.2.1,hn.1⟩ oo) λF C=>.some (o c C.1 (by have:=C.2;omega) λe=>by cases e)) λ_=>.ge (λ_=>.some (o c b1 oo λe=>by cases e)) λ_=>.ge (λ_=>.bind (app b1 ⟨f4.1,J8,f4.2.2⟩ oo) λv j=>.some (o c j.1 (by have:=j.2;omega) λe=>by cases e)) λ_=>.bind (app b1 f4 oo) λv j=>.some (o c j.1 (by have:=j.2;omega) λe=>by cases e)) λ_=>.bind (app b1 f4 oo) λv j=>.some (o c j.1 (by have:=j.2;omega) λe=>by have:=j.2;have:=K e;omega)
  refine .gt (λ_=>.not (λd=>.bind w λN _=>.ite (λ_=>.bind (app h2 k (by have:=h4 d;omega)) λO H=>?_) λ_=>?_) λd=>?_) λ_=>?_
  ·exact(body (d:=true) H.1 (by have:=H.2;have:=h4 d;omega) λe=>by cases e).mono λr h=>by cases r<;>exact h
  all_goals
   exact(body (d:=done) h2 h3 h4).mono λr h=>by cases r<;>exact h
 ·exact .not (λd=>.bind w λy _=>.ite (λ_=>.bind (app h2 k (by have:=h4 d;omega)) λy f=>.some ⟨f.1,by have:=f.2;have:=h4 d;omega⟩) λ_=>.some ⟨h2,oo⟩) λ_=>.some ⟨h2,oo⟩
theorem J62{x1:JB9}(h:zFt B S Jpc x1)(e:BS B S 0 0:=by omega)(g:B<=17179869183:=by omega):Tot (J1n x1) λy=>zFt (B+1) S (.l Jd) y/\J0 y<=J0 x1.1+1:=by unfold J1n;refine .bind (J1U h.2) λj _=>.not (λ_=>.ne (λ_=>.some ⟨h.1.u,oo⟩) λ_=>JdQ h.1 h.2) λ_=>JdQ h.1 h.2
end
theorem JuE{B S:Int}{x1:J1v×J2}(h:zFt B S (.pr J37 J5) x1)(p0:J0 x1.1.2.2.2.2.2.1<=16000)(aj:BG B S:=by omega):Tot (J5t x1) λy=>zFt B S Jw3 y/\(J0 y.1.2.2.2.2.2.1<=J0 x1.1.2.2.2.2.2.1+1):=by
 unfold J5t;have h4:zFt 16000 S (.l Jd) x1.1.2.2.2.2.2.1:=⟨(by omega:J0 x1.1.2.2.2.2.2.1<=16000),λx hx=>h.1.g.1.2 x hx⟩;refine .gt (λc5=>?_) λc5=>?_
 ·refine .bind ((J3h (B:=B) (S:=S) (x1:=(x1.1.2.2.2.1,x1.2.2.2.1)) (⟨h.1.d.1,h.2.z.2.2.1⟩)).eqn) λy2 h7=>.lt (λa3=>?_) λa3=>?_
  ·refine .bind (JgW (B:=B) (S:=S) (⟨h.1.d.1,h.2.z.2.2.1⟩)) λy3 v=>.ne (λZ=>?_) λZ=>?_
   ·exact .some ⟨(⟨h.1,v.2⟩),om⟩
   ·have a6:zFt 16384 S Jp9 (y3.1,x1.2):=⟨v.1.u,h.2.z.u⟩;refine .bind (J5J a6) λy4 j=>.ne (λa1=>?_) λa1=>?_
    ·exact .some ⟨(⟨⟨h.1.1,h.1.2.1,h.1.c.1,v.1.u,h.1.e⟩,j.2⟩),om⟩
    ·refine .bind (J5q (B:=B) (S:=S) (⟨h.1.h,h.2.z.u⟩)) λy5 q=>.ne (λa0=>?_) λa0=>?_
     ·exact .some ⟨(⟨⟨h.1.1,J4B h.1.2.1 J8,h.1.c.1,j.1.u,h.1.e⟩,q.2⟩),om⟩
     ·refine .bind (J1U (B:=0) (S:=S) h.2.z) λy6 ae=>.ite (λO=>?_) λO=>?_
      ·have:=J3.1 h.2.z.2.2.2.2.2.2.1.1;refine .ge (λP=>?_) λP=>?_
       ·exact .some ⟨(⟨⟨h.1.1,J4B h.1.2.1 J8,h.1.c.1,j.1.u,h.1.e.1,h4.u,q.1.u⟩,fkn 1⟩),om⟩
       ·refine .bind (J62 (B:=16000) (S:=S) (⟨h4,h.2.z.u⟩)) λL F=>?_;have W:zFt 16001 S (.l Jd) L:=F.1.u;have:J0 L<=J0 x1.1.2.2.2.2.2.1+1:=F.2;exact .some ⟨(⟨⟨h.1.1,J4B h.1.2.1 J8,h.1.c.1,j.1.u,h.1.e.1,W.u,q.1.u⟩,fk0⟩),om⟩
      ·refine .bind (J62 (B:=16000) (S:=S) (⟨h4,h.2.z.u⟩)) λY w=>?_;have M:zFt 16001 S (.l Jd) Y:=w.1.u;have:J0 Y<=J0 x1.1.2.2.2.2.2.1+1:=w.2;exact .some ⟨(⟨⟨h.1.1,J4B h.1.2.1 J8,h.1.c.1,j.1.u,h.1.e.1,M.u,q.1.u⟩,fk0⟩),om⟩
  ·refine .bind (J5J (B:=B) (S:=S) (⟨h.1.d.1,h.2.z.u⟩)) λy9 k=>.ne (λa8=>?_) λa8=>?_
   ·exact .some ⟨(⟨h.1,k.2⟩),om⟩
   ·refine .bind (J5q (B:=B) (S:=S) (⟨h.1.h,h.2.z.u⟩)) λac r=>.ne (λa5=>?_) λa5=>?_
    ·exact .some ⟨(⟨⟨h.1.1,J4B h.1.2.1 J8,h.1.c.1,k.1.u,h.1.e⟩,r.2⟩),om⟩
    ·refine .bind (J1U (B:=0) (S:=S) h.2.z) λai ah=>.ite (λa4=>?_) λa4=>?_
     ·have:=J3.1 h.2.z.2.2.2.2.2.2.1.1;refine .ge (λK=>?_) λK=>?_
      ·exact .some ⟨(⟨⟨h.1.1,J4B h.1.2.1 J8,h.1.c.1,k.1.u,h.1.e.1,h4.u,r.1.u⟩,fkn 1⟩),om⟩
      ·refine .bind (J62 (B:=16000) (S:=S) (⟨h4,h.2.z.u⟩)) λG J=>?_;have a2:zFt 16001 S (.l Jd) G:=J.1.u;have:J0 G<=J0 x1.1.2.2.2.2.2.1+1:=J.2;exact .some ⟨(⟨⟨h.1.1,J4B h.1.2.1 J8,h.1.c.1,k.1.u,h.1.e.1,a2.u,r.1.u⟩,fk0⟩),om⟩
     ·refine .bind (J62 (B:=16000) (S:=S) (⟨h4,h.2.z.u⟩)) λC H=>?_;have R:zFt 16001 S (.l Jd) C:=H.1.u;have:J0 C<=J0 x1.1.2.2.2.2.2.1+1:=H.2;exact .some ⟨(⟨⟨h.1.1,J4B h.1.2.1 J8,h.1.c.1,k.1.u,h.1.e.1,R.u,r.1.u⟩,fk0⟩),om⟩
 ·refine .bind (J5J (B:=B) (S:=S) (⟨h.1.d.1,h.2.z.u⟩)) λaf n=>.ne (λU=>?_) λU=>?_
  ·exact .some ⟨(⟨h.1,n.2⟩),om⟩
  ·refine .bind (J5q (B:=B) (S:=S) (⟨h.1.h,h.2.z.u⟩)) λad o=>.ne (λT=>?_) λT=>?_
   ·exact .some ⟨(⟨⟨h.1.1,J4B h.1.2.1 J8,h.1.c.1,n.1.u,h.1.e⟩,o.2⟩),om⟩
   ·refine .bind (J1U (B:=0) (S:=S) h.2.z) λag ab=>.ite (λV=>?_) λV=>?_
    ·have:=J3.1 h.2.z.2.2.2.2.2.2.1.1;refine .ge (λQ=>?_) λQ=>?_
     ·exact .some ⟨(⟨⟨h.1.1,J4B h.1.2.1 J8,h.1.c.1,n.1.u,h.1.e.1,h4.u,o.1.u⟩,fkn 1⟩),om⟩
     ·refine .bind (J62 (B:=16000) (S:=S) (⟨h4,h.2.z.u⟩)) λD A=>?_;have N:zFt 16001 S (.l Jd) D:=A.1.u;have:J0 D<=J0 x1.1.2.2.2.2.2.1+1:=A.2;exact .some ⟨(⟨⟨h.1.1,J4B h.1.2.1 J8,h.1.c.1,n.1.u,h.1.e.1,N.u,o.1.u⟩,fk0⟩),om⟩
    ·refine .bind (J62 (B:=16000) (S:=S) (⟨h4,h.2.z.u⟩)) λE I=>?_;have a7:zFt 16001 S (.l Jd) E:=I.1.u;have:J0 E<=J0 x1.1.2.2.2.2.2.1+1:=I.2;exact .some ⟨(⟨⟨h.1.1,J4B h.1.2.1 J8,h.1.c.1,n.1.u,h.1.e.1,a7.u,o.1.u⟩,fk0⟩),om⟩
theorem JlA{B S:Int}{x1:J6z}(h:zFt B S tq8 x1)(a9:BG B S:=by omega):Tot (J3G x1) λy=>zFt 400000001 1073741824 Jw3 y:=by
 unfold J3G;refine .bind ((J2y h.1).eqn) λy2 h1=>.not (λO=>?_) λO=>?_
 ·exact .some (⟨fzr,fkn 26⟩)
 ·have v3:=J27 h.1 h1.2 O;have:=J4 (l:=x1.1.2.1);have:J0 x1.1.2.1=_:=Jk h.1.2.1;have h10:zFt 4096 8192 JU x1.1:=v3.2;refine .ltf (λM=>?_) λM=>?_
  ·refine .gt (λR=>?_) λR=>?_
   ·exact .some (⟨fzr,fkn 1⟩)
   ·have N:zFt 16384 1073741824 tq8 (x1.1,x1.2):=⟨h10.u,h.2⟩;refine .bind (Jqq N) λC A=>.ne (λZ=>?_) λZ=>?_
    ·exact .some (⟨fzr,A.2⟩)
    ·refine Jf (τ:=Int×J1v) (λq=>(q.1,x1.1,(0,0,0,[],[],[],[]),q.2)) (λq=>zFt 0 0 zI q.1/\zFt 16384 1073741824 J37 q.2/\(0<=q.1)/\(q.1<=J0 x1.1.2.1)/\(J0 q.2.2.2.2.2.2.1<=4096+q.1)) (λq=>J0 x1.1.2.1-q.1) ?_ (0,C.1) rfl ?_
     ·rintro⟨r,e⟩ G;dsimp only at G;obtain⟨U,j,z20,a5,z22⟩:=G;unfold J91
      try dsimp only
      have:=J3.1 U;have:J0 e.2.2.2.2.2.1<=16384:=j.2.2.2.2.2.1.1;have:=J4 (l:=e.2.2.2.2.2.1);have:J0 e.2.2.2.2.2.1=_:=Jk j.2.2.2.2.2.1;refine .lt (λT=>?_) λT=>?_
      ·refine .bind (Jh h10.2.1) λy5 a2=>.le (λJ=>?_) λJ=>?_
       ·have a3:zFt 8192 1073741824 (.l Jd) e.2.2.2.2.2.1:=⟨(by omega:J0 e.2.2.2.2.2.1<=8192),λx hx=>j.2.2.2.2.2.1.2 x hx⟩;have:=Jb r 1;exact .some ⟨(J1 .i64 r 1,e),rfl,⟨J8,j,om,om,om⟩,om,om⟩
       ·refine .bind (Jh h10.2.1) λy6 W=>.bind (JuE (B:=16384) (S:=1073741824) (⟨j,W.1.z.u⟩) om) λw D=>?_;have v:zFt 16384 1073741824 Jw3 w:=D.1.u;have:J0 w.1.2.2.2.2.2.1<=16384:=v.1.g.1.1;have:=J4 (l:=w.1.2.2.2.2.2.1);have:J0 w.1.2.2.2.2.2.1=_:=Jk v.1.g.1;have:J0 w.1.2.2.2.2.2.1<=J0 e.2.2.2.2.2.1+1:=D.2;refine .ne (λQ=>?_) λQ=>?_
        ·exact .some (⟨fzr,v.2⟩)
        ·have a6:zFt 8192 1073741824 (.l Jd) w.1.2.2.2.2.2.1:=⟨(by omega:J0 w.1.2.2.2.2.2.1<=8192),λx hx=>v.1.g.1.2 x hx⟩;have:=Jb r 1;exact .some ⟨(J1 .i64 r 1,w.1),rfl,⟨J8,v.1,om,om,om⟩,om,om⟩
      ·refine .inr ?_;have:J0 e.2.2.2.1<=16384:=j.2.2.2.1.1;have:=J4 (l:=e.2.2.2.1);have:J0 e.2.2.2.1=_:=Jk j.2.2.2.1;refine Jf (τ:=Int×(List Jo)) (λq=>(q.1,x1.1,(0,0,0,[],[],[],[]),e,q.2)) (λq=>(zFt 0 0 zI q.1/\0<=q.1/\(q.1<=J0 e.2.2.2.1\/q.1<=0))/\(zFt 16384 1073741824 (.l Jm) q.2/\J0 q.2<=1*q.1+0)) (λq=>J0 e.2.2.2.1-q.1) ?_ (0,[]) rfl ?_
       ·rintro⟨o,k⟩ F;dsimp only at F;obtain⟨⟨Y,a0,a4⟩,n,aa⟩:=F;unfold J92
        try dsimp only
        have:=J3.1 Y;refine .lt (λP=>?_) λP=>?_
        ·refine .bind (Jh j.2.2.2.1) λy9 a8=>.gt (λV=>?_) λV=>?_
         ·refine .bind (Jh j.2.2.2.1) λa1 L=>?_;have:J0 k<=16384:=n.1;have:=J4 (l:=k);have:J0 k=_:=Jk n;refine .bind (J0x (B:=16384) (Bl:=16384) (Bm:=16384) (S:=1073741824) (J0 k) 1 n (J0j (B:=16384) (S:=1073741824) (t:=Jm) oo L.1)) λI H=>?_;have:=Jb o 1;have:J0 I=_:=Jk H.1;exact .some ⟨(J1 .i64 o 1,I),rfl,⟨⟨J8,om,om⟩,H.1,om⟩,om,om⟩
         ·have:=Jb o 1;have:J0 k=_:=Jk n;exact .some ⟨(J1 .i64 o 1,k),rfl,⟨⟨J8,om,om⟩,n,om⟩,om,om⟩
        ·refine .inr ?_;refine .bind (JrW (B:=16384) (S:=1073741824) (⟨h10.u,n⟩)) λa7 E=>.ne (λK=>?_) λK=>?_
         ·exact .some (⟨fzr,E.2⟩)
         ·exact .some (⟨⟨j.1,j.2.1,j.2.2.1,n.u,E.1.u,j.2.2.2.2.2.u⟩,fk0⟩)
       ·have:J0 ([]:List Jo)=0:=rfl
        try dsimp only
        exact⟨⟨fk0,oo,oo⟩,Jc,oo⟩
     ·have:J0 C.1.2.2.2.2.2.1<=4096:=A.1.g.1.1;have:=J4 (l:=C.1.2.2.2.2.2.1);have:J0 C.1.2.2.2.2.2.1=_:=Jk A.1.g.1
      try dsimp only
      exact⟨fk0,A.1.u,om,om,om⟩
  ·exact .some (⟨fzr,fkn 1⟩)
theorem JqI{B S:Int}{x1:JO×J1v×Int}(h:zFt B S (.pr JU Jw3) x1)(N:BG B S:=by omega):Tot (J4Q x1) λy=>zFt 16384 1073741824 tq1 y:=by
 unfold J4Q;refine .bind (JjJ h.c) λv h1=>.ne (λJ=>?_) λJ=>?_
 ·exact .some (⟨fzr,fkn 1⟩)
 ·refine .bind ((J1o (B:=B) (S:=S) (x1:=(x1.2.1.1,x1.2.1.2.1,x1.1,v.1,(x1.2.1.2.2.2.2.1,[]),x1.2.1.2.2.2.1,x1.2.1.2.2.2.2.2.2,x1.2.1.2.2.2.2.2.1)) (⟨h.2.1.1,h.2.1.2.1,h.1,h1.1.u,⟨h.2.1.e.1,Jc⟩,h.2.1.d.1,h.2.1.h,h.2.1.g.1⟩)).eqn) λP h4=>.not (λG=>?_) λG=>?_
  ·exact .some (⟨fzr,fkn 15⟩)
  ·have I:=J1y (x:=(x1.2.1.1,x1.2.1.2.1,x1.1,v.1,(x1.2.1.2.2.2.2.1,[]),x1.2.1.2.2.2.1,x1.2.1.2.2.2.2.2.2,x1.2.1.2.2.2.2.2.1)) (⟨h.2.1.1,h.2.1.2.1,h.1,h1.1.u,⟨h.2.1.e.1,Jc⟩,h.2.1.d.1,h.2.1.h,h.2.1.g.1⟩) h4.2 G;have j:zFt 4096 8192 J9 (x1.2.1.1,x1.2.1.2.1,x1.1,v.1,(x1.2.1.2.2.2.2.1,[]),x1.2.1.2.2.2.1,x1.2.1.2.2.2.2.2.2,x1.2.1.2.2.2.2.2.1):=I.2;have:J0 x1.2.1.2.2.2.1<=4096:=j.g.1.1;have:=J4 (l:=x1.2.1.2.2.2.1);have:J0 x1.2.1.2.2.2.1=_:=Jk j.g.1;refine Jf (τ:=Jbj) (λq=>(q.1,x1.1,x1.2.1,(0,0,(0,[],0),(0,[],0),([],[]),[],[],[]),v.1,q.2)) (λq=>(zFt 0 0 zI q.1/\0<=q.1/\(q.1<=J0 x1.2.1.2.2.2.1\/q.1<=0))/\zFt 16384 1073741824 J9 q.2) (λq=>J0 x1.2.1.2.2.2.1-q.1) ?_ (0,(x1.2.1.1,x1.2.1.2.1,x1.1,v.1,(x1.2.1.2.2.2.2.1,[]),x1.2.1.2.2.2.1,x1.2.1.2.2.2.2.2.2,x1.2.1.2.2.2.2.2.1)) rfl ?_
   ·rintro⟨k,o⟩ z;dsimp only at z;obtain⟨⟨F,L,O⟩,n⟩:=z;unfold JaD
    try dsimp only
    have:=J3.1 F;refine .lt (λD=>?_) λD=>?_
    ·refine .bind (Jh j.g.1) λQ M=>.eq (λH=>?_) λH=>?_
     ·have:=Jb k 1;exact .some ⟨(J1 .i64 k 1,o),rfl,⟨⟨J8,om,om⟩,n⟩,om,om⟩
     ·refine .bind (Jh j.g.1) λE w=>.bind ((J5e (B:=16384) (S:=1073741824) (x1:=(o,0,4,E.1,0,0,0,(0,0,(false,[]),false,[]),[])) (⟨n,fk0,fkn 4,w.1.1,fk0,fk0,fk0,⟨fk0,fk0,⟨trivial,Je⟩,trivial,Je⟩,Je⟩)).eqn) λC r=>.ne (λA=>?_) λA=>?_
      ·exact .some (⟨fzr,r.1.1.c⟩)
      ·have K:Has C.1.2.2.2.2.2.1 E.1:=JjB (⟨n,fk0,fkn 4,w.1.1,fk0,fk0,fk0,⟨fk0,fk0,⟨trivial,Je⟩,trivial,Je⟩,Je⟩) r.2 A;have:=Jb k 1;exact .some ⟨(J1 .i64 k 1,C.1),rfl,⟨⟨J8,om,om⟩,r.1.1.1⟩,om,om⟩
    ·exact .some (⟨n,fk0⟩)
   ·try dsimp only
    exact⟨⟨fk0,oo,oo⟩,j.1,j.2.1,j.c.1.u,j.d.1.u,⟨j.e.1.1.u,Jc⟩,j.g.u⟩
theorem JwC{B S:Int}{x1:JB7}(h:zFt B S (.pr JV JB) x1)(o:BH B S:=by omega)(r:S<=9223372036854775807:=by omega):Tot (J4t x1) λy=>zFt B S tq3 y:=by
 unfold J4t;refine .bind (Jtm (B:=0) (S:=S) h.2.z.1) λn h1=>.ne (λg=>?_) λg=>?_
 ·exact .some (⟨⟨fzr,Jc,fk0,Jc,trivial,Jc⟩,h1.2⟩)
 ·have h5:zFt 16384 1073741824 tq8 (n.1,x1.2.2.1):=⟨h1.1.u,h.2.z.2.1⟩;refine .bind (JlA h5) λq h4=>.ne (λk=>?_) λk=>?_
  ·exact .some (⟨⟨fzr,Jc,fk0,Jc,trivial,Jc⟩,h4.2⟩)
  ·refine .bind (JqI (B:=400000001) (S:=1073741824) (⟨h1.1.u,h4.1,h.2.z.2.2⟩)) λv e=>.ne (λj=>?_) λj=>?_
   ·exact .some (⟨⟨fzr,Jc,fk0,Jc,trivial,Jc⟩,e.2⟩)
   ·exact .some (⟨⟨e.1.u,h.1⟩,fk0⟩)
theorem Jxh{B S:Int}{x1:JB7}(h:zFt B S (.pr JV JB) x1)(e:BH B S:=by omega)(g:S<=9223372036854775807:=by omega):Tot (J80 x1) λy=>zFt B S tq3 y:=by unfold J80;refine .bind (JwC (B:=B) (S:=S) (⟨h.1,h.2.z.1.u,h.2.z.2.1,h.2.z.2.2⟩)) λj h1=>.some (h1)
theorem JeQ{B S:Int}{x1:TQ4}(h:zFt B S (.pr J0Z tq0) x1)(p0:J0 x1.2.2.2.2.2.2.2.2.2.2.2.2.2.2.2.2.2.2.2.2.1<=16000)(U:J0 x1.2.2.2.2.2.2.2.2.2.2.2.2.2.2.2.2.2.2.2.2.2<=16000)(P:BG B S:=by omega)(V:S<=9223372036854775807:=by omega):Tot (J20 x1) λy=>zFt B S JAS y/\(J0 y.2.2.2.2.2.2.2.2.2.2.2.2.2.2.2.2.2.2.2.2.1<=J0 x1.2.2.2.2.2.2.2.2.2.2.2.2.2.2.2.2.2.2.2.2.1+1/\J0 y.2.2.2.2.2.2.2.2.2.2.2.2.2.2.2.2.2.2.2.2.2<=J0 x1.2.2.2.2.2.2.2.2.2.2.2.2.2.2.2.2.2.2.2.2.2+1):=by
 unfold J20;have:=J4 (l:=x1.2.2.2.2.2.2.2.2.2.2.2.2.2.2.2.2.2.2.2.2.1);have J:zFt 16000 S (.l zI) x1.2.2.2.2.2.2.2.2.2.2.2.2.2.2.2.2.2.2.2.2.1:=⟨(by omega:J0 x1.2.2.2.2.2.2.2.2.2.2.2.2.2.2.2.2.2.2.2.2.1<=16000),λx hx=>h.k.k.c.1.2 x hx⟩;have G:zFt 16000 S (.l J0D) x1.2.2.2.2.2.2.2.2.2.2.2.2.2.2.2.2.2.2.2.2.2:=⟨(by omega:J0 x1.2.2.2.2.2.2.2.2.2.2.2.2.2.2.2.2.2.2.2.2.2<=16000),λx hx=>h.k.k.e x hx⟩;refine .bind (JrE (B:=B) (S:=S) (⟨⟨⟨h.2.1,h.c.1,⟨h.d.1,h.e.1,h.g.1⟩,⟨h.h.1,h.i.1,h.j.1⟩,⟨h.k.1,h.k.2.1⟩,h.k.c.1,h.k.d.1,h.k.e.1⟩,h.k.g.1,h.k.h.1,h.k.i.1,trivial,h.k.k.1⟩,h.1.z.2.2.2.1,h.1.z.2.2.1,h.1.z.2.2.2.2.1⟩)) λK I=>.bind (Jxh (B:=B) (S:=S) (⟨I.1,I.2.z.u,h.2.1,h.h.1⟩)) λD n=>Jf (τ:=Jtb) (λq=>(D.2,q.1,x1.2.1,x1.2.2.1,x1.2.2.2.1,x1.2.2.2.2.1,x1.2.2.2.2.2.1,x1.2.2.2.2.2.2.1,x1.2.2.2.2.2.2.2.1,x1.2.2.2.2.2.2.2.2.1,x1.2.2.2.2.2.2.2.2.2.1,x1.2.2.2.2.2.2.2.2.2.2.1,x1.2.2.2.2.2.2.2.2.2.2.2.1,x1.2.2.2.2.2.2.2.2.2.2.2.2.1,x1.2.2.2.2.2.2.2.2.2.2.2.2.2.1,x1.2.2.2.2.2.2.2.2.2.2.2.2.2.2.1,x1.2.2.2.2.2.2.2.2.2.2.2.2.2.2.2.1,x1.2.2.2.2.2.2.2.2.2.2.2.2.2.2.2.2.1,x1.2.2.2.2.2.2.2.2.2.2.2.2.2.2.2.2.2.1,x1.2.2.2.2.2.2.2.2.2.2.2.2.2.2.2.2.2.2.1,x1.2.2.2.2.2.2.2.2.2.2.2.2.2.2.2.2.2.2.2.1,q.2,x1.2.2.2.2.2.2.2.2.2.2.2.2.2.2.2.2.2.2.2.2.2,x1.1,(0,0,0,(false,[]),0),K.1,D.1)) (λq=>zFt 0 0 zI q.1/\zFt 16000 S (.l zI) q.2/\(0<=q.1)/\(q.1<=J0 q.2)/\(J0 q.2=J0 x1.2.2.2.2.2.2.2.2.2.2.2.2.2.2.2.2.2.2.2.2.1)) (λq=>J0 q.2-q.1) ?_ (0,x1.2.2.2.2.2.2.2.2.2.2.2.2.2.2.2.2.2.2.2.2.1) rfl ?_
 ·rintro⟨o,r⟩ w;dsimp only at w;obtain⟨H,v,N,L,O⟩:=w;unfold J5A
  try dsimp only
  have:=J3.1 H;refine .lt (λC=>?_) λC=>?_
  ·refine .bind (J6j (l:=r)) λ_ _=>.bind (Jcb v) λT M=>?_;have:=Jb o 1;have:J0 (J0B r (Int.toNat o) 0)<=16000:=(J4I (t:=zI) (i:=Int.toNat o) (x:=0) v fk0).1;have:=J4 (l:=J0B r (Int.toNat o) 0);have:J0 (J0B r (Int.toNat o) 0)=J0 r:=J6x;exact .some ⟨(J1 .i64 o 1,J0B r (Int.toNat o) 0),rfl,⟨J8,J4I (t:=zI) (i:=Int.toNat o) (x:=0) v fk0,om,om,om⟩,om,om⟩
  ·refine .inr ?_;refine .ne (λA=>?_) λA=>?_
   ·refine .bind (J5p n.2) λQ E=>.some ⟨(⟨E.u,h.2.1,h.c.1,h.d.1,h.e.1,h.g.1,h.h.1,h.i.1,h.j.1,h.k.1,h.k.2.1,h.k.c.1,h.k.d.1,h.k.e.1,h.k.g.1,h.k.h.1,h.k.i.1,trivial,h.k.k.1,trivial,v.u,G.u⟩),om⟩
   ·refine .bind (J5p (B:=0) (S:=0) fk0) λR F=>.some ⟨(⟨F.u,n.1.1.1,n.1.1.2.1,n.1.1.c.1.1,n.1.1.c.1.2.1,n.1.1.c.1.c,n.1.1.d.1.1,n.1.1.d.1.2.1,n.1.1.d.1.c,n.1.1.e.1.1,n.1.1.e.1.2,n.1.1.g.1,n.1.1.h.1,n.1.1.i,n.1.2.1,n.1.c.1,n.1.d.1,trivial,n.1.g,trivial,v.u,G.u⟩),om⟩
 ·try dsimp only
  exact⟨fk0,J,om,om,om⟩
theorem J3B{B S:Int}{x1:TQ2}(h:zFt B S (.pr Jl (.pr zI tq0)) x1)(q:BH B S:=by omega):Tot (J0T x1) λy=>zFt B S JAS y/\(J0 y.2.2.2.2.2.2.2.2.2.2.2.2.2.2.2.2.2.2.2.2.1=J0 x1.2.2.2.2.2.2.2.2.2.2.2.2.2.2.2.2.2.2.2.2.2.1/\J0 y.2.2.2.2.2.2.2.2.2.2.2.2.2.2.2.2.2.2.2.2.2=J0 x1.2.2.2.2.2.2.2.2.2.2.2.2.2.2.2.2.2.2.2.2.2.2):=by
 unfold J0T;refine .eq (λo=>?_) λo=>?_
 ·refine .bind (J5p h.2.1) λv h3=>.some ⟨(⟨h3.u,h.1.1.1,h.1.1.2.1,h.1.1.c.1.1,h.1.1.c.1.2.1,h.1.1.c.1.c,h.1.1.d.1.1,h.1.1.d.1.2.1,h.1.1.d.1.c,h.1.1.e.1.1,h.1.1.e.1.2,h.1.1.g.1,h.1.1.h.1,h.1.1.i,h.1.2.1,h.1.c.1,h.1.d.1,trivial,h.1.g,trivial,h.k.k.d⟩),om⟩
 ·refine .bind (J5p h.2.1) λr n=>.some ⟨(⟨n.u,h.c.1,h.d.1,h.e.1,h.g.1,h.h.1,h.i.1,h.j.1,h.k.1,h.k.2.1,h.k.c.1,h.k.d.1,h.k.e.1,h.k.g.1,h.k.h.1,h.k.i.1,h.k.j.1,trivial,h.k.k.2.1,trivial,h.k.k.d⟩),om⟩
theorem Jfo{B S:Int}{x1:TQ4}(h:zFt B S (.pr J0Z tq0) x1)(p0:J0 x1.2.2.2.2.2.2.2.2.2.2.2.2.2.2.2.2.2.2.2.2.1<=16000)(p1:J0 x1.2.2.2.2.2.2.2.2.2.2.2.2.2.2.2.2.2.2.2.2.2<=16000)(ac:BH B S:=by omega)(hB:B<=1000000:=by omega)(hS:S<=1000000000000:=by omega):Tot (J2e x1) λy=>zFt B S JAS y/\(J0 y.2.2.2.2.2.2.2.2.2.2.2.2.2.2.2.2.2.2.2.2.1<=J0 x1.2.2.2.2.2.2.2.2.2.2.2.2.2.2.2.2.2.2.2.2.1+1/\J0 y.2.2.2.2.2.2.2.2.2.2.2.2.2.2.2.2.2.2.2.2.2<=J0 x1.2.2.2.2.2.2.2.2.2.2.2.2.2.2.2.2.2.2.2.2.2+1):=by
 unfold J2e;have:=J4 (l:=x1.2.2.2.2.2.2.2.2.2.2.2.2.2.2.2.2.2.2.2.2.1);have:J0 x1.2.2.2.2.2.2.2.2.2.2.2.2.2.2.2.2.2.2.2.2.2=_:=Jk h.k.k.d;have D:zFt 16000 S (.l zI) x1.2.2.2.2.2.2.2.2.2.2.2.2.2.2.2.2.2.2.2.2.1:=⟨(by omega:J0 x1.2.2.2.2.2.2.2.2.2.2.2.2.2.2.2.2.2.2.2.2.1<=16000),λx hx=>h.k.k.c.1.2 x hx⟩;have C:zFt 16000 S (.l J0D) x1.2.2.2.2.2.2.2.2.2.2.2.2.2.2.2.2.2.2.2.2.2:=⟨(by omega:J0 x1.2.2.2.2.2.2.2.2.2.2.2.2.2.2.2.2.2.2.2.2.2<=16000),λx hx=>h.k.k.e x hx⟩;refine .eq (λc8=>?_) λc8=>?_
 ·refine .bind (Jrt (B:=B) (S:=S) (⟨⟨h.2.1,h.c.1,⟨h.d.1,h.e.1,h.g.1⟩,⟨h.h.1,h.i.1,h.j.1⟩,⟨h.k.1,h.k.2.1⟩,h.k.c.1,h.k.d.1,h.k.e.1⟩,h.k.g.1,h.k.h.1,h.k.i.1,trivial,h.k.k.1⟩)) λy2 h10=>.eq (λT=>?_) λT=>?_
  ·refine .bind (J0x (B:=16001) (Bl:=16000) (Bm:=1) (S:=S) (J0 x1.2.2.2.2.2.2.2.2.2.2.2.2.2.2.2.2.2.2.2.2.1) 1 D ((J0j (B:=1) (S:=0) (t:=zI) oo h10.2.1).u)) λy3 O=>.bind (J3B (B:=B) (S:=S) (⟨h10.1,h10.c,h.2.1,h.c.1,h.d.1,h.e.1,h.g.1,h.h.1,h.i.1,h.j.1,h.k.1,h.k.2.1,h.k.c.1,h.k.d.1,h.k.e.1,h.k.g.1,h.k.h.1,h.k.i.1,trivial,h.k.k.1,trivial,O.1.u,C.u⟩)) λN n=>?_;have:J0 N.2.2.2.2.2.2.2.2.2.2.2.2.2.2.2.2.2.2.2.2.2=_:=Jk n.1.k.k.d;have:J0 N.2.2.2.2.2.2.2.2.2.2.2.2.2.2.2.2.2.2.2.2.1=J0 y3/\J0 N.2.2.2.2.2.2.2.2.2.2.2.2.2.2.2.2.2.2.2.2.2=J0 x1.2.2.2.2.2.2.2.2.2.2.2.2.2.2.2.2.2.2.2.2.2:=n.2;exact .some ⟨(⟨⟨n.1.1.z.1,h10.2.1,n.1.1.z.2.2.u⟩,n.1.2.1,n.1.c.1,n.1.d.1,n.1.e.1,n.1.g.1,n.1.h.1,n.1.i.1,n.1.j.1,n.1.k.1,n.1.k.2.1,n.1.k.c.1,n.1.k.d.1,n.1.k.e.1,n.1.k.g.1,n.1.k.h.1,n.1.k.i.1,trivial,n.1.k.k.1,trivial,n.1.k.k.c⟩),om⟩
  ·refine .bind (J3B (B:=B) (S:=S) (⟨h10.1,h10.c,h.2.1,h.c.1,h.d.1,h.e.1,h.g.1,h.h.1,h.i.1,h.j.1,h.k.1,h.k.2.1,h.k.c.1,h.k.d.1,h.k.e.1,h.k.g.1,h.k.h.1,h.k.i.1,trivial,h.k.k.1,trivial,D.u,C.u⟩)) λM o=>?_;have:J0 M.2.2.2.2.2.2.2.2.2.2.2.2.2.2.2.2.2.2.2.2.2=_:=Jk o.1.k.k.d;have:J0 M.2.2.2.2.2.2.2.2.2.2.2.2.2.2.2.2.2.2.2.2.1=J0 x1.2.2.2.2.2.2.2.2.2.2.2.2.2.2.2.2.2.2.2.2.1/\J0 M.2.2.2.2.2.2.2.2.2.2.2.2.2.2.2.2.2.2.2.2.2=J0 x1.2.2.2.2.2.2.2.2.2.2.2.2.2.2.2.2.2.2.2.2.2:=o.2;exact .some ⟨(⟨⟨o.1.1.z.1,h10.2.1,o.1.1.z.2.2.u⟩,o.1.2.1,o.1.c.1,o.1.d.1,o.1.e.1,o.1.g.1,o.1.h.1,o.1.i.1,o.1.j.1,o.1.k.1,o.1.k.2.1,o.1.k.c.1,o.1.k.d.1,o.1.k.e.1,o.1.k.g.1,o.1.k.h.1,o.1.k.i.1,trivial,o.1.k.k.1,trivial,o.1.k.k.c⟩),om⟩
 ·refine .eq (λQ=>?_) λQ=>?_
  ·refine .bind (Jgl (B:=B) (S:=S) (⟨h.1.z.u,h.2.1,h.c.1,h.d.1,h.e.1,h.g.1,h.h.1,h.i.1,h.j.1,h.k.1,h.k.2.1,h.k.c.1,h.k.d.1,h.k.e.1,h.k.g.1,h.k.h.1,h.k.i.1,trivial,h.k.k.1,trivial,D.u,C.u⟩) om om) λW w=>?_;have:J0 W.2.2.2.2.2.2.2.2.2.2.2.2.2.2.2.2.2.2.2.2.1<=J0 x1.2.2.2.2.2.2.2.2.2.2.2.2.2.2.2.2.2.2.2.2.1+1/\J0 W.2.2.2.2.2.2.2.2.2.2.2.2.2.2.2.2.2.2.2.2.2<=J0 x1.2.2.2.2.2.2.2.2.2.2.2.2.2.2.2.2.2.2.2.2.2+1:=w.2;exact .some ⟨(⟨w.1.1.z.u,w.1.2.1,w.1.c.1,w.1.d.1,w.1.e.1,w.1.g.1,w.1.h.1,w.1.i.1,w.1.j.1,w.1.k.1,w.1.k.2.1,w.1.k.c.1,w.1.k.d.1,w.1.k.e.1,w.1.k.g.1,w.1.k.h.1,w.1.k.i.1,trivial,w.1.k.k.1,trivial,w.1.k.k.c⟩),om⟩
  ·refine .eq (λa3=>?_) λa3=>?_
   ·refine .bind (JqK (B:=B) (S:=S) (⟨⟨⟨h.2.1,h.c.1,⟨h.d.1,h.e.1,h.g.1⟩,⟨h.h.1,h.i.1,h.j.1⟩,⟨h.k.1,h.k.2.1⟩,h.k.c.1,h.k.d.1,h.k.e.1⟩,h.k.g.1,h.k.h.1,h.k.i.1,trivial,h.k.k.1⟩,h.1.z.2.2.1⟩)) λy7 I=>.bind (J3B (B:=B) (S:=S) (⟨I.1,I.2,h.2.1,h.c.1,h.d.1,h.e.1,h.g.1,h.h.1,h.i.1,h.j.1,h.k.1,h.k.2.1,h.k.c.1,h.k.d.1,h.k.e.1,h.k.g.1,h.k.h.1,h.k.i.1,trivial,h.k.k.1,trivial,D.u,C.u⟩)) λL q=>?_;have:J0 L.2.2.2.2.2.2.2.2.2.2.2.2.2.2.2.2.2.2.2.2.2=_:=Jk q.1.k.k.d;have:J0 L.2.2.2.2.2.2.2.2.2.2.2.2.2.2.2.2.2.2.2.2.1=J0 x1.2.2.2.2.2.2.2.2.2.2.2.2.2.2.2.2.2.2.2.2.1/\J0 L.2.2.2.2.2.2.2.2.2.2.2.2.2.2.2.2.2.2.2.2.2=J0 x1.2.2.2.2.2.2.2.2.2.2.2.2.2.2.2.2.2.2.2.2.2:=q.2;exact .some ⟨(⟨q.1.1.z.u,q.1.2.1,q.1.c.1,q.1.d.1,q.1.e.1,q.1.g.1,q.1.h.1,q.1.i.1,q.1.j.1,q.1.k.1,q.1.k.2.1,q.1.k.c.1,q.1.k.d.1,q.1.k.e.1,q.1.k.g.1,q.1.k.h.1,q.1.k.i.1,trivial,q.1.k.k.1,trivial,q.1.k.k.c⟩),om⟩
   ·refine .eq (λZ=>?_) λZ=>?_
    ·refine .bind (JiH (B:=B) (S:=S) (⟨⟨h.2.1,h.c.1,⟨h.d.1,h.e.1,h.g.1⟩,⟨h.h.1,h.i.1,h.j.1⟩,⟨h.k.1,h.k.2.1⟩,h.k.c.1,h.k.d.1,h.k.e.1⟩,h.k.g.1,h.k.h.1,h.k.i.1,trivial,h.k.k.1⟩)) λy9 K=>.bind (J3B (B:=B) (S:=S) (⟨K.1,K.c,h.2.1,h.c.1,h.d.1,h.e.1,h.g.1,h.h.1,h.i.1,h.j.1,h.k.1,h.k.2.1,h.k.c.1,h.k.d.1,h.k.e.1,h.k.g.1,h.k.h.1,h.k.i.1,trivial,h.k.k.1,trivial,D.u,C.u⟩)) λF r=>?_;have:J0 F.2.2.2.2.2.2.2.2.2.2.2.2.2.2.2.2.2.2.2.2.2=_:=Jk r.1.k.k.d;have:J0 F.2.2.2.2.2.2.2.2.2.2.2.2.2.2.2.2.2.2.2.2.1=J0 x1.2.2.2.2.2.2.2.2.2.2.2.2.2.2.2.2.2.2.2.2.1/\J0 F.2.2.2.2.2.2.2.2.2.2.2.2.2.2.2.2.2.2.2.2.2=J0 x1.2.2.2.2.2.2.2.2.2.2.2.2.2.2.2.2.2.2.2.2.2:=r.2;exact .some ⟨(⟨r.1.1.z.u,r.1.2.1,r.1.c.1,r.1.d.1,r.1.e.1,r.1.g.1,r.1.h.1,r.1.i.1,r.1.j.1,r.1.k.1,r.1.k.2.1,r.1.k.c.1,r.1.k.d.1,r.1.k.e.1,r.1.k.g.1,r.1.k.h.1,r.1.k.i.1,trivial,r.1.k.k.1,trivial,r.1.k.k.c⟩),om⟩
    ·refine .eq (λR=>?_) λR=>?_
     ·refine .bind (J8q (B:=B) (S:=S) (⟨h.d.1,h.e.1,h.g.1⟩)) λab a0=>.bind (J9s (B:=B) (S:=S) (⟨⟨h.d.1,h.e.1,h.g.1⟩,a0⟩)) λaa E=>.eq (λU=>?_) λU=>?_
      ·refine .bind (J5p E.1.2) λa6 a1=>.some ⟨(⟨a1.u,h.2.1,h.c.1,E.1.1.1,E.1.1.2.1.u,E.1.1.c,h.h.1,h.i.1,h.j.1,h.k.1,h.k.2.1,h.k.c.1,h.k.d.1,h.k.e.1,h.k.g.1,h.k.h.1,h.k.i.1,trivial,h.k.k.1,trivial,D.u,C.u⟩),om⟩
      ·refine .bind (J5p E.1.2) λa8 P=>.some ⟨(⟨P.u,h.2.1,h.c.1,h.d.1,h.e.1,h.g.1,h.h.1,h.i.1,h.j.1,h.k.1,h.k.2.1,h.k.c.1,h.k.d.1,h.k.e.1,h.k.g.1,h.k.h.1,h.k.i.1,trivial,h.k.k.1,trivial,D.u,C.u⟩),om⟩
     ·refine .eq (λV=>?_) λV=>?_
      ·refine .bind (JeQ (B:=B) (S:=S) (⟨h.1.z.u,h.2.1,h.c.1,h.d.1,h.e.1,h.g.1,h.h.1,h.i.1,h.j.1,h.k.1,h.k.2.1,h.k.c.1,h.k.d.1,h.k.e.1,h.k.g.1,h.k.h.1,h.k.i.1,trivial,h.k.k.1,trivial,D.u,C.u⟩) om om) λJ A=>?_;have:J0 J.2.2.2.2.2.2.2.2.2.2.2.2.2.2.2.2.2.2.2.2.1<=J0 x1.2.2.2.2.2.2.2.2.2.2.2.2.2.2.2.2.2.2.2.2.1+1/\J0 J.2.2.2.2.2.2.2.2.2.2.2.2.2.2.2.2.2.2.2.2.2<=J0 x1.2.2.2.2.2.2.2.2.2.2.2.2.2.2.2.2.2.2.2.2.2+1:=A.2;exact .some ⟨(⟨A.1.1.z.u,A.1.2.1,A.1.c.1,A.1.d.1,A.1.e.1,A.1.g.1,A.1.h.1,A.1.i.1,A.1.j.1,A.1.k.1,A.1.k.2.1,A.1.k.c.1,A.1.k.d.1,A.1.k.e.1,A.1.k.g.1,A.1.k.h.1,A.1.k.i.1,trivial,A.1.k.k.1,trivial,A.1.k.k.c⟩),om⟩
      ·refine .eq (λa2=>?_) λa2=>?_
       ·refine .bind (Jw4 (B:=B) (S:=S) (⟨⟨h.2.1,h.c.1,⟨h.d.1,h.e.1,h.g.1⟩,⟨h.h.1,h.i.1,h.j.1⟩,⟨h.k.1,h.k.2.1⟩,h.k.c.1,h.k.d.1,h.k.e.1⟩,h.k.g.1,h.k.h.1,h.k.i.1,trivial,h.k.k.1⟩)) λa9 H=>.bind (J3B (B:=B) (S:=S) (⟨H.1,H.c,h.2.1,h.c.1,h.d.1,h.e.1,h.g.1,h.h.1,h.i.1,h.j.1,h.k.1,h.k.2.1,h.k.c.1,h.k.d.1,h.k.e.1,h.k.g.1,h.k.h.1,h.k.i.1,trivial,h.k.k.1,trivial,D.u,C.u⟩)) λG v=>?_;have:J0 G.2.2.2.2.2.2.2.2.2.2.2.2.2.2.2.2.2.2.2.2.2=_:=Jk v.1.k.k.d;have:J0 G.2.2.2.2.2.2.2.2.2.2.2.2.2.2.2.2.2.2.2.2.1=J0 x1.2.2.2.2.2.2.2.2.2.2.2.2.2.2.2.2.2.2.2.2.1/\J0 G.2.2.2.2.2.2.2.2.2.2.2.2.2.2.2.2.2.2.2.2.2=J0 x1.2.2.2.2.2.2.2.2.2.2.2.2.2.2.2.2.2.2.2.2.2:=v.2;exact .some ⟨(⟨v.1.1.z.u,v.1.2.1,v.1.c.1,v.1.d.1,v.1.e.1,v.1.g.1,v.1.h.1,v.1.i.1,v.1.j.1,v.1.k.1,v.1.k.2.1,v.1.k.c.1,v.1.k.d.1,v.1.k.e.1,v.1.k.g.1,v.1.k.h.1,v.1.k.i.1,trivial,v.1.k.k.1,trivial,v.1.k.k.c⟩),om⟩
       ·refine .bind (J0a (B:=0) (S:=0) (fkn 1)) λa7 Y=>.some ⟨(⟨Y.1.u,h.2.1,h.c.1,h.d.1,h.e.1,h.g.1,h.h.1,h.i.1,h.j.1,h.k.1,h.k.2.1,h.k.c.1,h.k.d.1,h.k.e.1,h.k.g.1,h.k.h.1,h.k.i.1,trivial,h.k.k.1,trivial,D.u,C.u⟩),om⟩
theorem Jy3{B S:Int}{x1:Jt×(List J3K)}(h:zFt B S (.pr Jl (.l J0Z)) x1)(av:BH B S:=by omega)(hB:B<=1000000:=by omega)(hS:S<=1000000000000:=by omega):Tot (J6w x1) λy=>zFt B S (.pr Jl (.pr (.l J00) (.l J0D))) y:=by
 unfold J6w;refine Jf (τ:=Int×(List Int)×(List J5b)×Int×Int×Int×(List J2)×Int×Int×(List T_api_Frame)×Int×(List T_api_Grant)×(List T_api_Grant)×(List Jo)×(List T_api_Row)×(List T_api_Row)×(List (List UInt8))×Int×(List Int)×Bool×(List JQ)×Bool×(List J0f)) (λq=>(x1.2,q.1,x1.1,((0,0,(0,[],0),(0,[],0),([],[]),[],[],[]),[],0,[],false,[]),q.2.1,q.2.2.1,q.2.2.2.1,q.2.2.2.2.1,q.2.2.2.2.2.1,q.2.2.2.2.2.2.1,q.2.2.2.2.2.2.2.1,q.2.2.2.2.2.2.2.2.1,q.2.2.2.2.2.2.2.2.2.1,q.2.2.2.2.2.2.2.2.2.2.1,q.2.2.2.2.2.2.2.2.2.2.2.1,q.2.2.2.2.2.2.2.2.2.2.2.2.1,q.2.2.2.2.2.2.2.2.2.2.2.2.2.1,q.2.2.2.2.2.2.2.2.2.2.2.2.2.2.1,q.2.2.2.2.2.2.2.2.2.2.2.2.2.2.2.1,q.2.2.2.2.2.2.2.2.2.2.2.2.2.2.2.2.1,q.2.2.2.2.2.2.2.2.2.2.2.2.2.2.2.2.2.1,q.2.2.2.2.2.2.2.2.2.2.2.2.2.2.2.2.2.2.1,q.2.2.2.2.2.2.2.2.2.2.2.2.2.2.2.2.2.2.2.1,q.2.2.2.2.2.2.2.2.2.2.2.2.2.2.2.2.2.2.2.2.1,q.2.2.2.2.2.2.2.2.2.2.2.2.2.2.2.2.2.2.2.2.2.1,q.2.2.2.2.2.2.2.2.2.2.2.2.2.2.2.2.2.2.2.2.2.2)) (λq=>zFt 0 0 zI q.1/\zFt 1000 S (.l zI) q.2.1/\zFt 1000 S (.l J0D) q.2.2.1/\zFt 0 0 zI q.2.2.2.1/\zFt 0 0 zI q.2.2.2.2.1/\zFt 0 0 zI q.2.2.2.2.2.1/\zFt B S (.l J5) q.2.2.2.2.2.2.1/\zFt 0 0 zI q.2.2.2.2.2.2.2.1/\zFt 0 0 zI q.2.2.2.2.2.2.2.2.1/\zFt B S (.l J08) q.2.2.2.2.2.2.2.2.2.1/\zFt 0 0 zI q.2.2.2.2.2.2.2.2.2.2.1/\zFt B S (.l Ja) q.2.2.2.2.2.2.2.2.2.2.2.1/\zFt B S (.l Ja) q.2.2.2.2.2.2.2.2.2.2.2.2.1/\zFt B S (.l Jm) q.2.2.2.2.2.2.2.2.2.2.2.2.2.1/\zFt B S (.l Jd) q.2.2.2.2.2.2.2.2.2.2.2.2.2.2.1/\zFt B S (.l Jd) q.2.2.2.2.2.2.2.2.2.2.2.2.2.2.2.1/\zFt B S (.l .s) q.2.2.2.2.2.2.2.2.2.2.2.2.2.2.2.2.1/\zFt 0 0 zI q.2.2.2.2.2.2.2.2.2.2.2.2.2.2.2.2.2.1/\zFt B S (.l zI) q.2.2.2.2.2.2.2.2.2.2.2.2.2.2.2.2.2.2.1/\zFt B S (.l JP) q.2.2.2.2.2.2.2.2.2.2.2.2.2.2.2.2.2.2.2.2.1/\zFt 1000 S (.l J00) q.2.2.2.2.2.2.2.2.2.2.2.2.2.2.2.2.2.2.2.2.2.2/\(0<=q.1)/\(q.1<=1000)/\(J0 q.2.1<=q.1)/\(J0 q.2.2.1<=q.1)/\(J0 q.2.2.2.2.2.2.2.2.2.2.2.2.2.2.2.2.2.2.2.2.2.2<=q.1)) (λq=>1001-q.1) ?_ (0,[],[],x1.1.1.1,x1.1.1.2.1,x1.1.1.2.2.1.1,x1.1.1.2.2.1.2.1,x1.1.1.2.2.1.2.2,x1.1.1.2.2.2.1.1,x1.1.1.2.2.2.1.2.1,x1.1.1.2.2.2.1.2.2,x1.1.1.2.2.2.2.1.1,x1.1.1.2.2.2.2.1.2,x1.1.1.2.2.2.2.2.1,x1.1.1.2.2.2.2.2.2.1,x1.1.1.2.2.2.2.2.2.2,x1.1.2.1,x1.1.2.2.1,x1.1.2.2.2.1,x1.1.2.2.2.2.1,x1.1.2.2.2.2.2,false,[]) rfl ?_
 ·rintro⟨O,A,w,an,ao,ap,aq,ac,ae,ak,am,af,ah,ai,a8,aa,al,aj,ag,a9,ab,ad,r⟩ Y;dsimp only at Y;obtain⟨i1,i2,N,V,Q,W,R,P,U,G,L,M,F,I,C,D,E,J,K,H,v,az,ax,ay,au,aw⟩:=Y;unfold JbO
  try dsimp only
  have:J0 A<=1000:=i2.1;have:=J4 (l:=A);have:J0 w<=1000:=N.1;have:=J4 (l:=w);have:J0 w=_:=Jk N;have:J0 r<=1000:=v.1;have:=J4 (l:=r);have:J0 r=_:=Jk v;have:J0 x1.2=_:=Jk h.2;refine .lt (λa5=>?_) λa5=>?_
  ·refine .lt (λa3=>?_) λa3=>?_
   ·refine .not (λa4=>?_) λa4=>?_
    ·refine .bind (Jh h.2) λy3 a6=>.bind (Jfo (B:=B) (S:=S) (⟨a6.1.z.u,V,Q,W,R,P,U,G,L,M,F,I,C,D,E,J,K,trivial,H,trivial,i2.u,N.u⟩) om om) λo n=>?_;have:J0 o.2.2.2.2.2.2.2.2.2.2.2.2.2.2.2.2.2.2.2.2.2=_:=Jk n.1.k.k.d;have:J0 o.2.2.2.2.2.2.2.2.2.2.2.2.2.2.2.2.2.2.2.2.1<=J0 A+1/\J0 o.2.2.2.2.2.2.2.2.2.2.2.2.2.2.2.2.2.2.2.2.2<=J0 w+1:=n.2;refine .bind (J0x (B:=1001) (Bl:=1000) (Bm:=1) (S:=S) (J0 r) 1 v (J0j (B:=1) (S:=S) (t:=J00) oo (n.1.1.z.u))) λT Z=>?_;have a7:zFt 1000 S (.l zI) o.2.2.2.2.2.2.2.2.2.2.2.2.2.2.2.2.2.2.2.2.1:=⟨(by omega:J0 o.2.2.2.2.2.2.2.2.2.2.2.2.2.2.2.2.2.2.2.2.1<=1000),λx hx=>n.1.k.k.c.1.2 x hx⟩;have a2:zFt 1000 S (.l J0D) o.2.2.2.2.2.2.2.2.2.2.2.2.2.2.2.2.2.2.2.2.2:=⟨(by omega:J0 o.2.2.2.2.2.2.2.2.2.2.2.2.2.2.2.2.2.2.2.2.2<=1000),λx hx=>n.1.k.k.e x hx⟩;have:J0 T=_:=Jk Z.1;have a1:zFt 1000 S (.l J00) T:=⟨(by omega:J0 T<=1000),λx hx=>Z.1.2 x hx⟩;have:=Jb O 1;exact .some ⟨(J1 .i64 O 1,o.2.2.2.2.2.2.2.2.2.2.2.2.2.2.2.2.2.2.2.2.1,o.2.2.2.2.2.2.2.2.2.2.2.2.2.2.2.2.2.2.2.2.2,o.2.1,o.2.2.1,o.2.2.2.1,o.2.2.2.2.1,o.2.2.2.2.2.1,o.2.2.2.2.2.2.1,o.2.2.2.2.2.2.2.1,o.2.2.2.2.2.2.2.2.1,o.2.2.2.2.2.2.2.2.2.1,o.2.2.2.2.2.2.2.2.2.2.1,o.2.2.2.2.2.2.2.2.2.2.2.1,o.2.2.2.2.2.2.2.2.2.2.2.2.1,o.2.2.2.2.2.2.2.2.2.2.2.2.2.1,o.2.2.2.2.2.2.2.2.2.2.2.2.2.2.1,o.2.2.2.2.2.2.2.2.2.2.2.2.2.2.2.1,o.2.2.2.2.2.2.2.2.2.2.2.2.2.2.2.2.1,o.2.2.2.2.2.2.2.2.2.2.2.2.2.2.2.2.2.1,o.2.2.2.2.2.2.2.2.2.2.2.2.2.2.2.2.2.2.1,o.2.2.2.2.2.2.2.2.2.2.2.2.2.2.2.2.2.2.2.1,T),rfl,⟨J8,a7,a2,n.1.2.1,n.1.c.1,n.1.d.1,n.1.e.1,n.1.g.1,n.1.h.1,n.1.i.1,n.1.j.1,n.1.k.1,n.1.k.2.1,n.1.k.c.1,n.1.k.d.1,n.1.k.e.1,n.1.k.g.1,n.1.k.h.1,n.1.k.i.1,n.1.k.k.1,a1,om,om,om,om,om⟩,om,om⟩
    ·exact .some (⟨⟨⟨V,Q,⟨W,R,P⟩,⟨U,G,L⟩,⟨M,F⟩,I,C,D⟩,E,J,K,trivial,H⟩,v.u,N.u⟩)
   ·exact .some (⟨⟨⟨V,Q,⟨W,R,P⟩,⟨U,G,L⟩,⟨M,F⟩,I,C,D⟩,E,J,K,trivial,H⟩,v.u,N.u⟩)
  ·exact .some (⟨⟨⟨V,Q,⟨W,R,P⟩,⟨U,G,L⟩,⟨M,F⟩,I,C,D⟩,E,J,K,trivial,H⟩,v.u,N.u⟩)
 ·try dsimp only
  exact⟨fk0,Jc,Jc,h.1.1.1,h.1.1.2.1,h.1.1.c.1.1,h.1.1.c.1.2.1,h.1.1.c.1.c,h.1.1.d.1.1,h.1.1.d.1.2.1,h.1.1.d.1.c,h.1.1.e.1.1,h.1.1.e.1.2,h.1.1.g.1,h.1.1.h.1,h.1.1.i,h.1.2.1,h.1.c.1,h.1.d.1,h.1.g,Jc,om,om,om,om,om⟩
theorem Jgz{B S:Int}{x1:JCo}(h:zFt B S JAQ x1)(p0:0<=x1.2.2.2)(w:0<=x1.1)(q:x1.1<=1000)(o:BH B S:=by omega)(A:B<=1000000:=by omega)(z:S<=1000000000000:=by omega):Tot (J2r x1) λy=>zFt B S (.pr Jl J7) y/\(0<=y.2.2):=by unfold J2r;refine .bind (Jj (B:=B) (S:=S) (⟨fkn 4,h.c⟩) om) λC h3=>?_;have:=J3.1 h3.1.c;refine .bind (Jj (B:=B) (S:=S) (⟨fkn 3,h3.1.2⟩) om) λr j=>?_;have:=J3.1 j.1.c;refine .bind (JxJ (B:=0) (S:=0) (⟨J8,J8⟩)) λx k=>.bind (Jfp (B:=B) (S:=S) (⟨J8,h.1,trivial,j.1.2⟩) om om om) λn e=>?_;have:0<=n.2.2:=e.2;refine .bind (Jy3 (B:=B) (S:=S) (⟨k.1.u,e.1.1⟩)) λv g=>.some ⟨(⟨g.1,e.1.2⟩),om⟩
theorem Jhn{B S:Int}{x1:JCo}(h:zFt B S JAQ x1)(p0:0<=x1.2.2.2)(j:0<=x1.1)(n:x1.1<=1000)(g:BH B S:=by omega)(o:B<=1000000:=by omega)(k:S<=1000000000000:=by omega):Tot (J2L x1) λy=>zFt B S (.pr J9 J7) y/\(0<=y.2.2):=by unfold J2L;refine .bind (Jgz (B:=B) (S:=S) (⟨h.1,trivial,h.c⟩) om om om) λe h3=>?_;have:0<=e.2.2:=h3.2;exact .some ⟨(⟨h3.1.1.1,h3.1.2⟩),om⟩
theorem JmJ{B S:Int}{x1:JbV}(h:zFt B S tq9 x1)(p0:0<=x1.2.2)(n:0<=x1.1)(r:x1.1<=1000)(k:BH B S:=by omega)(v:B<=1000000:=by omega)(q:S<=1000000000000:=by omega):Tot (J77 x1) λy=>zFt B S (.pr zI (.pr JU J7)) y/\(0<=y.2.2.2):=by unfold J77;refine .bind (Jhn (B:=B) (S:=S) (⟨h.1,trivial,h.2⟩) om om om) λj h3=>?_;have:0<=j.2.2:=h3.2;refine .bind (J8q h3.1.1.c.1) λo e=>.bind (J9s (B:=B) (S:=S) (⟨h3.1.1.c.1,e⟩)) λw g=>.some ⟨(⟨h3.1.1.1,g.1.1.u,h3.1.2⟩),om⟩
theorem J7L{B S:Int}{x1:JEo}(h:zFt B S JIQ x1)(r:BS B S 0 0:=by omega):Tot (J13 x1) λy=>zFt 0 0 zI y:=by
 unfold J13;have s0:zFt 0 S JIQ x1:=h;refine .ltf (λq=>?_) λq=>?_
 ·refine .eq (λo=>?_) λo=>?_
  ·have:=J3.1 s0.1.1;refine .lt (λn=>?_) λn=>?_
   ·exact .some (fkn (-1))
   ·refine .eq (λk=>?_) λk=>?_
    ·refine .eq (λj=>?_) λj=>?_
     ·exact .some fk0
     ·exact .some (fkn 1)
    ·exact .some (fkn 1)
  ·refine .eq (λe=>?_) λe=>?_
   ·have:=J3.1 s0.1.1;refine .eq (λg=>?_) λg=>?_
    ·exact .some fk0
    ·exact .some (fkn 1)
   ·exact .some (fkn 1)
 ·exact .some (fkn (-1))
theorem JoB{B S:Int}{x1:(List J2)×J2}(h:zFt B S (.pr (.l J5) J5) x1)(ai:BS B S 0 0:=by omega)(hB:B<=17179869183:=by omega):Tot (J5l x1) λy=>zFt (2*B+1) S (.pr (.l J5) .b) y/\(J0 y.1<=J0 x1.1+1):=by
 unfold J5l;have:J0 x1.1<=B:=h.1.1;have:=J4 (l:=x1.1);have:J0 x1.1=_:=Jk h.1;refine Jf (τ:=Int) (λq=>(x1.1,q,x1.2)) (λq=>(zFt 0 0 zI q/\0<=q/\(q<=J0 x1.1\/q<=0))) (λq=>J0 x1.1-q) ?_ 0 rfl ?_
 ·rintro v ⟨i4,w5,z6⟩;unfold J9C
  try dsimp only
  have:=J3.1 i4;refine .lt (λc7=>?_) λc7=>?_
  ·refine .bind (Jh h.1) λy3 O=>.bind (J7L (B:=0) (S:=S) (⟨O.1.z,h.2.z⟩)) λy4 a8=>.lt (λL=>?_) λL=>?_
   ·have:=Jb v 1;exact .some ⟨J1 .i64 v 1,rfl,⟨J8,om,om⟩,om,om⟩
   ·refine .inr ?_;refine .lt (λJ=>?_) λJ=>?_
    ·refine .bind (Jh h.1) λy5 a2=>.bind (J7L (B:=0) (S:=S) (⟨a2.1.z,h.2.z⟩)) λy6 ab=>.eq (λa4=>?_) λa4=>?_
     ·refine .bind (Jh h.1) λy7 aa=>.some ⟨(⟨h.1.u,trivial⟩),om⟩
     ·refine .bind (J6m h.1) λH g=>.clo g.1 oo (by decide) ?_;have:J0 H<=B:=g.1.1;have:J0 H=_:=Jk g.1;refine .bind (J0x (B:=(B+1)) (Bl:=B) (Bm:=1) (S:=S) (J0 H) 1 g.1 (J0j (B:=1) (S:=S) (t:=J5) oo (h.2.z.u))) λx E=>.bind (J3J h.1) λr o=>?_;have:J0 x=_:=Jk E.1;have:J0 r<=B:=o.1.1;have:J0 r=_:=Jk o.1;refine .bind (J0x (B:=(2*B+1)) (Bl:=(B+1)) (Bm:=B) (S:=S) (J0 x) (J0 r) E.1 o.1) λY A=>?_;have:J0 Y=_:=Jk A.1;exact .some ⟨(⟨A.1,trivial⟩),om⟩
    ·refine .bind (J6m h.1) λK F=>.clo F.1 oo (by decide) ?_;refine .bind (J0x (B:=(B+1)) (Bl:=B) (Bm:=1) (S:=S) (J0 K) 1 F.1 (J0j (B:=1) (S:=S) (t:=J5) oo (h.2.z.u))) λQ W=>.bind (J3J h.1) λV a5=>.bind (J0x (B:=(2*B+1)) (Bl:=(B+1)) (Bm:=B) (S:=S) (J0 Q) (J0 V) W.1 a5.1) λae a0=>.some ⟨(⟨a0.1,trivial⟩),om⟩
  ·refine .inr ?_;refine .lt (λT=>?_) λT=>?_
   ·refine .bind (Jh h.1) λaf a1=>.bind (J7L (B:=0) (S:=S) (⟨a1.1.z,h.2.z⟩)) λah ad=>.eq (λP=>?_) λP=>?_
    ·refine .bind (Jh h.1) λag a9=>.some ⟨(⟨h.1.u,trivial⟩),om⟩
    ·refine .bind (J6m h.1) λM D=>.clo D.1 oo (by decide) ?_;refine .bind (J0x (B:=(B+1)) (Bl:=B) (Bm:=1) (S:=S) (J0 M) 1 D.1 (J0j (B:=1) (S:=S) (t:=J5) oo (h.2.z.u))) λR I=>.bind (J3J h.1) λN U=>.bind (J0x (B:=(2*B+1)) (Bl:=(B+1)) (Bm:=B) (S:=S) (J0 R) (J0 N) I.1 U.1) λac a3=>.some ⟨(⟨a3.1,trivial⟩),om⟩
   ·refine .bind (J6m h.1) λj e=>.clo e.1 oo (by decide) ?_;have:J0 j<=B:=e.1.1;have:J0 j=_:=Jk e.1;refine .bind (J0x (B:=(B+1)) (Bl:=B) (Bm:=1) (S:=S) (J0 j) 1 e.1 (J0j (B:=1) (S:=S) (t:=J5) oo (h.2.z.u))) λG C=>.bind (J3J h.1) λw k=>?_;have:J0 G=_:=Jk C.1;have:=J4 (l:=w);have:J0 w=_:=Jk k.1;refine .bind (J0x (B:=(2*B+1)) (Bl:=(B+1)) (Bm:=B) (S:=S) (J0 G) (J0 w) C.1 k.1) λZ n=>?_;have:J0 Z=_:=Jk n.1;exact .some ⟨(⟨n.1,trivial⟩),om⟩
 ·try dsimp only
  exact⟨fk0,oo,oo⟩
theorem Jdu{B S:Int}{x1:Int×Int×T_api_Row}(h:zFt B S (.pr zI (.pr zI Jd)) x1)(r:BS B S 0 0:=by omega):Tot (J2n x1) λy=>zFt 0 0 .b y:=by
 unfold J2n;refine .ge (λq=>?_) λq=>?_
 ·have:=J3.1 h.2.1;refine .le (λc3=>?_) λc3=>?_
  ·refine .le (λo=>?_) λo=>?_
   ·have:=J3.1 h.c.1;refine .ge (λn=>?_) λn=>?_
    ·have:=J3.1 h.d.1;refine .le (λk=>?_) λk=>?_
     ·refine .lt (λg=>?_) λg=>?_
      ·have:=J3.1 h.e;refine .ge (λj=>?_) λj=>?_
       ·exact .some trivial
       ·exact .some trivial
      ·exact .some trivial
     ·exact .some trivial
    ·exact .some trivial
   ·exact .some trivial
  ·exact .some trivial
 ·exact .some trivial
theorem JgU{B S:Int}{x1:JF}(h:zFt B S J0t x1)(a2:BS B S 0 0:=by omega)(hB:B<=9223372036854775807:=by omega):Tot (J2A x1) λy=>zFt 0 0 .b y:=by
 unfold J2A;refine .bind (Jdu (B:=0) (S:=0) (⟨h.1,h.2.1,h.c.1,h.d.1,h.e.1⟩)) λy2 h1=>.nof (λW=>?_) λW=>?_
 ·have:J0 x1.2.2.2.2.2<=B:=h.g.1;have:=J4 (l:=x1.2.2.2.2.2);have:J0 x1.2.2.2.2.2=_:=Jk h.g;refine .gt (λc3=>?_) λc3=>?_
  ·exact .some trivial
  ·refine Jf (τ:=Int) (λq=>(q,x1)) (λq=>(zFt 0 0 zI q/\0<=q/\(q<=J0 x1.2.2.2.2.2\/q<=0))) (λq=>J0 x1.2.2.2.2.2-q) ?_ 0 rfl ?_
   ·rintro j ⟨V,w8,z9⟩;unfold J7X
    try dsimp only
    have:=J3.1 V;refine .lt (λL=>?_) λL=>?_
    ·refine .bind (Jh h.g) λr n=>.bind ((J2Y (B:=0) (S:=S) (x1:=r) n.1.z).eqn) λy5 w=>.nof (λk=>?_) λk=>?_
     ·have E:=J2v (x:=r) n.1.z w.2 k;have o:zFt 0 8192 J5 r:=E.2;refine .bind (J1U o) λy6 a4=>.nof (λA=>?_) λA=>?_
      ·have:=J3.1 h.1;refine .ltf (λO=>?_) λO=>?_
       ·have:=J3.1 h.2.1;refine .gtf (λC=>?_) λC=>?_
        ·have:=J3.1 h.c.1;refine .ltf (λM=>?_) λM=>?_
         ·have:=J3.1 h.d.1;refine .gt (λT=>?_) λT=>?_
          ·exact .some trivial
          ·refine .gt (λN=>?_) λN=>?_
           ·have:=J0o j 1;refine .bind (Jh h.g) λy7 K=>.bind (J7L (B:=0) (S:=(S+8192)) (⟨K.1.z.u,o.u⟩)) λy8 a5=>.ge (λQ=>?_) λQ=>?_
            ·exact .some trivial
            ·refine .gt (λD=>?_) λD=>?_
             ·refine .bind (Jh h.g) λy9 Z=>.eq (λv=>?_) λv=>?_
              ·refine .bind (Jh h.g) λa0 a1=>.ne (λG=>?_) λG=>?_
               ·exact .some trivial
               ·have:=Jb j 1;exact .some ⟨J1 .i64 j 1,rfl,⟨J8,om,om⟩,om,om⟩
              ·refine .ge (λU=>?_) λU=>?_
               ·exact .some trivial
               ·have:=Jb j 1;exact .some ⟨J1 .i64 j 1,rfl,⟨J8,om,om⟩,om,om⟩
             ·refine .ge (λH=>?_) λH=>?_
              ·exact .some trivial
              ·have:=Jb j 1;exact .some ⟨J1 .i64 j 1,rfl,⟨J8,om,om⟩,om,om⟩
           ·refine .gt (λP=>?_) λP=>?_
            ·have:=J0o j 1;refine .bind (Jh h.g) λa7 Y=>.eq (λF=>?_) λF=>?_
             ·refine .bind (Jh h.g) λa3 a6=>.ne (λJ=>?_) λJ=>?_
              ·exact .some trivial
              ·have:=Jb j 1;exact .some ⟨J1 .i64 j 1,rfl,⟨J8,om,om⟩,om,om⟩
             ·refine .ge (λI=>?_) λI=>?_
              ·exact .some trivial
              ·have:=Jb j 1;exact .some ⟨J1 .i64 j 1,rfl,⟨J8,om,om⟩,om,om⟩
            ·refine .ge (λR=>?_) λR=>?_
             ·exact .some trivial
             ·have:=Jb j 1;exact .some ⟨J1 .i64 j 1,rfl,⟨J8,om,om⟩,om,om⟩
         ·exact .some trivial
        ·exact .some trivial
       ·exact .some trivial
      ·exact .some trivial
     ·exact .some trivial
    ·exact .some trivial
   ·try dsimp only
    exact⟨fk0,oo,oo⟩
 ·exact .some trivial
theorem Jd1{B S:Int}{x1:JJZ}(h:zFt B S (.pr (.l J5) (.pr zI (.pr zI Jd))) x1)(af:BS B S 0 0:=by omega)(hB:B<=17179869183:=by omega):Tot (J3P x1) λy=>zFt B S (.pr J0t zI) y:=by
 unfold J3P;refine .bind (Jdu (B:=0) (S:=0) (h.2)) λy2 h1=>.not (λc2=>?_) λc2=>?_
 ·exact .some (⟨fzr,fkn 1⟩)
 ·have:J0 x1.1<=B:=h.1.1;have:=J4 (l:=x1.1);have:J0 x1.1=_:=Jk h.1;refine Jf (τ:=Int) (λq=>(x1.1,x1.2.1,x1.2.2.1,x1.2.2.2.1,x1.2.2.2.2.1,x1.2.2.2.2.2,q,0,0,0,0,0,[])) (λq=>(zFt 0 0 zI q/\0<=q/\(q<=J0 x1.1\/q<=0))) (λq=>J0 x1.1-q) ?_ 0 rfl ?_
  ·rintro C ⟨i6,w7,z8⟩;unfold JaT
   try dsimp only
   have:=J3.1 i6;have:=J4 (l:=x1.1);refine .lt (λc9=>?_) λc9=>?_
   ·refine .bind (Jh h.1) λU D=>.bind ((J2Y (B:=0) (S:=S) (x1:=U) D.1.z).eqn) λy5 N=>.not (λG=>?_) λG=>?_
    ·exact .some (⟨fzr,fkn 12⟩)
    ·have ak:=J2v (x:=U) D.1.z N.2 G;have:=Jb C 1;exact .some ⟨J1 .i64 C 1,rfl,⟨J8,om,om⟩,om,om⟩
   ·refine .inr ?_;refine Jf (τ:=Bool×Int×JF) (λq=>(x1.1,x1.2.1,x1.2.2.1,x1.2.2.2.1,x1.2.2.2.2.1,q.1,q.2.1,(0,0,0,0,0,[]),q.2.2)) (λq=>zFt 0 0 zI q.2.1/\zFt B S J0t q.2.2/\(0<=q.2.1)/\(q.2.1<=J0 x1.1)/\(J0 q.2.2.2.2.2.2.2<=q.2.1)) (λq=>J0 x1.1-q.2.1) ?_ (false,0,(x1.2.1,x1.2.2.1,x1.2.2.2.1,x1.2.2.2.2.1,x1.2.2.2.2.2,[])) rfl ?_
    ·rintro⟨o,n,j⟩ E;dsimp only at E;obtain⟨a2,k,al,a9,ab⟩:=E;unfold Jba
     try dsimp only
     have:=J3.1 a2;have:J0 j.2.2.2.2.2<=B:=k.2.2.2.2.2.1;have:=J4 (l:=j.2.2.2.2.2);have:J0 j.2.2.2.2.2=_:=Jk k.2.2.2.2.2;refine .lt (λP=>?_) λP=>?_
     ·refine .bind (Jh h.1) λI w=>.bind (J1U (B:=0) (S:=S) w.1.z) λy8 ac=>.nof (λL=>?_) λL=>?_
      ·have:=J3.1 w.1.z.2.2.2.2.2.2.1.1;refine .ltf (λW=>?_) λW=>?_
       ·have:=J3.1 h.e.1;refine .gtf (λO=>?_) λO=>?_
        ·have:=J3.1 w.1.z.1;refine .ltf (λR=>?_) λR=>?_
         ·have:=J3.1 h.c.1;refine .gt (λV=>?_) λV=>?_
          ·have am:zFt B S (.l J5) j.2.2.2.2.2:=⟨(by omega:J0 j.2.2.2.2.2<=B),λx hx=>k.2.2.2.2.2.2 x hx⟩;have:=Jb n 1;exact .some ⟨(o,J1 .i64 n 1,j),rfl,⟨J8,k,om,om,om⟩,om,om⟩
          ·refine Jf (τ:=Bool×Int) (λq=>(x1.1,x1.2.1,x1.2.2.1,x1.2.2.2.1,x1.2.2.2.2.1,q.1,n,q.2,(0,0,0,0,0,[]),j,I)) (λq=>(zFt 0 0 zI q.2/\0<=q.2/\(q.2<=J0 j.2.2.2.2.2\/q.2<=0))) (λq=>J0 j.2.2.2.2.2-q.2) ?_ (o,0) rfl ?_
           ·rintro⟨H,r⟩ F;dsimp only at F;obtain⟨T,an,aj⟩:=F;unfold JaQ
            try dsimp only
            have:=J3.1 T;refine .lt (λQ=>?_) λQ=>?_
            ·refine .itf (λM=>?_) λM=>?_
             ·refine .bind (Jh k.2.2.2.2.2) λa6 ad=>.eq (λa1=>?_) λa1=>?_
              ·refine .bind (Jh k.2.2.2.2.2) λa0 ai=>?_;have:=Jb r 1;exact .some ⟨(Jr (eqT J5 a0 I),J1 .i64 r 1),rfl,⟨J8,om,om⟩,om,om⟩
              ·have:=Jb r 1;exact .some ⟨(false,J1 .i64 r 1),rfl,⟨J8,om,om⟩,om,om⟩
             ·have:=Jb r 1;exact .some ⟨(true,J1 .i64 r 1),rfl,⟨J8,om,om⟩,om,om⟩
            ·refine .inr ?_;refine .bind (JoB (B:=B) (S:=S) (⟨k.2.2.2.2.2,w.1.z.u⟩)) λv A=>?_;have:J0 v.1=_:=Jk A.1.1;have:J0 v.1<=J0 j.2.2.2.2.2+1:=A.2;have K:zFt B S (.l J5) v.1:=⟨(by omega:J0 v.1<=B),λx hx=>A.1.1.2 x hx⟩;have:=Jb n 1;exact .some ⟨(H,J1 .i64 n 1,(j.1,j.2.1,j.2.2.1,j.2.2.2.1,j.2.2.2.2.1,v.1)),rfl,⟨J8,⟨k.1,k.2.1,k.2.2.1,k.2.2.2.1,k.2.2.2.2.1,K⟩,om,om,om⟩,om,om⟩
           ·try dsimp only
            exact⟨fk0,oo,oo⟩
         ·have ag:zFt B S (.l J5) j.2.2.2.2.2:=⟨(by omega:J0 j.2.2.2.2.2<=B),λx hx=>k.2.2.2.2.2.2 x hx⟩;have:=Jb n 1;exact .some ⟨(o,J1 .i64 n 1,j),rfl,⟨J8,k,om,om,om⟩,om,om⟩
        ·have aa:zFt B S (.l J5) j.2.2.2.2.2:=⟨(by omega:J0 j.2.2.2.2.2<=B),λx hx=>k.2.2.2.2.2.2 x hx⟩;have:=Jb n 1;exact .some ⟨(o,J1 .i64 n 1,j),rfl,⟨J8,k,om,om,om⟩,om,om⟩
       ·have ah:zFt B S (.l J5) j.2.2.2.2.2:=⟨(by omega:J0 j.2.2.2.2.2<=B),λx hx=>k.2.2.2.2.2.2 x hx⟩;have:=Jb n 1;exact .some ⟨(o,J1 .i64 n 1,j),rfl,⟨J8,k,om,om,om⟩,om,om⟩
      ·have ae:zFt B S (.l J5) j.2.2.2.2.2:=⟨(by omega:J0 j.2.2.2.2.2<=B),λx hx=>k.2.2.2.2.2.2 x hx⟩;have:=Jb n 1;exact .some ⟨(o,J1 .i64 n 1,j),rfl,⟨J8,k,om,om,om⟩,om,om⟩
     ·refine .inr ?_;refine .ite (λZ=>?_) λZ=>?_
      ·exact .some (⟨fzr,fkn 41⟩)
      ·refine .gt (λY=>?_) λY=>?_
       ·exact .some (⟨fzr,fkn 21⟩)
       ·refine .bind (JgU k) λa8 a7=>.not (λJ=>?_) λJ=>?_
        ·exact .some (⟨fzr,fkn 13⟩)
        ·exact .some (⟨k,fk0⟩)
    ·try dsimp only
     exact⟨fk0,⟨h.2.1,h.c.1,h.d.1,h.e.1,h.g,Jc⟩,om,om,om⟩
  ·try dsimp only
   exact⟨fk0,oo,oo⟩
theorem Jsi{B S:Int}{x1:Jp}(h:zFt B S J7 x1)(p0:0<=x1.2)(C:BH B S:=by omega)(L:B<=1000000:=by omega)(K:S<=1000000000000:=by omega):Tot (J3T x1) λy=>zFt B S (.pr J0t (.pr J0t (.pr J0t J7))) y/\(0<=y.2.2.2.2):=by unfold J3T;refine .bind (JmJ (B:=B) (S:=S) (⟨fkn 30,h⟩) om om om) λw h2=>?_;have:0<=w.2.2.2:=h2.2;refine .bind (Jj (B:=B) (S:=S) (⟨fkn 3,h2.1.c⟩) om) λE h5=>?_;have:=J3.1 h5.1.c;refine .bind (Jj (B:=B) (S:=S) (⟨fkn 4,h5.1.2⟩) om) λJ v=>?_;have:=J3.1 v.1.c;refine .bind (Jj (B:=B) (S:=S) (⟨fkn 15,v.1.2⟩) om) λG k=>?_;have:=J3.1 k.1.c;refine .bind (Jj (B:=B) (S:=S) (⟨fkn 15,k.1.2⟩) om) λH n=>?_;have:=J3.1 n.1.c;refine .bind (Jj (B:=B) (S:=S) (⟨fkn 3,n.1.2⟩) om) λD e=>?_;have:=J3.1 e.1.c;refine .bind (Jd1 (B:=B) (S:=S) (⟨h2.1.2.1.2.1,fkn 1,J8,h5.1.1,J8,e.1.1⟩)) λF q=>.bind (Jj (B:=B) (S:=S) (⟨fkn 3,e.1.2⟩) om) λI g=>?_;have:=J3.1 g.1.c;refine .bind (Jd1 (B:=B) (S:=S) (⟨h2.1.2.1.2.1,J8,J8,h5.1.1,J8,g.1.1⟩)) λx r=>.bind (Jj (B:=B) (S:=S) (⟨fkn 9,g.1.2⟩) om) λA j=>?_;have:=J3.1 j.1.c;refine .bind (Jd1 (B:=B) (S:=S) (⟨h2.1.2.1.2.1,J8,J8,h5.1.1,J8,j.1.1⟩)) λz o=>.some ⟨(⟨q.1,r.1,o.1,j.1.2⟩),om⟩
end Go.Am
end
section
namespace Go.Am
section
variable (P:Program)
def Jac:Nat->TypeId->Bool
 |0,_=>false
 |n+1,t=>match P.underlying t with
  |some .bool=>true
  |some (.int _)=>true
  |some .string=>true
  |some (.slice e)=>Jac n e&&decide (t<P.types.size/\0<P.cellsOf e)
  |some (.struct fs)=>fs.toList.all (λf=>Jac n f.type)&&decide (t<P.types.size)
  |some (.array _ e)=>Jac n e&&decide (t<P.types.size)
  |_=>false
def J5S:Nat->TypeId->List PV->Prop
 |0,_,_=>False
 |n+1,t,pvs=>match P.underlying t with
  |some .bool=> ∃b,pvs=[.b b]
  |some (.int k)=> ∃z,pvs=[.i k z]/\(Lit.int k z).wf=true
  |some .string=> ∃l,pvs=[.s l]/\l.length<=maxLen
  |some (.slice e)=> ∃rows,pvs=[.sl (P.cellsOf e) rows]/\rows.length<=maxLen/\ ∀row∈rows,row.length=P.cellsOf e/\J5S n e row
  |some (.struct fs)=>pvs.length=P.cellsOf t/\ ∀f∈fs.toList,J5S n f.type ((pvs.drop f.offset).take (P.cellsOf f.type))
  |some (.array m e)=>pvs.length=P.cellsOf t/\ ∀i,i<m->J5S n e ((pvs.drop (i*P.cellsOf e)).take (P.cellsOf e))
  |_=>False
end
section
variable {H:Type} {enc:TypeId×Value->H} {P:Program} {w:World} {base:Nat} {sp:Nat->Bool} {held:Bool}
def JBc(w:World)(pvs:List PV)(cs:List Value):Prop:=pvs.length=cs.length/\ ∀(i:Nat) p v,pvs[i]?=some p->cs[i]?=some v->J0r w (λr _=>r<w.heap.size) p v
theorem Jqg{a:Addr}{v:Value}(h:w.cell? a=some v):a.spot=none/\J0L w a.block a.off=some v/\a.block<w.heap.size:=by
 unfold World.cell? at h;unfold J0L;split at h
 ·rename_i c t fz hb;split at h
  ·cases h
  ·rename_i hs;refine⟨by simpa using hs,by rw[hb];exact h,?_⟩;have:=Array.getElem?_eq_some_iff.1 hb;exact this.1
 ·cases h
theorem JF1{a:Addr}{n:Nat}{cs:List Value}(h:w.cells? base a n=some cs):cs.length=n/\ ∀i v,cs[i]?=some v->w.cell? (a.add i)=some v:=by
 unfold World.cells? at h;split at h
 ·have hl:=mapM_some_length h;refine⟨by simpa using hl,λi v hv=>?_⟩;have hi:i<n:=by have:=(J3Z.1 hv).1;simp at hl;omega
  have:=mapM_some_get h i i (by simp[hi]);rw[this,hv]
 ·cases h
theorem Jmw{α:Type}(Q:Nat->α->Prop): ∀(m:Nat),(∀i,i<m-> ∃x,Q i x)-> ∃xs:List α,xs.length=m/\ ∀i x,xs[i]?=some x->Q i x
 |0,_=>⟨[],rfl,λi x h=>by simp at h⟩
 |m+1,h=>by
  obtain⟨xs,hl,hx⟩:=Jmw Q m (λi hi=>h i (by omega));obtain⟨y,hy⟩:=h m (by omega);refine⟨xs++[y],by simp[hl],λi x hi=>?_⟩;rcases zQ3 i xs.length with g|e
  ·rw[JkM g]at hi;exact hx i x hi
  ·rw[JeV e]at hi;have:i-xs.length=0:=by have:=(J3Z.1 hi).1;simp at this;omega
   rw[this]at hi;simp at hi;subst hi;obtain rfl:i=m:=by omega
   exact hy
theorem Ji6{α:Type}: ∀(xs:List (List α)) (j:Nat) (y:List α),xs[j]?=some y->(xs.flatten.drop ((xs.take j).map List.length).sum).take y.length=y
 |[],j,y,h=>by simp at h
 |x::xs,0,y,h=>by simp at h;subst h;simp
 |x::xs,j+1,y,h=>by simp at h;have:=Ji6 xs j y h;simp only[JGk,J1q,List.sum_cons,JeB,List.drop_length_add_append];exact this
theorem JHo(hl:laidOutB P=true)(hm:mapsRowed P=true): ∀(n:Nat) (t:TypeId) (cs:List Value) (x:DataW H×List MemPlace) (S:Nat),Jac P n t=true->DataW.trod enc P w base sp held S t cs=some x->
  ∃pvs,J5S P n t pvs/\JBc w pvs cs:=by
 have K:=kids_rows hl hm;intro n
 induction n with
 |zero=>intro t cs x S hp;simp[Jac]at hp
 |succ n ih=>
  intro t cs x S hp h;unfold Jac at hp;unfold J5S;split at hp
  ·rename_i C;obtain⟨b,rfl,_⟩:=DataW.trod_bool C h;refine⟨[.b b],by simp,rfl,λi p v h1 h2=>?_⟩
   match i with
   |0=>simp at h1 h2;subst h1 h2;exact .b _
   |i+1=>simp at h1
  ·rename_i k C;obtain⟨z,rfl,_,ak⟩:=DataW.trod_int C h;refine⟨[.i k z],by simpa using ak,rfl,λi p v h1 h2=>?_⟩
   match i with
   |0=>simp at h1 h2;subst h1 h2;exact .i _ _
   |i+1=>simp at h1
  ·rename_i C;obtain⟨s,rfl,_,ag⟩:=DataW.trod_string C h;refine⟨[.s s.data.toList],⟨_,rfl,by rw[Array.length_toList];exact ag⟩,rfl,λi p v h1 h2=>?_⟩
   match i with
   |0=>simp at h1 h2;subst h1 h2;exact .s _
   |i+1=>simp at h1
  ·rename_i e C;simp only[J04,decide_eq_true_eq]at hp;rcases DataW.trod_slice C h with⟨rfl,_⟩|⟨a,len,cap,a6,rest,n0,_,rfl,_,_,av,hcm,aw,O,_⟩
   ·refine⟨[.sl (P.cellsOf e) []],⟨[],rfl,zQ2 _,by simp⟩,rfl,λi p v h1 h2=>?_⟩
    match i with
    |0=>simp at h1 h2;subst h1 h2;exact .sl0 _ _ _
    |i+1=>simp at h1
   ·
    have ad: ∀i,i<len-> ∃row:List PV,(row.length=P.cellsOf e/\J5S P n e row)/\ ∀j p,row[j]?=some p-> ∃v,w.cell? (a.add (i*P.cellsOf e)|>.add j)=some v/\J0r w (λr _=>r<w.heap.size) p v:=by
     intro i hi;have h1:=O i hi;have h2: ∃y,a6[i]?=some y:=⟨_,zQ9 (by omega)⟩;obtain⟨y,hy⟩:=h2;rw[hy,J2K]at h1;obtain⟨cs',hc,af⟩:=h1;obtain⟨row,q1,q2,q3⟩:=ih e cs' y n0 hp.1 af;obtain⟨c1,c2⟩:=JF1 hc;refine⟨row,⟨by omega,q1⟩,λj p hj=>?_⟩;have M:j<cs'.length:=by have:=(J3Z.1 hj).1;omega
     have hv:=zQ9 M;exact⟨_,c2 j _ hv,q3 j p _ hj hv⟩
    obtain⟨rows,aj,B⟩:=Jmw _ len ad;refine⟨[.sl (P.cellsOf e) rows],⟨rows,rfl,by omega,λrow hr=>?_⟩,rfl,λi p v h1 h2=>?_⟩
    ·obtain⟨i,hi⟩:=J8Q hr;exact(B i row hi).1
    match i with
    |i+1=>simp at h1
    |0=>
     simp at h1 h2;subst h1 h2;by_cases h0: ∃(i j:Nat) (row:List PV) (p:PV),rows[i]?=some row/\row[j]?=some p
     ·obtain⟨i0,j0,aa,p0,a8,ao⟩:=h0;have Y:a.spot=none\/P.cellsOf e=0:=by
       rcases Nat.eq_zero_or_pos (P.cellsOf e)with hz|ab
       ·exact .inr hz
       ·have hlen:0<len:=by have:=(J3Z.1 a8).1;omega
        have I:=zQ9 (l:=rows) (i:=0) (by omega);have q:=B 0 _ I;have ah:=zQ9 (l:=rows[0]'(by omega)) (i:=0) (by omega);obtain⟨v,hv,_⟩:=q.2 0 _ ah;rw[Nat.zero_mul]at hv;exact .inl (by simpa[Addr.add]using(Jqg hv).1)
      rcases Y with Y|hz
      ·have cell: ∀(i j:Nat) (row:List PV) (p:PV),rows[i]?=some row->row[j]?=some p-> ∃v,(a.block<w.heap.size/\J0L w a.block (a.off+i*P.cellsOf e+j)=some v)/\J0r w (λr _=>r<w.heap.size) p v:=by
        intro i j row p hi hj;obtain⟨v,hv,hr⟩:=(B i row hi).2 j p hj;obtain⟨s1,s2,s3⟩:=Jqg hv;refine⟨v,?_,hr⟩;have e1:((a.add (i*P.cellsOf e)).add j).block=a.block:=by unfold Addr.add;split<;>split<;>rfl
        have e2:((a.add (i*P.cellsOf e)).add j).off=a.off+i*P.cellsOf e+j:=by unfold Addr.add;split<;>split<;>simp_all
        rw[e1]at s3;rw[e1,e2]at s2;exact⟨s3,s2⟩
       have ea:a=⟨a.block,a.off,none⟩:=by cases a;simp_all
       rw[ea,<-aj];refine .sl _ rows a.block a.off cap (λi j=>((J0L w a.block (a.off+i*P.cellsOf e+j)).getD default)) (by omega) (λrow hr=>?_) (λi j row p hi hj=>?_) (λi j row p hi hj=>?_)
       ·obtain⟨i,hi⟩:=J8Q hr;exact(B i row hi).1.1
       ·obtain⟨v,⟨h3,h4⟩,_⟩:=cell i j row p hi hj;exact⟨h3,by rw[h4];rfl⟩
       ·obtain⟨v,⟨h3,h4⟩,h5⟩:=cell i j row p hi hj;rw[h4];exact h5
      ·have:=(B i0 aa a8).1.1;have:=(J3Z.1 ao).1;omega
     ·
      rcases Nat.eq_zero_or_pos len with hz|ab
      ·have:rows=[]:=by cases rows<;>simp_all
       subst this;subst hz;exact .sl0 _ _ _
      ·exfalso;have I:=zQ9 (l:=rows) (i:=0) (by omega);have q:=(B 0 _ I).1.1;exact h0 ⟨0,0,_,_,I,zQ9 (by omega)⟩
  ·rename_i fs C;simp only[J04,decide_eq_true_eq,JCi]at hp;obtain⟨xs,n0,_,_,Q,a7,O⟩:=DataW.trod_struct C h;obtain⟨_,R,a5⟩:=K.struct hp.2 C;have hf: ∀i,i<fs.toList.length-> ∃g:List PV,∀f,fs.toList[i]?=some f->J5S P n f.type g/\JBc w g ((cs.drop f.offset).take (P.cellsOf f.type)):=by
    intro i hi;have hfi:=zQ9 hi;have ac:=zQ5 hfi;have ae:fs[i]?=some (fs.toList[i]):=by rw[<-JGp];exact hfi
    have h1:=O i _ ae;have h2: ∃y,xs[i]?=some y:=⟨_,zQ9 (by simpa[a7]using hi)⟩;obtain⟨y,hy⟩:=h2;rw[hy]at h1;obtain⟨g,q1,q2⟩:=ih _ _ _ _ (hp.1 _ ac) h1;refine⟨g,λf V=>?_⟩;rw[hfi]at V;injection V with V;subst V
    exact⟨q1,q2⟩
   obtain⟨A,W,F⟩:=Jmw _ _ hf;have hlen: ∀(j:Nat) (f:Field),fs.toList[j]?=some f-> ∀g:List PV,A[j]?=some g->g.length=P.cellsOf f.type:=by
    intro j f hj g hy;have q:=(F j g hy f hj).2.1;have o:=a5 j f hj;rw[q,Jgo,JkW,Q,R,o];have:((fs.toList.take j).map λf=>P.cellsOf f.type).sum+P.cellsOf f.type<=(fs.toList.map λf=>P.cellsOf f.type).sum:=by
     have e1:fs.toList=fs.toList.take j++(f::fs.toList.drop (j+1)):=by have L:=(J3Z.1 hj);obtain⟨L,he⟩:=L;rw[<-he,<-List.drop_eq_getElem_cons L,JBM]
     conv=>rhs;rw[e1]
     simp only[Jkk,J1q,List.sum_append,List.sum_cons];omega
    omega
   have J:A.map List.length=fs.toList.map λf=>P.cellsOf f.type:=by
    apply zQ6;intro j;rw[J79,J79];cases hy:A[j]? with
    |none=>
     have:fs.toList[j]?=none:=by rw[List.getElem?_eq_none_iff]at hy⊢;omega
     rw[this];rfl
    |some g=>
     have hj:j<fs.toList.length:=by have:=(J3Z.1 hy).1;omega
     have G:=zQ9 hj;rw[G];simp only[J3n];rw[hlen j _ G g hy]
   have E: ∀(j:Nat) (f:Field),fs.toList[j]?=some f->((A.take j).map List.length).sum=f.offset:=by intro j f hj;rw[a5 j f hj,JIC,J,<-JIC]
   refine⟨A.flatten,⟨?_,λf hf=>?_⟩,?_,λi p v h1 h2=>?_⟩
   ·rw[JCm,J,R]
   ·obtain⟨j,hj⟩:=J8Q hf;have L:j<A.length:=by have:=(J3Z.1 hj).1;omega
    have D:=zQ9 L;have:=Ji6 A j _ D;rw[E j f hj,hlen j f hj _ D]at this;rw[this];exact(F j _ D f hj).1
   ·rw[JCm,J,Q,R]
   ·
    have a4: ∀(l:List (List PV)) (i:Nat) p,l.flatten[i]?=some p-> ∃j g k,l[j]?=some g/\g[k]?=some p/\i=((l.take j).map List.length).sum+k:=by
     intro l
     induction l with
     |nil=>intro i p h;simp at h
     |cons y l N=>
      intro i p h;rw[JeB]at h;rcases zQ3 i y.length with M|Z
      ·rw[JkM M]at h;exact⟨0,y,i,rfl,h,by simp⟩
      ·rw[JeV Z]at h;obtain⟨j,g,k,a1,a2,a3⟩:=N _ _ h;exact⟨j+1,g,k,by simpa using a1,a2,by simp only[JGk,J1q,List.sum_cons];omega⟩
    obtain⟨j,g,k,a1,a2,a3⟩:=a4 _ _ _ h1;have hj:j<fs.toList.length:=by have:=(J3Z.1 a1).1;omega
    have G:=zQ9 hj;have q:=(F j g a1 _ G).2;refine q.2 k p v a2 ?_;have hk:k<P.cellsOf (fs.toList[j]).type:=by have:=(J3Z.1 a2).1;rw[hlen j _ G g a1]at this;exact this
    rw[List.getElem?_take_of_lt hk,JEE,<-E j _ G,<-a3];exact h2
  ·rename_i m e C;simp only[J04,decide_eq_true_eq]at hp;obtain⟨xs,n0,_,_,Q,a7,O⟩:=DataW.trod_array C h;obtain⟨_,a0⟩:=K.array hp.2 C;have hf: ∀i,i<m-> ∃g:List PV,J5S P n e g/\JBc w g ((cs.drop (i*P.cellsOf e)).take (P.cellsOf e)):=by intro i hi;have h1:=O i hi;have h2: ∃y,xs[i]?=some y:=⟨_,zQ9 (by omega)⟩;obtain⟨y,hy⟩:=h2;rw[hy]at h1;exact ih _ _ _ _ hp.1 h1
   obtain⟨A,W,F⟩:=Jmw _ _ hf;have hlen: ∀(j:Nat) g,A[j]?=some g->g.length=P.cellsOf e:=by
    intro j g hy;have q:=(F j g hy).2.1;have hj:j<m:=by have:=(J3Z.1 hy).1;omega
    rw[q,Jgo,JkW,Q,a0];have:j*P.cellsOf e+P.cellsOf e<=m*P.cellsOf e:=by rw[<-Nat.succ_mul];exact zQ4 _ hj
    omega
   have T: ∀y∈A,y.length=P.cellsOf e:=λy hy=>by obtain⟨j,hj⟩:=J8Q hy;exact hlen j y hj
   have U: ∀l:List (List PV),(∀y∈l,y.length=P.cellsOf e)->(l.map List.length).sum=l.length*P.cellsOf e:=by
    intro l
    induction l with
    |nil=>intro _;simp
    |cons y l N=>intro hh;simp[hh y (by simp),N (λz hz=>hh z (by simp[hz])),Nat.succ_mul,Nat.add_comm]
   have E: ∀j,j<=m->((A.take j).map List.length).sum=j*P.cellsOf e:=by intro j hj;rw[U _ (λy hy=>T y (JGi hy)),Jgo,W,Nat.min_eq_left hj]
   refine⟨A.flatten,⟨?_,λj hj=>?_⟩,?_,λi p v h1 h2=>?_⟩
   ·rw[JCm,U _ T,W,a0]
   ·have D:=zQ9 (l:=A) (i:=j) (by omega);have:=Ji6 A j _ D;rw[E j (by omega),hlen j _ D]at this;rw[this];exact(F j _ D).1
   ·rw[JCm,U _ T,Q,W,a0]
   ·have a4: ∀(l:List (List PV)) (i:Nat) p,l.flatten[i]?=some p-> ∃j g k,l[j]?=some g/\g[k]?=some p/\i=((l.take j).map List.length).sum+k:=by
     intro l
     induction l with
     |nil=>intro i p h;simp at h
     |cons y l N=>
      intro i p h;rw[JeB]at h;rcases zQ3 i y.length with M|Z
      ·rw[JkM M]at h;exact⟨0,y,i,rfl,h,by simp⟩
      ·rw[JeV Z]at h;obtain⟨j,g,k,a1,a2,a3⟩:=N _ _ h;exact⟨j+1,g,k,by simpa using a1,a2,by simp only[JGk,J1q,List.sum_cons];omega⟩
    obtain⟨j,g,k,a1,a2,a3⟩:=a4 _ _ _ h1;have hj:j<m:=by have:=(J3Z.1 a1).1;omega
    have q:=(F j g a1).2;refine q.2 k p v a2 ?_;have hk:k<P.cellsOf e:=by have:=(J3Z.1 a2).1;rw[hlen j g a1]at this;exact this
    rw[List.getElem?_take_of_lt hk,JEE,<-E j (by omega),<-a3];exact h2
  ·cases hp
end
end Go.Am
end
section
namespace Go.Am
open Go.ChangeShapes Go.WideShapes Go.ChangeAt Go.RowKit
def gh0(w:World):Gh:=⟨λ_=>none,λr _=>r<w.heap.size⟩
theorem Jnp(g:Gh)(w:World)(b r o:Nat): ¬Wr1 ⟨[],g,w⟩ b r o:=by simp[Wr1]
theorem JLb(w:World):Inv ⟨[],gh0 w,w⟩ where
 box:=λb cs h=>by simp at h
 arr:=λb wm esz rows h=>by simp at h
 apart:=λb1 b2 r o h=>absurd h (Jnp _ _ _ _ _)
 const:=λr o h=>⟨h,λb=>Jnp _ _ _ _ _⟩
def JdE(w w':World):Prop:=Jd6 (λ_ _=>False) w w'
theorem JdE.kept{w w':World}(h:JdE w w')(e:MemPlace->Prop):w.keptBut w' e:=by
 obtain⟨h1,h2,h3,h4,h5⟩:=h;refine⟨h4,h5,λi hi=>?_⟩
 grind
theorem JdE.same{w w':World}(h:JdE w w'){p:MemPlace}(hp:p.block<w.heap.size):w.sameAt w' p:=by
 obtain⟨h1,h2,h3,h4,h5⟩:=h;cases p with
 |cell b off=>
  have hb:b<w.heap.size:=hp;have g:=Jua hb;show w'.cell? ⟨b,off,none⟩=w.cell? ⟨b,off,none⟩
  grind [J5X,J0L]
 |map b=>
  have hb:b<w.heap.size:=hp;have g:=Jua hb;show w'.heap[b]?=w.heap[b]?;cases hw:w.heap[b]? with
  |none=>simp_all
  |some x=>
   cases x with
   |cells c e fz=>
    obtain⟨c',q1,q2,q3⟩:=h2 b c e fz hw;rw[q1];have:c'=c:=by apply Array.ext_getElem?;simp_all
    rw[this]
   |_=>exact h3 b _ hw (λc e fz he=>by cases he)
theorem JdE.frozen{w w':World}(h:JdE w w'){a:Addr}(hp:a.block<w.heap.size):w'.frozen? a=w.frozen? a:=by
 obtain⟨h1,h2,h3,h4,h5⟩:=h
 grind [World.frozen?]
theorem JDP{P:Program}{F:Orc}(n:J5O P F){f:FuncId}{args:List AV}{vals:Array Value}{w:World}(hl:args.length=vals.size)
  (hr: ∀(i:Nat) x v,args[i]?=some x->vals[i]?=some v->JK ⟨[],gh0 w,w⟩ x v) (h:F f args []=some (.p (.b true),[])):
  Calls P f vals w λe w'=>e=.returned (.bool true)/\JdE w w':=by
 refine((n _ _ _ _ h).2 (gh0 w) w vals (JLb w) hl hr).mono λe w' ⟨v,g',he,_,j,g⟩=>?_;cases g with
 |p _ _ g=>
  cases g with
  |b=>refine⟨he,?_⟩;obtain⟨k1,k2,k,q⟩:=j.keep;refine⟨k1,λr c e fz hr=>?_,k,q⟩;obtain⟨c',q1,q2,q3⟩:=k2 r c e fz hr;exact⟨c',q1,q2,λo _=>q3 o (fun⟨b,hb⟩=>Jnp _ _ _ _ _ hb)⟩
section
variable {H:Type} {enc:TypeId×Value->H} {P:Program}
theorem Jhd(hl:laidOutB P=true)(hm:mapsRowed P=true)(g: ∀{t e:TypeId},t<P.types.size->P.underlying t=some (.slice e)->0<P.cellsOf e){W o:World}{sp:Nat->Bool}:
  ∀{ts:List TypeId} {vs:List Value} {j:List (DataW H)} {ps:List MemPlace},(∀t∈ts,t<P.types.size)->DataW.TrodAll enc P W 0 (λ_=>true) true ts vs j ps->
   (∀p∈ps,W.sameAt o p)->(∀p∈ps,sp p.block=true)->DataW.TrodAll enc P o 0 sp true ts vs j ps
 |[],[],[],_,_,h,_,_=>h
 |[],_::_,_,_,_,h,_,_=>h.elim
 |[],[],_::_,_,_,h,_,_=>h.elim
 |_::_,[],_,_,_,h,_,_=>h.elim
 |_::_,_::_,[],_,_,h,_,_=>h.elim
 |t::ts,v::vs,d::j,_,k,⟨p,q,⟨n,h1⟩,h2,rfl⟩,hs,hp=>by refine⟨p,q,⟨n,DataW.trod_stays (kids_rows hl hm) g (λh=>by cases h) (k t (by simp)) h1 (λx hx=>hs x (by simp[hx])) (λx hx=>hp x (by simp[hx]))⟩,?_,rfl⟩;exact Jhd hl hm g (λx hx=>k x (by simp[hx])) h2 (λx hx=>hs x (by simp[hx])) (λx hx=>hp x (by simp[hx]))
def Jbr(P:Program):Bool:=(List.range P.types.size).all λt=>match P.underlying t with
 |some (.slice e)=>decide (0<P.cellsOf e)
 |_=>true
theorem Juw(h:Jbr P=true){t e:TypeId}(g:t<P.types.size)(he:P.underlying t=some (.slice e)):0<P.cellsOf e:=by
 grind [Jbr]
theorem JFI{fn:Func}{s:ChangeSpec}{tb:TypeId}(hl:laidOutB P=true)(hm:mapsRowed P=true)(D:Jbr P=true)(A: ∀t∈fn.params.toList,t<P.types.size)
  (o:fn.resultTypes= #[tb]) (z:P.underlying tb=some .bool) (e:s.vars=[]) {apart fresh g again:Bool} {W v:World} {args:Array Value} {k C:List (DataW H)} {n:List MemPlace}
  (E:C=[]->s.fn H (k++C)={results:=[.lit (.bool true)],args:=k})
  (B:DataW.Whole enc P fn.params.toList s.vars apart W args.toList k C n) (j:JdE W v):s.post enc P fn apart fresh g again W args (.bool true) v:=by
 have y:=B;have h:=B.lt;obtain⟨p,q,h1,h2,rfl,hz,hn⟩:=B;rw[e]at h2;obtain⟨rfl,rfl⟩:=trodVars_none h2;rw[JbW]at y h hz hn;have hf:=E rfl;have r: ∀sp:Nat->Bool,(∀x∈p,sp x.block=true)->DataW.TrodAll enc P v 0 sp true fn.params.toList args.toList k p:=λsp hp=>
  Jhd hl hm (λF he=>Juw D F he) A h1 (λx hx=>j.same (h x hx)) hp
 have hr: ∀(b:Nat) (sp:Nat->Bool) (hd:Bool),DataW.TrodAll enc P v b sp hd fn.resultTypes.toList ((Value.bool true).resultList fn.resultTypes.size) [.lit (.bool true)] []:=by intro b sp hd;rw[o];exact trodAll_cons_mk (shut_bool z _) trodAll_mk0
 refine⟨k,[],p,[],p,[],y,?_,?_,?_,j.kept _,λ_=>⟨?_,?_⟩⟩
 ·grind
 ·simp_all
 ·rw[hf,e];rfl
 ·exact ok_one o rfl (okWide_bool_mk z _)
 ·refine⟨_,[],[]++p,⟨[]++p,[],trodAll_append (r _ (λ_ _=>rfl)) (hr _ _ _),by rw[e];rfl,by simp,λb off hp=>?_,λha=>by simp_all⟩,λx hx _=>by simpa using hx⟩;have w:MemPlace.cell b off∈p:=by simpa using hp
  rw[j.frozen (a:=⟨b,off,none⟩) (h _ w)];exact hz b off w
def JAn(P:Program)(t:TypeId)(pvs:List PV):AV:=match P.underlying t with
 |some (.struct _)=>.data pvs
 |some (.array _ _)=>.data pvs
 |_=>match pvs with
  |[c]=>.p c
  |_=>.unk
theorem JzB(hl:laidOutB P=true)(hm:mapsRowed P=true){n:Nat}{t:TypeId}{w:World}{r:Reach}{base:Nat}{sp:Nat->Bool}{v:Value}{d:DataW H}{ps:List MemPlace}(hp:Jac P n t=true)
  (hv:Value.okWide P w r base t v) (h:DataW.Trod enc P w 0 sp true t v d ps): ∃pvs,J5S P n t pvs/\JK ⟨[],gh0 w,w⟩ (JAn P t pvs) v:=by
 obtain⟨j,h⟩:=h;obtain⟨pvs,q1,q2,q3⟩:=JHo hl hm n t _ _ j hp h;refine⟨pvs,q1,?_⟩;cases n with
 |zero=>grind [Jac]
 |succ n=>
  unfold Jac at hp;unfold Value.okWide at hv;unfold JAn;have one: ∀{c:PV},pvs=[c]->(∀cs,v≠.agg cs)->JK ⟨[],gh0 w,w⟩ (.p c) v:=by intro c hc o;subst hc;refine .p _ _ (q3 0 c v rfl ?_);cases v<;>first|rfl|simp_all
  unfold J5S at q1;split at hp
  ·rename_i g;rw[g]at q1 hv⊢;obtain⟨b,rfl⟩:=q1;exact one rfl (λcs he=>by simp_all [Cell.okWide,Cell.ok])
  ·rename_i k g;rw[g]at q1 hv⊢;obtain⟨z,rfl,_⟩:=q1;exact one rfl (λcs he=>by simp_all [Cell.okWide,Cell.ok])
  ·rename_i g;rw[g]at q1 hv⊢;obtain⟨z,rfl,_⟩:=q1;exact one rfl (λcs he=>by simp_all [Cell.okWide,Cell.ok])
  ·rename_i e g;rw[g]at q1 hv⊢;obtain⟨rows,rfl,_⟩:=q1;exact one rfl (λcs he=>by simp_all [Cell.okWide,Cell.ok])
  ·rename_i fs g;rw[g]at hv⊢;obtain⟨cs,rfl,_⟩:=hv;exact .data _ _ (by simp_all) (λi x v h1 h2=>q3 i x v h1 (by grind [Value.cells]))
  ·rename_i m e g;rw[g]at hv⊢;obtain⟨cs,rfl,_⟩:=hv;exact .data _ _ (by simp_all) (λi x v h1 h2=>q3 i x v h1 (by grind [Value.cells]))
  ·cases hp
end
end Go.Am
end
section
namespace Go.Am
section
variable (P:Program) {α β:Type}
def Rd(n:Nat)(t:TypeId)(r:α->List PV)(Q:α->Prop):Prop:= ∀pvs,J5S P n t pvs-> ∃x,pvs=r x/\Q x
def fieldsOf(t:TypeId):Option (List (TypeId×Nat)):=match P.underlying t with
 |some (.struct fs)=>some (fs.toList.map λf=>(f.type,f.offset))
 |_=>none
variable {P}
theorem JIs{n:Nat}{t:TypeId}{k:IntKind}(e:P.underlying t=some (.int k)):Rd P (n+1) t (r_i k) λz=>k.min<=z/\z<=k.max:=by
 intro pvs h;unfold J5S at h;rw[e]at h;obtain⟨z,rfl,hz⟩:=h;refine⟨z,rfl,?_⟩
 grind [Lit.wf]
theorem Rd.mono{n:Nat}{t:TypeId}{r:α->List PV}{Q g:α->Prop}(h:Rd P n t r Q)(hq: ∀x,Q x->g x):Rd P n t r g:=λpvs hp=>by
 obtain⟨x,e,q⟩:=h pvs hp
 grind
theorem JI1{n:Nat}{t:TypeId}(e:P.underlying t=some .bool):Rd P (n+1) t r_b λ_=>True:=by intro pvs h;unfold J5S at h;rw[e]at h;obtain⟨z,rfl⟩:=h;exact⟨z,rfl,trivial⟩
theorem JJb{n:Nat}{t:TypeId}(e:P.underlying t=some .string):Rd P (n+1) t r_s λl=>l.length<=maxLen:=by intro pvs h;unfold J5S at h;rw[e]at h;obtain⟨z,rfl,hz⟩:=h;exact⟨z,rfl,hz⟩
theorem JGw{n:Nat}{t e:TypeId}{r:α->List PV}{Q:α->Prop}{k:Nat}(o:P.underlying t=some (.slice e))(hk:P.cellsOf e=k)(he:Rd P n e r Q):
  Rd P (n+1) t (JLm k r) λl=>l.length<=maxLen/\ ∀x∈l,Q x:=by
 intro pvs h;unfold J5S at h;rw[o]at h;obtain⟨rows,rfl,hl,hr⟩:=h;have g: ∀rows:List (List PV),(∀row∈rows,row.length=P.cellsOf e/\J5S P n e row)-> ∃l:List α,rows=l.map r/\ ∀x∈l,Q x:=by
  intro rows
  induction rows with
  |nil=>simp_all
  |cons row rows ih=>
   intro j;obtain⟨l,rfl,hl⟩:=ih (λr hr=>j r (by simp[hr]));obtain⟨x,rfl,hx⟩:=he row (j row (by simp)).2;refine⟨x::l,rfl,λy hy=>?_⟩
   grind
 obtain⟨l,rfl,hq⟩:=g rows hr;exact⟨l,by rw[hk];rfl,by simpa using hl,hq⟩
theorem JEP{n m:Nat}{t e:TypeId}{r:α->List PV}{Q:α->Prop}{k:Nat}(j:P.underlying t=some (.array m e))(hk:P.cellsOf e=k)(hm:P.cellsOf t=m*k)(he:Rd P n e r Q):
  Rd P (n+1) t (JcF (n:=m) r) λv=> ∀(i:Nat) (h:i<m),Q v[i]:=by
 intro pvs h;unfold J5S at h;rw[j]at h;obtain⟨hl,hr⟩:=h;rw[hm]at hl;have g: ∀(m:Nat) (pvs:List PV),pvs.length=m*k->(∀i,i<m->J5S P n e ((pvs.drop (i*k)).take k))-> ∃l:List α,l.length=m/\pvs=(l.map r).flatten/\ ∀(i:Nat) (h:i<l.length),Q l[i]:=by
  intro m
  induction m with
  |zero=>simp_all
  |succ m ih=>
   intro pvs h o;rw[Nat.succ_mul]at h;obtain⟨l,h1,h2,h3⟩:=ih (pvs.drop k) (by simp_all) (λi hi=>by
    grind [List.drop_drop,Nat.succ_mul])
   obtain⟨x,e1,hx⟩:=he _ (o 0 (by omega));rw[Nat.zero_mul,JvY]at e1;refine⟨x::l,by simp[h1],?_,λi hi=>?_⟩
   all_goals grind [List.take_append_drop]
 obtain⟨l,h1,h2,h3⟩:=g m pvs hl (λi hi=>by simp_all);refine⟨⟨l.toArray,by simpa using h1⟩,?_,λi hi=>?_⟩
 ·rw[h2];rfl
 simp_all
theorem JDI{m n:Nat}{t:TypeId}{e:List (TypeId×Nat)}{pvs:List PV}(hm:m=n+1)(g:fieldsOf P t=some e)(h:J5S P m t pvs):
  pvs.length=P.cellsOf t/\ ∀x∈e,J5S P n x.1 ((pvs.drop x.2).take (P.cellsOf x.1)):=by
 grind [J5S,fieldsOf]
end
end Go.Am
end
section
namespace Go.Am
section
variable (P:Program)
def JcR(p:Ty->TypeId->Bool):Nat->List (TypeId×Nat)->Ty->Bool
 |_,[],.u=>true
 |_,[],_=>false
 |o,[f],a=>decide (f.2=o)&&p a f.1&&decide (P.cellsOf f.1=a.sz)
 |o,f::g::r,.pr a c=>decide (f.2=o)&&p a f.1&&decide (P.cellsOf f.1=a.sz)&&JcR p (o+a.sz) (g::r) c
 |_,_::_::_,_=>false
def Jky:Nat->Ty->TypeId->Bool
 |0,_,_=>false
 |n+1,ty,t=>match fieldsOf P t with
  |some fs=>JcR P (Jky n) 0 fs ty&&decide (P.cellsOf t=ty.sz)
  |none=>match P.underlying t,ty with
   |some .bool,.b=>true
   |some (.int k),.i k'=>decide (k=k')
   |some .string,.s=>true
   |some (.slice e),.l a=>Jky n a e&&decide (P.cellsOf e=a.sz)
   |some (.array m e),.ar g a=>decide (m=g)&&Jky n a e&&decide (P.cellsOf e=a.sz)&&decide (P.cellsOf t=m*a.sz)
   |_,_=>false
def Ty.inR:(t:Ty)->t.D->Prop
 | .b,_=>True
 | .i k,z=>k.min<=z/\z<=k.max
 | .s,z=>List.length z<=maxLen
 | .l t,z=>List.length z<=maxLen/\ ∀x∈(z:List t.D),t.inR x
 | .pr a c,x=>a.inR x.1/\c.inR x.2
 | .ar n t,v=> ∀(i:Nat) (h:i<n),t.inR ((v:Vector t.D n)[i])
 | .u,_=>True
 | .f,_=>True
end
section
variable {P:Program}
theorem JzL{n:Nat}(ih: ∀ty t,Jky P n ty t=true->Rd P n t (cel ty) ty.inR): ∀(o:Nat) (fs:List (TypeId×Nat)) (ty:Ty) (pvs:List PV),JcR P (Jky P n) o fs ty=true->
  (∀x∈fs,J5S P n x.1 ((pvs.drop x.2).take (P.cellsOf x.1)))-> ∃x:ty.D,(pvs.drop o).take ty.sz=cel ty x/\ty.inR x
 |o,[],ty,pvs,h,_=>by
  cases ty with
  |u=>exact⟨(),by simp[Ty.sz,cel],trivial⟩
  |_=>grind [JcR]
 |o,[f],ty,pvs,h,hf=>by
  simp only[JcR,J04,decide_eq_true_eq]at h;obtain⟨⟨h1,h2⟩,h3⟩:=h;have:=hf f (by simp);rw[h1,h3]at this;obtain⟨x,e,q⟩:=ih ty f.1 h2 _ this
  grind
 |o,f::g::r,ty,pvs,h,hf=>by
  cases ty with
  |pr a c=>
   simp only[JcR,J04,decide_eq_true_eq]at h;obtain⟨⟨⟨h1,h2⟩,h3⟩,h4⟩:=h;have:=hf f (by simp);rw[h1,h3]at this;obtain⟨x,e,q⟩:=ih a f.1 h2 _ this;obtain⟨y,e',q'⟩:=JzL ih (o+a.sz) (g::r) c pvs h4 (λz hz=>hf z (by simp_all));refine⟨(x,y),?_,q,q'⟩
   grind [cel,Ty.sz,List.drop_drop]
  |_=>grind [JcR]
theorem rdT: ∀(n:Nat) (ty:Ty) (t:TypeId),Jky P n ty t=true->Rd P n t (cel ty) ty.inR
 |0,_,_,h=>by cases h
 |n+1,ty,t,h=>by
  unfold Jky at h;split at h
  ·rename_i fs j;simp only[J04,decide_eq_true_eq]at h;intro pvs hp;obtain⟨hl,hf⟩:=JDI rfl j hp;obtain⟨x,e,q⟩:=JzL (rdT n) 0 fs ty pvs h.1 hf
   grind
  ·split at h
   ·rename_i g;exact JI1 g
   ·rename_i k k' g;simp only[decide_eq_true_eq]at h;subst h;exact JIs g
   ·rename_i g;exact JJb g
   ·rename_i e a g;simp only[J04,decide_eq_true_eq]at h;exact JGw g h.2 (rdT n a e h.1)
   ·rename_i m e o a g;simp only[J04,decide_eq_true_eq]at h;obtain⟨⟨⟨h1,h2⟩,h3⟩,h4⟩:=h;subst h1;exact JEP g h3 h4 (rdT n a e h2)
   ·cases h
def JD4(P:Program)(t:TypeId):Bool:=match P.underlying t with
 |some (.struct _)=>true
 |some (.array _ _)=>true
 |_=>false
def JEM(agg:Bool)(t:Ty)(x:t.D):TA:=if agg=true then .dt t x else .c (.d t x)
theorem JCG(L:Nat->Nat){t:TypeId}{ty:Ty}{agg:Bool}(ha:JD4 P t=agg)(h1:agg=false->ty.sz=1)(x:ty.D):JAn P t (cel ty x)=J1t L (JEM agg ty x):=by
 unfold JAn JD4 at*;generalize P.underlying t=u at ha⊢;rcases u with _|d
 ·subst ha;dsimp only;rw[JuG (h1 rfl) x];rfl
 ·cases d<;>first
  |(subst ha;rfl)
  |(subst ha;dsimp only;rw[JuG (h1 rfl) x];rfl)
theorem JJk{F:Orc}{f:FuncId}{g:Sig}{S:(tyL g.ti).D->Option (tyL g.to).D}{xs:List TA}{x:(tyL g.ti).D}{y:(tyL g.to).D}(he:EOk F (sigE f g S))(hx:JnV g xs []=some x)(e:S x=some y)
  (hv:Jtg g y=some (.a (.c (.d .b true)),[])):F f (xs.map (J1t (lns []))) []=some (.p (.b true),[]):=by
 have h:(sigE f g S).go xs [] (λv out=>some (v,out))=some (TV.a (.c (.d .b true)),([]:List (Bool×TB))):=by simp only[sigE,hx,e,J07,hv];cases g.same<;>rfl
 obtain⟨v,out,h1,_,h3⟩:=he.ok h;injection h3 with h3;injection h3 with h4 h5;subst h4 h5;exact h1
end
end Go.Am
end
section
namespace Go.Am
set_option linter.unusedVariables false
set_option maxRecDepth 20000
set_option maxHeartbeats 1000000
section
variable {B S:Int}
def EF(e:J2):Prop:=1<=e.1/\e.1<=1099511627776/\1<=e.2.2.1/\e.2.2.1<=1073741824/\0<=e.2.2.2.1/\e.2.2.2.1<e.1/\0<=e.2.2.2.2.1/\e.2.2.2.2.1<e.1/\0<=e.2.2.2.2.2.1/\e.2.2.2.2.2.1<e.1/\e.2.2.2.2.2.2.2=[]/\J1f e.2.2.2.2.2.2.1=some true/\((e.2.1=1/\e.2.2.2.2.2.1=0)\/(e.2.1=2/\0<e.2.2.2.1/\1<=e.2.2.2.2.2.1/\e.2.2.2.2.2.1<=e.2.2.2.1))
theorem JdN{x:JI}(e:J1Q x=some true):0<=x.1/\x.1<x.2:=by
 have g:Par (J1Q x) λy=>y=true->0<=x.1/\x.1<x.2:=by unfold J1Q;exact .ge (λc=>.some λd=>⟨c,J4G.1 d⟩) λ_=>.some nofun
 exact g _ e rfl
theorem EF.of{e:J2}(h:Jx e=some true)(hk:e.2.1=1\/e.2.1=2):EF e:=by
 have k1:Par (J28 e) λy=>y.2=true->y.1=e->1<=e.2.2.1/\e.2.2.1<=1073741824/\e.2.2.2.2.2.2.2=[]/\J1f e.2.2.2.2.2.2.1=some true/\((e.2.1=1/\e.2.2.2.2.2.1=0)\/(e.2.1=2/\0<e.2.2.2.1/\1<=e.2.2.2.2.2.1/\e.2.2.2.2.2.1<=e.2.2.2.1)):=by
  unfold J28;refine .eq (λk=>.bind λG h2=>.eq (λg=>by omega) λ_=>.ite (λj=>.ge (λc3=>.some λn he=>?_) λ_=>.some nofun) λ_=>.some nofun) λk=>.eq (λg=>.bind λG h2=>.eq (λ_=>.ite (λj=>.gt (λJ=>.ge (λK=>.le (λI=>.ge (λc3=>.some λn he=>?_) λ_=>.some nofun) λ_=>.some nofun) λ_=>.some nofun) λ_=>.some nofun) λ_=>.some nofun) λc=>absurd g c) λg=>by omega
  ·grind [J1R]
  grind [J1R]
 have o:Par (Jx e) λy=>y=true->EF e:=by unfold Jx;refine .bind λa ha=>.ite (λk=>.ite (λg=>.ge (λc3=>.le (λn=>.bind λb1 r=>.ite (λD=>.bind λb2 q=>.ite (λj=>.bind λH v=>.some λA=>?_) λ_=>.some nofun) λ_=>.some nofun) λ_=>.some nofun) λ_=>.some nofun) λ_=>.some nofun) λ_=>.some nofun;subst D;subst j;subst A;obtain⟨a1,a2,a3,a4,E⟩:=k1 _ ha k (J1I.1 g);obtain⟨F,B⟩:=JdN r;obtain⟨w,z⟩:=JdN q;obtain⟨x,C⟩:=JdN v;exact⟨c3,n,a1,a2,F,B,w,z,x,C,a3,a4,E⟩
 exact o _ h rfl
theorem Jqd{c:J1l}(h:J0m c=some true):Tot (J3D c) λy=>y=true:=by have e:J3D c=J0m c:=rfl;exact⟨true,e.trans h,rfl⟩
theorem JjC{c:T_api_Change}(h:J1f c=some true):Tot (J4f c) λy=>y=true:=by
 have j:Par (J1f c) λy=>y=true->0<=c.1/\c.1<64/\0<=c.2.1/\c.2.1<16/\J0m c.2.2.1=some true/\J0m c.2.2.2=some true:=by unfold J1f;refine .ge (λe=>.lt (λg=>.ge (λc3=>.lt (λk=>.bind λa ha=>.ite (λx=>.bind λb hb=>.some λr=>?_) λ_=>.some nofun) λ_=>.some nofun) λ_=>.some nofun) λ_=>.some nofun) λ_=>.some nofun;simp_all
 obtain⟨e,g,c3,k,n,q⟩:=j _ h rfl;unfold J4f;have hp:Tot (J5i c.1) λy=>y=true:=by unfold J5i;exact .ge (λ_=>.some (J4G.2 g)) λc=>absurd e c
 refine .bind hp λA d=>.ite (λ_=>.ge (λ_=>.lt (λ_=>.bind (Jqd n) λw v=>.ite (λ_=>.bind (Jqd q) λz o=>.some o) λc=>by simp_all) λc=>absurd k c) λc=>absurd c3 c) λc=>by simp_all
theorem JB6{e:J2}(h:EF e):Tot (J5U e) λy=>y=true:=by
 obtain⟨a1,a2,a3,a4,w,B,v,r,a9,k,g,q,C⟩:=h;have j: ∀{n:Int},0<=n->n<e.1->Tot (J3C (n,e)) λy=>y=true:=fun{n} h1 h2=>by unfold J3C;exact .ge (λ_=>.some (J4G.2 h2)) λc=>absurd h1 c
 have G: ∀{b:Bool} {Q:Prop},b=true->Jr b=true->Q:=fun{b Q} h1 h2=>by subst h1;cases h2
 have hb:neS e.2.2.2.2.2.2.2 []=false:=by rw[g];rfl
 have hl:J0 e.2.2.2.2.2.2.2<=8192:=by rw[g];decide
 unfold J5U;refine .ltf (λ_=>.gtf (λ_=>.ltf (λ_=>.gtf (λ_=>.bind (j w B) λH D=>.nof (λ_=>.bind (j v r) λF E=>.nof (λ_=>.bind (j a9 k) λA o=>.not (λc=>by simp_all) λ_=>?_) λc=>by simp_all) λc=>by simp_all) λc=>by omega) λc=>by omega) λc=>by omega) λc=>by omega
 refine .eq (λc=>by omega) λ_=>.eq (λc=>by omega) λ_=>.eq (λc=>by omega) λ_=>.eq (λc=>by omega) λ_=>.eq (λc=>by omega) λ_=>.eq (λc=>by omega) λ_=>.eq (λz=>?_) λz=>.eq (λx=>?_) λx=>by omega
 ·refine .ltf (λ_=>.gt (λc=>by omega) λ_=>.eq (λc=>by omega) λ_=>.ite (λc=>by simp_all) λ_=>.le (λ_=>?_) λc=>absurd hl c) λc=>by omega
  have hr:Tot (J4b e) λy=>y=true:=by unfold J4b;exact .ge (λ_=>.some (J1R.2 (by omega))) λc=>by omega
  exact .bind hr λy d=>.ite (λ_=>.bind (JjC q) λA o=>.some o) λc=>by simp_all
 ·refine .ltf (λ_=>.gt (λc=>by omega) λ_=>.ne (λc=>by omega) λ_=>.ite (λc=>by simp_all) λ_=>.le (λ_=>?_) λc=>absurd hl c) λc=>by omega
  grind [J1Z,JjC]
def pgE(e:J2):Int:=e.2.2.2.2.2.2.1.1
def J7M(r:JF):Prop:=1<=r.1/\r.1<=r.2.1/\r.2.1<=1099511627776/\0<=r.2.2.1/\r.2.2.1<=r.2.2.2.1/\r.2.2.2.1<64/\0<=r.2.2.2.2.1/\r.2.2.2.2.1<=8
def Jmi(r:JF)(e:J2):Prop:=Jx e=some true/\(e.2.1=1\/e.2.1=2)/\r.1<=e.1/\e.1<=r.2.1/\r.2.2.1<=pgE e/\pgE e<=r.2.2.2.1
def J4Z(f:Int)(a b:J2):Prop:=(pgE a<pgE b/\b.2.2.2.2.1<f)\/(pgE a=pgE b/\a.1<b.1/\b.2.2.2.2.1=a.1)
def J4r(r:JF):Prop:=J7M r/\J0 r.2.2.2.2.2<=4096/\(∀(j:Nat) (e:J2),r.2.2.2.2.2[j]?=some e->Jmi r e)/\(∀e,r.2.2.2.2.2[0]?=some e->e.2.2.2.2.1<r.1)/\ ∀(j:Nat) (a b:J2),r.2.2.2.2.2[j]?=some a->r.2.2.2.2.2[j+1]?=some b->J4Z r.1 a b
theorem J7M.of{r:JF}(h:J2n (r.1,r.2.1,r.2.2.1,r.2.2.2.1,r.2.2.2.2.1)=some true):J7M r:=by
 have e:Par (J2n (r.1,r.2.1,r.2.2.1,r.2.2.2.1,r.2.2.2.2.1)) λy=>y=true->J7M r:=by unfold J2n;exact .ge (λv=>.le (λg=>.le (λc3=>.ge (λq=>.le (λn=>.lt (λo=>.ge (λj=>.some λk=>⟨v,g,c3,q,n,o,j,J1R.1 k⟩) λ_=>.some nofun) λ_=>.some nofun) λ_=>.some nofun) λ_=>.some nofun) λ_=>.some nofun) λ_=>.some nofun) λ_=>.some nofun
 exact e _ h rfl
theorem JBj{e:J2}(h:Jz e=some true):e.2.1=1\/e.2.1=2:=by
 grind [Jz,J5h]
theorem JhZ{e:J2}(h:e.2.1=1\/e.2.1=2):Tot (Jz e) λy=>y=true:=by unfold Jz;exact .eqf (λc=>.some (J5h.2 (by omega))) λ_=>.some rfl
theorem Jqm{e:J2}(h:e.2.1=1\/e.2.1=2):Tot (J66 e) λy=>y=true:=JhZ h
theorem JlF{a b:J2}{y:Int}(h:J13 (a,b)=some y)(c: ¬0<=y):pgE a<pgE b\/(pgE a=pgE b/\a.1<b.1):=by
 have e:Par (J13 (a,b)) λy=> ¬0<=y->pgE a<pgE b\/(pgE a=pgE b/\a.1<b.1):=by unfold J13;exact .ltf (λ_=>.eq (λj=>.lt (λg=>.some λ_=>.inr ⟨j,g⟩) λ_=>.eq (λ_=>.eq (λ_=>.some λc=>absurd (J0F 0) c) λ_=>.some λc=>absurd (by decide) c) λ_=>.some λc=>absurd (by decide) c) λ_=>.eq (λ_=>.eq (λ_=>.some λc=>absurd (J0F 0) c) λ_=>.some λc=>absurd (by decide) c) λ_=>.some λc=>absurd (by decide) c) λc=>.some λ_=>.inl c
 exact e _ h c
theorem JxU{a b:J2}(h:pgE a<pgE b\/(pgE a=pgE b/\a.1<b.1)):Tot (J13 (a,b)) λy=> ¬0<=y:=by unfold pgE at h;unfold J13;exact .ltf (λc=>.eq (λe=>.lt (λg=>.some (by decide)) λc3=>by simp_all) λe=>by simp_all) λc=>.some (by decide)
theorem J4r.of{r:JF}(h:J2A r=some true):J4r r:=by
 have D:Par (J2A r) λy=>y=true->J4r r:=by
  unfold J2A;refine .bind λa ha=>.nof (λJ=>.gt (λ_=>.some nofun) λK=>?_) λ_=>.some nofun;subst J;refine .while (λz=>z.2=r/\0<=z.1/\(∀(j:Nat) (e:J2),(j:Int)<z.1->r.2.2.2.2.2[j]?=some e->Jmi r e)/\(∀e,0<z.1->r.2.2.2.2.2[0]?=some e->e.2.2.2.2.1<r.1)/\ ∀(j:Nat) (a b:J2),(j:Int)+1<z.1->r.2.2.2.2.2[j]?=some a->r.2.2.2.2.2[j+1]?=some b->J4Z r.1 a b) ⟨rfl,J0F _,λj e h=>by grind,λe h=>by simp_all,λj a b h=>by grind⟩ ?_;rintro⟨i,z⟩ ⟨rfl,G,h1,h2,h3⟩
  (try dsimp only at G h1 h2 h3 K)
  unfold J7X;dsimp only;have S:=Jb i 1;have R:=J0o i 1;refine .lt (λc=>?_) λc=>.some λ_=>⟨J7M.of ha,by omega,λj e he=>h1 j e (by have:=J51 he;omega) he,λe he=>h2 e (by have:=J51 he;omega) he,λj a b C x=>h3 j a b (by have:=J51 x;omega) C x⟩;refine .bind λe he=>.bind λb hb=>.nof (λc3=>.bind λd hd=>.nof (λI=>.ltf (λT=>.gtf (λW=>.ltf (λP=>.gt (λ_=>.some nofun) λO=>?_) λ_=>.some nofun) λ_=>.some nofun) λ_=>.some nofun) λ_=>.some nofun) λ_=>.some nofun;subst c3;subst I;obtain⟨_,M⟩:=J0H he;have H:Jmi z e:=⟨hb,JBj hd,by omega,by omega,by grind [pgE],by grind [pgE]⟩;have A:(i=0->e.2.2.2.2.1<z.1)->(∀a,0<i->z.2.2.2.2.2[(i-1).toNat]?=some a->J4Z z.1 a e)->(z=z/\0<=J1 .i64 i 1/\(∀(j:Nat) (e:J2),(j:Int)<J1 .i64 i 1->z.2.2.2.2.2[j]?=some e->Jmi z e)/\(∀e,0<J1 .i64 i 1->z.2.2.2.2.2[0]?=some e->e.2.2.2.2.1<z.1)/\ ∀(j:Nat) (a b:J2),(j:Int)+1<J1 .i64 i 1->z.2.2.2.2.2[j]?=some a->z.2.2.2.2.2[j+1]?=some b->J4Z z.1 a b):=by
   intro V Y;refine⟨rfl,by omega,λj f hj hf=>?_,λf hp hf=>?_,λj a b hj ha hb=>?_⟩
   ·by_cases hl:(j:Int)<i
    ·grind
    ·have:j=i.toNat:=by omega
     grind
   ·by_cases hi:0<i
    ·grind
    ·have F:i=0:=by omega
     subst F
     grind
   ·by_cases hl:(j:Int)+1<i
    ·grind
    ·have e1:j+1=i.toNat:=by omega
     have e2:j=(i-1).toNat:=by omega
     grind
  have o: ∀{a:J2},0<i->idx z.2.2.2.2.2 (JH .i64 i 1)=some a->z.2.2.2.2.2[(i-1).toNat]?=some a:=fun{a} hi ha=>by obtain⟨_,q⟩:=J0H ha;rw[show(i-1).toNat=(JH .i64 i 1).toNat by omega];exact q
  have zero: ¬0<i-> ¬z.1<=e.2.2.2.2.1->(z=z/\0<=J1 .i64 i 1/\(∀(j:Nat) (e:J2),(j:Int)<J1 .i64 i 1->z.2.2.2.2.2[j]?=some e->Jmi z e)/\(∀e,0<J1 .i64 i 1->z.2.2.2.2.2[0]?=some e->e.2.2.2.2.1<z.1)/\ ∀(j:Nat) (a b:J2),(j:Int)+1<J1 .i64 i 1->z.2.2.2.2.2[j]?=some a->z.2.2.2.2.2[j+1]?=some b->J4Z z.1 a b):=λhi hf=>A (λ_=>by omega) λa h=>absurd h hi;refine .gt (λn=>.bind λN w=>.bind λQ E=>.ge (λ_=>.some nofun) λB=>.gt (λ_=>.bind λU g=>.eq (λv=>.bind λL h10=>.ne (λ_=>.some nofun) λk=>.some ?_) λv=>.ge (λ_=>.some nofun) λk=>.some ?_) λc=>absurd n c) λn=>.gt (λc=>absurd c n) λ_=>.ge (λ_=>.some nofun) λk=>.some (zero n k)
  ·rw[w]at g h10;injection g with g;injection h10 with h10;subst g;subst h10;refine A (λh=>by omega) λa _ ha=>?_;rw[o n w]at ha;injection ha with ha;subst ha
   rcases JlF E B with q|⟨q1,q2⟩
   ·grind [pgE]
   ·exact .inr ⟨v,q2,k⟩
  ·rw[w]at g;injection g with g;subst g;refine A (λh=>by omega) λa _ ha=>?_;rw[o n w]at ha;injection ha with ha;subst ha
   rcases JlF E B with q|⟨q1,q2⟩
   ·exact .inl ⟨q,by omega⟩
   ·exact absurd q1 v
 exact D _ h rfl
end
section
variable {B S:Int}
theorem Jaj{α:Type}{l:List α}{i:Int}(e:0<=i)(h1:i<J0 l): ∃a,idx l i=some a/\l[i.toNat]?=some a:=by simp_all [J0,idx]
theorem Jiv{r:JF}(h:J7M r):Tot (J2n (r.1,r.2.1,r.2.2.1,r.2.2.2.1,r.2.2.2.2.1)) λy=>y=true:=by obtain⟨h1,h2,h3,h4,h5,e,j,g⟩:=h;unfold J2n;exact .ge (λ_=>.le (λ_=>.le (λ_=>.ge (λ_=>.le (λ_=>.lt (λ_=>.ge (λ_=>.some (J1R.2 g)) λc=>absurd j c) λc=>absurd e c) λc=>absurd h5 c) λc=>absurd h4 c) λc=>absurd h3 c) λc=>absurd h2 c) λc=>absurd h1 c
theorem JsO{r:JF}(h:J7M r):Tot (J4E r) λy=>y=true:=by obtain⟨h1,h2,h3,h4,h5,e,j,g⟩:=h;unfold J4E;exact .ge (λ_=>.le (λ_=>.le (λ_=>.ge (λ_=>.le (λ_=>.lt (λ_=>.ge (λ_=>.some (J1R.2 g)) λc=>absurd j c) λc=>absurd e c) λc=>absurd h5 c) λc=>absurd h4 c) λc=>absurd h3 c) λc=>absurd h2 c) λc=>absurd h1 c
theorem J03{α:Type}{o:Option α}{v:α}(h:o=some v):Tot o λy=>y=v:=⟨v,h,rfl⟩
theorem JpX{r:JF}(h:J4r r){i:Int}(hi:0<i)(hl:i<J0 r.2.2.2.2.2){a b:J2}(ha:r.2.2.2.2.2[(i-1).toNat]?=some a)(hb:r.2.2.2.2.2[i.toNat]?=some b):J4Z r.1 a b:=
 h.2.2.2.2 (i-1).toNat a b ha (by rw[show(i-1).toNat+1=i.toNat by omega];exact hb)
theorem Jld{r:JF}(h:J4r r):J2A r=some true:=by
 have n:Tot (J2A r) λy=>y=true:=by
  obtain⟨g1,g2,K,U,Z⟩:=id h;unfold J2A;refine .bind (Jiv g1) λy2 N=>.nof (λ_=>.gt (λc=>by omega) λ_=>?_) λc=>by grind
  refine Jf (τ:=Int) (λq=>(q,r)) (λq=>0<=q/\q<=J0 r.2.2.2.2.2) (λq=>J0 r.2.2.2.2.2-q) ?_ 0 rfl ⟨J0F _,J4⟩;rintro i ⟨D,h1⟩;unfold J7X;dsimp only;have T:=Jb i 1;have R:=J0o i 1;refine .lt (λc=>?_) λc=>.some rfl;obtain⟨e,he,j⟩:=Jaj D c;obtain⟨F,B,M,O,z,C⟩:=K _ e j;have k: ∃c':Int,((J1 .i64 i 1,r):Int×JF)=(c',r)/\(0<=c'/\c'<=J0 r.2.2.2.2.2)/\J0 r.2.2.2.2.2-c'<J0 r.2.2.2.2.2-i/\0<=J0 r.2.2.2.2.2-i:=⟨J1 .i64 i 1,rfl,⟨by omega,by omega⟩,by omega,by omega⟩;unfold pgE at z C;refine .bind (J03 he) λH J=>?_;subst J;refine .bind (J03 F) λS W=>.nof (λ_=>.bind (JhZ B) λV Q=>.nof (λ_=>.ltf (λ_=>.gtf (λ_=>.ltf (λ_=>.gt (λc=>by omega) λ_=>?_) λc=>by omega) λc=>by omega) λc=>by omega) λc=>by grind) λc=>by grind
  refine .gt (λg=>?_) λg=>.gt (λc=>absurd c g) λ_=>.ge (λc=>?_) λ_=>.some k
  ·have e1:JH .i64 i 1=i-1:=by omega
   rw[e1];obtain⟨a,ha,v⟩:=Jaj (l:=r.2.2.2.2.2) (i:=i-1) (by omega) (by omega);have w:=JpX h g c v j;refine .bind (J03 ha) λA E=>?_;subst E;refine .bind (JxU (a:=A) (b:=H) (by rcases w with⟨q,_⟩|⟨q1,q2,_⟩;all_goals grind)) λP I=>.ge (λc=>absurd c I) λ_=>.gt (λ_=>.bind (J03 ha) λY G=>?_) λc=>absurd g c;subst G;unfold J4Z pgE at w;refine .eq (λo=>.bind (J03 ha) λL x=>?_) λo=>.ge (λc=>by omega) λ_=>.some k;subst x;exact .ne (λc=>by omega) λ_=>.some k
  grind
 obtain⟨y,e,d⟩:=n;rw[e,d]
theorem JwV{a b:J2}(h:pgE a=pgE b/\a.1<b.1):Tot (J4d (a,b)) λy=> ¬0<=y:=by
 obtain⟨h1,h2⟩:=h;unfold pgE at h1;have g:J24 (a.2.2.2.2.2.2.1.1,b.2.2.2.2.2.2.1.1)=some 0:=by
  grind [J24,J4D,ltI,gtI]
 have e:J24 (a.1,b.1)=some (-1):=by
  grind [J24,J4D,neI,ltI]
 unfold J4d;dsimp only;rw[g,e];show Tot ((J5s [0, -1]).bind _) _;have c3:J5s [0, -1]=some (-1):=by unfold J5s;rw[Jav (s':=(0,[0, -1],J0 ([0, -1]:List Int),1)) (by rfl)];exact J7e (by rfl)
 rw[c3];exact .some (by decide)
theorem J2o{r:JF}(h:J4r r):J2c r=some true:=by
 have w:Tot (J2c r) λy=>y=true:=by
  obtain⟨g1,g2,L,T,Y⟩:=id h;unfold J2c;refine .bind (JsO g1) λZ O=>.nof (λ_=>.gt (λc=>by omega) λ_=>?_) λc=>by grind
  refine Jf (τ:=Int) (λq=>(r.2.2.2.2.2,J0 r.2.2.2.2.2,q,r)) (λq=>0<=q/\q<=J0 r.2.2.2.2.2) (λq=>J0 r.2.2.2.2.2-q) ?_ 0 rfl ⟨J0F _,J4⟩;rintro i ⟨B,h1⟩;unfold Jb3;dsimp only;have S:=Jb i 1;have Q:=J0o i 1;refine .lt (λc=>?_) λc=>.some rfl;obtain⟨e,he,g⟩:=Jaj B c;obtain⟨E,o,z,A,n,v⟩:=L _ e g;have k: ∃c':Int,((r.2.2.2.2.2,J0 r.2.2.2.2.2,J1 .i64 i 1,r):JBN)=(r.2.2.2.2.2,J0 r.2.2.2.2.2,c',r)/\(0<=c'/\c'<=J0 r.2.2.2.2.2)/\J0 r.2.2.2.2.2-c'<J0 r.2.2.2.2.2-i/\0<=J0 r.2.2.2.2.2-i:=⟨J1 .i64 i 1,rfl,⟨by omega,by omega⟩,by omega,by omega⟩;unfold pgE at n v;have hw:Tot (J5Z (r,e)) λy=>y=true:=by unfold J5Z;exact .bind (Jqm o) λy d=>.ite (λ_=>.ge (λ_=>.le (λ_=>.ge (λ_=>.some (J1R.2 A)) λc=>absurd z c) λc=>absurd v c) λc=>absurd n c) λc=>by grind
  refine .bind (J03 he) λH K=>?_;subst K;refine .bind (JB6 (EF.of E o)) λR V=>.nof (λ_=>.bind hw λU P=>.not (λc=>by grind) λ_=>?_) λc=>by grind
  refine .eqf (λF=>?_) λF=>.ge (λc=>?_) λ_=>.some k
  ·have hi:0<i:=by omega
   have e1:JH .i64 i 1=i-1:=by omega
   rw[e1];obtain⟨a,ha,x⟩:=Jaj (l:=r.2.2.2.2.2) (i:=i-1) (by omega) (by omega);have j:=JpX h hi c x g;refine .bind (J03 ha) λN C=>?_;subst C;refine .lt (λJ=>.ge (λc=>?_) λ_=>.some k) λJ=>.bind (J03 ha) λD I=>?_
   ·unfold J4Z pgE at j;omega
   ·subst I;have M:=j;unfold J4Z pgE at j;refine .bind (JwV (a:=D) (b:=H) (by unfold pgE;omega)) λW G=>.gef (λ_=>.ne (λc=>by omega) λ_=>.some k) λc=>absurd c G
  grind
 obtain⟨y,e,d⟩:=w;rw[e,d]
end
section
variable {B S:Int}
def ent(r:JF):List J2:=r.2.2.2.2.2
def JAO(r:JF)(p:Int)(k:Nat):JF:=(r.1,r.2.1,r.2.2.1,p-1,r.2.2.2.2.1,(ent r).take k)
def Jt1(r:JF)(p:Int)(k:Nat):JF:=(r.1,r.2.1,p,r.2.2.2.1,r.2.2.2.2.1,(ent r).drop k)
theorem JI2{r:JF}(h:J4r r): ∀(d j:Nat) (a b:J2),(ent r)[j]?=some a->(ent r)[j+d]?=some b->pgE a<=pgE b:=by
 intro d
 induction d with
 |zero=>simp_all
 |succ d ih=>
  intro j a b ha hb;have e:j+d<(ent r).length:=by
   grind
  have hc:=zQ9 e;have h1:=ih j a _ ha hc;have h2:=h.2.2.2.2 (j+d) _ b hc hb
  grind [J4Z]
structure Cut(r:JF)(p:Int)(k:Nat):Prop where
 le:k<=(ent r).length
 lo: ∀(j:Nat) (e:J2),j<k->(ent r)[j]?=some e->pgE e<p
 hi: ∀(j:Nat) (e:J2),k<=j->(ent r)[j]?=some e->p<=pgE e
theorem Jgs{α:Type}{l:List α}{k j:Nat}{e:α}(h:(l.take k)[j]?=some e):j<k/\l[j]?=some e:=by
 grind
theorem JHH{r:JF}{p:Int}{k:Nat}(h:J4r r)(c:Cut r p k)(hp:r.2.2.1<p)(z:p<=r.2.2.2.1):J4r (JAO r p k):=by
 obtain⟨⟨a1,a2,a3,a4,B,C,o,g⟩,g2,y,v,x⟩:=h;refine⟨⟨a1,a2,a3,a4,by show r.2.2.1<=p-1;omega,by show p-1<64;omega,o,g⟩,?_,λj e he=>?_,λe he=>?_,λj a b ha hb=>?_⟩
 ·show J0 ((ent r).take k)<=4096
  grind [J0,ent]
 ·obtain⟨h1,h2⟩:=Jgs he;obtain⟨b1,b2,q,w,n,A⟩:=y j e h2;have:=c.lo j e h1 h2;exact⟨b1,b2,q,w,n,by show pgE e<=p-1;omega⟩
 ·exact v e (Jgs he).2
 ·exact x j a b (Jgs ha).2 (Jgs hb).2
theorem JEt{r:JF}{p:Int}{k:Nat}(h:J4r r)(c:Cut r p k)(hp:r.2.2.1<p)(o:p<=r.2.2.2.1):J4r (Jt1 r p k):=by
 obtain⟨⟨a1,a2,a3,a4,E,B,w,v⟩,g2,C,z,q⟩:=h;have g: ∀{j:Nat} {e:J2},((ent r).drop k)[j]?=some e->(ent r)[k+j]?=some e:=fun{j e} h=>by grind
 refine⟨⟨a1,a2,a3,by show 0<=p;omega,o,B,w,v⟩,?_,λj e he=>?_,λe he=>?_,λj a b ha hb=>?_⟩
 ·show J0 ((ent r).drop k)<=4096
  grind [J0,ent]
 ·have h2:=g he;obtain⟨b1,b2,y,A,D,x⟩:=C _ e h2;exact⟨b1,b2,y,A,c.hi _ e (Nat.le_add_right _ _) h2,x⟩
 ·have h2:=g he;rw[JhT]at h2;by_cases hk:k=0
  ·subst hk;exact z e h2
  ·have n:k-1<(ent r).length:=by grind
   have ha:=zQ9 n;have q1:=c.lo (k-1) _ (by omega) ha;have q2:=c.hi k e (zQ0 _) h2;have q3:=q (k-1) _ e ha (by rw[show k-1+1=k by omega];exact h2);unfold J4Z at q3;show e.2.2.2.2.1<r.1;omega
 ·have h1:=g ha;have h2:=g hb;exact q (k+j) a b h1 h2
theorem Jff{α:Type}{bytes:Nat}{l m:List α}(h:J0 l+J0 m<=34359738368)(hb:bytes<=2048):JA bytes l m=some (l++m):=by
 grind [JA,JgH,J0]
theorem JCU(l:List J2)(hl:J0 l<=4096):J46 (l,l)=some true:=by
 have g:Tot (J46 (l,l)) λy=>y=true:=by
  unfold J46;refine .ne (λc=>absurd rfl c) λ_=>Jf (τ:=Int) (λq=>(l,l,q)) (λq=>0<=q/\q<=J0 l) (λq=>J0 l-q) ?_ 0 rfl ⟨J0F _,J4⟩;rintro i ⟨h,h1⟩;unfold J9Q;dsimp only;have r:=Jb i 1;refine .lt (λc=>?_) λ_=>.some rfl;obtain⟨e,he,_⟩:=Jaj h c;refine .bind (J03 he) λn k=>.bind (J03 he) λo j=>.not (λc=>?_) λ_=>.some ⟨J1 .i64 i 1,rfl,⟨by omega,by omega⟩,by omega,by omega⟩
  grind [J1I]
 obtain⟨y,e,d⟩:=g;rw[e,d]
theorem JDw{r:JF}{p:Int}(h:J4r r)(hp:zFt 0 0 (.i .i64) p):Tot (J1p (ent r,p)) λy=>y.2=p/\((y.1= -1/\Cut r p (ent r).length)\/(0<=y.1/\Cut r p y.1.toNat)):=by
 have g2:J0 (ent r)<=4096:=h.2.1;unfold J1p;dsimp only;refine Jf (τ:=Int) (λq=>(ent r,J0 (ent r),q,p)) (λq=>0<=q/\q<=J0 (ent r)/\ ∀(j:Nat) (e:J2),(j:Int)<q->(ent r)[j]?=some e->pgE e<p) (λq=>J0 (ent r)-q) ?_ 0 rfl ⟨J0F _,J4,λj e hj=>by omega⟩;rintro i ⟨g,h1,h2⟩;unfold J3t;dsimp only;have x:=Jb i 1;refine .lt (λc=>?_) λc=>.some ⟨rfl,.inl ⟨rfl,zQ0 _,λj e hj he=>h2 j e (by grind [J0]) he,λj e hj he=>by simp_all⟩⟩;obtain⟨e,he,o⟩:=Jaj g c;refine .bind (J03 he) λk v=>?_;subst v;unfold J6Z;refine .bind (.some (Q:=λy:Bool×Int=>y=(geI (pgE k) p,p)) rfl) λz w=>?_;subst w;refine .ite (λn=>.some ⟨rfl,.inr ⟨g,?_,λj f hj hf=>h2 j f (by omega) hf,λj f hj hf=>?_⟩⟩) λn=>.some ⟨J1 .i64 i 1,rfl,⟨by omega,by omega,λj f hj hf=>?_⟩,by omega,by omega⟩
 ·grind
 ·have q:=J9V.1 n;have q2:=JI2 h (j-i.toNat) i.toNat k f o (by simp_all);omega
 ·by_cases hl:(j:Int)<i
  all_goals grind [J9V]
theorem JwB{l:List J2}(h:J0 l<=4096):J0k l=some l:=by unfold J0k J1J;rw[if_pos (JgH (by unfold J0 at h;omega) (by decide))]
theorem JFs{r:JF}{p:Int}(h:J4r r)(hp:zFt 0 0 (.i .i64) p)(h1:r.2.2.1<p)(h2:p<=r.2.2.2.1):Tot (J6D (r,p)) λy=> ∃k,Cut r p k/\y=(JAO r p k,Jt1 r p k,0):=by
 have g2:J0 (ent r)<=4096:=h.2.1;have q:=J3.1 hp;have H:=J0o p 1;have F:=h.1.2.2.2.1;unfold J6D;dsimp only;refine .bind (J03 (J2o h)) λI G=>.not (λc=>by simp_all) λ_=>.lef (λ_=>.gt (λc=>absurd h2 (by omega)) λ_=>?_) λc=>by omega
 refine .bind (JDw h hp) λg ⟨z,hc⟩=>?_;have ep:JH .i64 g.2 1=p-1:=by rw[z];omega
 have B: ∀k:Nat,J0 ((ent r).take k)<=4096:=λk=>by grind [J0]
 have C: ∀k:Nat,J0 ((ent r).drop k)<=4096:=λk=>by grind [J0]
 have part: ∀(k:Int),0<=k->k<=J0 (ent r)->Cut r p k.toNat->Tot ((J0s r.2.2.2.2.2 none (some k)).bind λv=>
   (J0k v).bind λx=>
   (J0s r.2.2.2.2.2 (some k) none).bind λj=>
   (J0k j).bind λn=>
   some ((r.1,r.2.1,r.2.2.1,JH .i64 g.2 1,r.2.2.2.2.1,x),(r.1,r.2.1,g.2,r.2.2.2.1,r.2.2.2.2.1,n),(0:Int))) λy=> ∃k,Cut r p k/\y=(JAO r p k,Jt1 r p k,0):=λk o k1 e=>by
  refine .bind (Jor (l:=r.2.2.2.2.2) o k1) λv ⟨D,_⟩=>?_;subst D;refine .bind (J03 (JwB (B k.toNat))) λx E=>.bind (Jbx (l:=r.2.2.2.2.2) o k1) λj ⟨A,_⟩=>?_;subst E;subst A;refine .bind (J03 (JwB (C k.toNat))) λn w=>.some ⟨k.toNat,e,?_⟩;subst w;rw[ep,z];rfl
 refine .lt (λc=>?_) λc=>?_
 ·rcases hc with⟨_,e⟩|⟨h,_⟩
  ·exact part (J0 r.2.2.2.2.2) J4 (J0F _) e
  ·omega
 ·rcases hc with⟨h,_⟩|⟨h,e⟩
  ·omega
  ·exact part g.1 h (by have:=e.le;grind [J0]) e
end
section
variable {B S:Int}
theorem JkO{a b lv:Int}(h1:1<=a)(h2:a<=b)(h3:b<=100)(h4:0<=lv)(h5:lv<=8):J4r (a,b,0,0,lv,[]):=
 ⟨⟨h1,h2,by grind,by simp_all,by simp_all,by simp_all,h4,h5⟩,by simp[J0],λj e h=>by simp at h,λe h=>by simp at h,λj a b h=>by simp at h⟩
theorem JAT:J61 ()=some true:=by
 have v1:=J2o (JkO (a:=1) (b:=2) (lv:=0) (by decide) (by decide) (by decide) (by decide) (by decide));have v2:=J2o (JkO (a:=3) (b:=3) (lv:=0) (by decide) (by decide) (by decide) (by decide) (by decide));have v3:=J2o (JkO (a:=1) (b:=3) (lv:=1) (by decide) (by decide) (by decide) (by decide) (by decide));have m:J2W (([]:List J2),[])=some []:=by unfold J2W;refine J7e ?_;unfold J70;dsimp only;rw[if_pos (by rfl),Jff (α:=J2) (l:=[]) (m:=[]) (by decide) (by decide)];rfl
 have g:Tot (J0R ((1,2,0,0,0,[]),3,3,0,0,0,[])) λy=>y=((1,3,0,0,1,[]),0):=by
  unfold J0R;dsimp only;refine .bind (J03 v1) λo h=>.nof (λ_=>.bind (J03 v2) λr q=>.not (λc=>by simp_all) λ_=>?_) λc=>by simp_all
  have k:J3y ((1,2,0,0,0,([]:List J2)),3,3,0,0,0,([]:List J2))=some true:=by rfl
  refine .bind (J03 k) λz A=>.not (λc=>by simp_all) λ_=>.gef (λ_=>.gt (λc=>absurd c (by decide)) λ_=>?_) λc=>absurd c (by decide);refine .bind (J03 m) λw n=>?_;subst n;have e1:J1 .i64 (J1m 0 0) 1=1:=by rfl
  rw[e1];exact .bind (J03 v3) λx v=>.not (λc=>by simp_all) λ_=>.some rfl
 have j:Tot (J61 ()) λy=>y=true:=by unfold J61;refine .bind g λo h=>?_;subst h;exact .eq (λ_=>.eq (λ_=>.eq (λ_=>.some (by rfl)) λc=>absurd rfl c) λc=>absurd rfl c) λc=>absurd rfl c
 obtain⟨y,e,d⟩:=j;rw[e,d]
theorem JGU{l:List Int}{y:Jp}(e:J4m (l,400)=some y):y.2=0/\J0 y.1<=400:=by
 have g:Par (J4m (l,400)) λy=>y.2=0/\J0 y.1<=400:=by unfold J4m;dsimp only;refine .gt (λc=>.bind λa ha=>.some ⟨rfl,?_⟩) λc=>.some ⟨rfl,by simp_all⟩;obtain⟨r,hr,_,h2⟩:=Jor (l:=l) (k:=400) (by decide) (by omega);simp_all
 exact g _ e
end
section
variable {B S:Int}
theorem JiP(x:Int×J2):Tot (J3C x) λy=>y=true->0<=x.1/\x.1<x.2.1:=by unfold J3C;exact .ge (λc=>.some λd=>⟨c,J4G.1 d⟩) λ_=>.some nofun
theorem Jzk(c:J1l):Tot (J3D c) λy=>J0m c=some y:=by
 have g:Tot (J0m c) λ_=>True:=by unfold J0m;exact .ite (λ_=>.itf (λ_=>.some trivial) λ_=>.some trivial) λ_=>.some trivial
 obtain⟨y,e,_⟩:=g;exact⟨y,e,e⟩
theorem JEv(n:Int):Tot (J5i n) λy=>y=true->0<=n/\n<64:=by unfold J5i;exact .ge (λc=>.some λd=>⟨c,J4G.1 d⟩) λ_=>.some nofun
theorem JpY(c:T_api_Change):Tot (J4f c) λy=>y=true->J1f c=some true:=by
 unfold J4f;refine .bind (JEv c.1) λk h2=>.ite (λe=>.ge (λc3=>.lt (λn=>.bind (Jzk c.2.2.1) λj h3=>.ite (λh=>.bind (Jzk c.2.2.2) λo h4=>.some λg=>?_) λ_=>.some nofun) λ_=>.some nofun) λ_=>.some nofun) λ_=>.some nofun
 grind [J1f,J9V,J4G]
theorem JHq(c:T_api_Change):Tot (J5u c) λ_=>True:=⟨_,rfl,trivial⟩
theorem JGF(e:J2):Tot (J1Z e) λ_=>True:=⟨_,rfl,trivial⟩
theorem JKH(e:J2):Tot (J4b e) λy=>y=true->1<=e.2.2.2.2.2.1/\e.2.2.2.2.2.1<=e.2.2.2.1:=by unfold J4b;exact .ge (λc=>.some λd=>⟨c,J1R.1 d⟩) λ_=>.some nofun
theorem JKi(c:T_api_Change):Tot (J7a c) λ_=>True:=by unfold J7a;exact .ite (λ_=>.ite (λ_=>.some trivial) λ_=>.some trivial) λ_=>.some trivial
theorem Jzn{l:List UInt8}(h:neS l []=false):l=[]:=by
 grind [neS]
theorem JI0(e:J2):Tot (J5U e) λy=>y=true->(e.2.1=1\/e.2.1=2)->EF e:=by
 have g: ∀{o:Option Bool},(3<=e.2.1\/e.2.1<=0)->Tot o (λ_=>True)->Tot o λy=>y=true->(e.2.1=1\/e.2.1=2)->EF e:=λh B=>B.mono λ_ _ _ hk=>by omega
 unfold J5U;refine .ltf (λa1=>.gtf (λa2=>.ltf (λa3=>.gtf (λa4=>.bind (JiP _) λH h2=>.nof (λx=>.bind (JiP _) λF h3=>.nof (λA=>.bind (JiP _) λG h4=>.not (λ_=>.some nofun) λE=>?_) λ_=>.some nofun) λ_=>.some nofun) λ_=>.some nofun) λ_=>.some nofun) λ_=>.some nofun) λ_=>.some nofun;have b2:=h2 x;have j:=h3 A;have k:=h4 E;refine .eq (λc=>g (by omega) ?_) λ_=>.eq (λc=>g (by omega) ?_) λ_=>.eq (λc=>g (by omega) ?_) λ_=>.eq (λc=>g (by omega) ?_) λ_=>.eq (λc=>g (by omega) ?_) λ_=>.eq (λc=>g (by omega) ?_) λ_=>.eq (λw=>?_) λw=>.eq (λv=>?_) λv=>by omega
 case refine_7=>refine .ltf (λC=>.gt (λ_=>.some nofun) λD=>.eq (λ_=>.some nofun) λr=>.ite (λ_=>.some nofun) λn=>.le (λ_=>.bind (JKH e) λy h=>.ite (λd=>.bind (JpY _) λz hz=>.some λq _=>?_) λ_=>.some nofun) λ_=>.some nofun) λ_=>.some nofun;obtain⟨q1,q2⟩:=h d;exact⟨by omega,by omega,by omega,by omega,b2.1,b2.2,j.1,j.2,k.1,k.2,Jzn n,hz q,.inr ⟨w,by have:=b2.1;(try dsimp only at this);omega,q1,q2⟩⟩
 case refine_8=>refine .ltf (λC=>.gt (λ_=>.some nofun) λD=>.ne (λ_=>.some nofun) λr=>.ite (λ_=>.some nofun) λn=>.le (λ_=>.bind (JGF e) λy h=>.ite (λd=>.bind (JpY _) λz hz=>.some λq _=>?_) λ_=>.some nofun) λ_=>.some nofun) λ_=>.some nofun;exact⟨by omega,by omega,by omega,by omega,b2.1,b2.2,j.1,j.2,k.1,k.2,Jzn n,hz q,.inl ⟨v,r⟩⟩
 all_goals repeat' first
  |exact .some trivial
  |refine .ite (λ_=>?_) λ_=>?_
  |refine .itf (λ_=>?_) λ_=>?_
  |refine .bind (JGF _) λ_ _=>?_
  |refine .bind (JHq _) λ_ _=>?_
  |refine .bind (JKi _) λ_ _=>?_
end
section
variable {B S:Int}
def JhS(x y:Int):Int:=if x<y then -1 else if y<x then 1 else 0
def J73(a b:J2):Int:=if JhS (pgE a) (pgE b)=0 then JhS a.1 b.1 else JhS (pgE a) (pgE b)
theorem JEK(x:Int):neI x x=false:=by simp[neI]
theorem JKB(x y:Int):J24 (x,y)=some (JhS x y):=by
 grind [J24,J4D,JhS,JEK,ltI,gtI]
theorem JKD(p q:Int):J5s [p,q]=some (if p=0 then q else p):=by
 unfold J5s;have l0: ∀p q:Int,J8C (0,[p,q],J0 [p,q],0)=if neI p 0=true then some (.inr p)else some (.inl (0,[p,q],J0 [p,q],1)):=λp q=>rfl
 have e: ∀p q:Int,J8C (0,[p,q],J0 [p,q],1)=if neI q 0=true then some (.inr q)else some (.inl (0,[p,q],J0 [p,q],2)):=λp q=>rfl
 have l2: ∀p q:Int,J8C (0,[p,q],J0 [p,q],2)=some (.inr 0):=λp q=>rfl;by_cases hp:p=0
 ·subst hp;rw[if_pos rfl,Jav ((l0 0 q).trans (if_neg (by decide)))];by_cases hq:q=0
  ·subst hq;rw[Jav ((e 0 0).trans (if_neg (by decide)))]
   grind [J7e]
  grind [J7e,Jb5]
 grind [J7e,Jb5]
theorem JzP(a b:J2):J4d (a,b)=some (J73 a b):=by
 grind [J4d,J73,pgE,JKB,JKD]
theorem JzG(a b:J2):J13 (a,b)=some (J73 a b):=by
 have h:Tot (J13 (a,b)) λy=>y=J73 a b:=by
  unfold J13 J73 JhS pgE;dsimp only;refine .ltf (λc=>.eq (λg=>.lt (λj=>.some ?_) λj=>.eq (λ_=>.eq (λc3=>.some ?_) λc3=>.some ?_) λc=>absurd g c) λg=>.eq (λc=>absurd c g) λ_=>.some ?_) λc=>.some ?_
  all_goals grind
 obtain⟨y,e,d⟩:=h;rw[e,d]
def ltE(a b:J2):Prop:=pgE a<pgE b\/(pgE a=pgE b/\a.1<b.1)
theorem J9H{a b:J2}:J73 a b<0↔ltE a b:=by
 grind [J73,JhS,ltE]
theorem Je4{a b:J2}:J73 a b=0↔pgE a=pgE b/\a.1=b.1:=by
 grind [J73,JhS]
theorem JJV(r:JF):Tot (J4E r) λy=>y=true->J7M r:=by unfold J4E;exact .ge (λo=>.le (λe=>.le (λc3=>.ge (λn=>.le (λj=>.lt (λk=>.ge (λg=>.some λh=>⟨o,e,c3,n,j,k,g,J1R.1 h⟩) λ_=>.some nofun) λ_=>.some nofun) λ_=>.some nofun) λ_=>.some nofun) λ_=>.some nofun) λ_=>.some nofun) λ_=>.some nofun
theorem JJc(e:J2):Tot (J66 e) λy=>y=true->e.2.1=1\/e.2.1=2:=by unfold J66;exact .eqf (λ_=>.some λd=>.inr (J5h.1 d)) λc=>.some λ_=>.inl c
theorem JJG(r:JF)(e:J2):Tot (J5Z (r,e)) λy=>y=true->(e.2.1=1\/e.2.1=2)/\r.1<=e.1/\e.1<=r.2.1/\r.2.2.1<=pgE e/\pgE e<=r.2.2.2.1:=by unfold J5Z;exact .bind (JJc e) λy h=>.ite (λd=>.ge (λk=>.le (λg=>.ge (λc3=>.some λj=>⟨h d,c3,J1R.1 j,k,g⟩) λ_=>.some nofun) λ_=>.some nofun) λ_=>.some nofun) λ_=>.some nofun
theorem JGe{t:Ty}(x:t.D):eqT t x x=true:=J1I.2 rfl
theorem JE3{e:J2}(h:EF e)(hk:e.2.1=1\/e.2.1=2):Jx e=some true:=by
 obtain⟨a1,a2,a3,a4,z,A,x,w,a9,o,C,g,v⟩:=h;have j: ∀{n:Int},0<=n->n<e.1->J1Q (n,e.1)=some true:=fun{n} h1 h2=>by
  grind [J1Q,J9V,J4G]
 have sh:Tot (J28 e) λy=>y=(e,true):=by
  unfold J28;rcases v with⟨k,q⟩|⟨k,q1,q2,q3⟩
  ·refine .eq (λ_=>.bind (J03 g) λy d=>.eq (λc=>by omega) λ_=>.ite (λ_=>.ge (λ_=>.some ?_) λc=>absurd a3 c) λc=>by simp_all) λc=>absurd k c
   grind [J1R]
  ·refine .eq (λc=>by omega) λ_=>.eq (λ_=>.bind (J03 g) λy d=>.eq (λ_=>.ite (λ_=>.gt (λ_=>.ge (λ_=>.le (λ_=>.ge (λ_=>.some ?_) λc=>absurd a3 c) λc=>absurd q3 c) λc=>absurd q2 c) λc=>absurd q1 c) λc=>by simp_all) λc=>absurd k c) λc=>absurd k c
   grind [J1R]
 have r:Tot (Jx e) λy=>y=true:=by unfold Jx;refine .bind sh λy d=>?_;subst d;exact .ite (λ_=>.ite (λ_=>.ge (λ_=>.le (λ_=>.bind (J03 (j z A)) λH D=>.ite (λ_=>.bind (J03 (j x w)) λF E=>.ite (λ_=>.bind (J03 (j a9 o)) λG B=>.some B) λc=>by simp_all) λc=>by simp_all) λc=>absurd a2 c) λc=>absurd a1 c) λc=>by grind [JGe]) λc=>by cases c
 obtain⟨y,e1,d⟩:=r;rw[e1,d]
theorem JK4(r:JF):Tot (J2c r) λy=>y=true->J4r r:=by
 unfold J2c;refine .bind (JJV r) λP g1=>.nof (λG=>.gt (λ_=>.some nofun) λU=>?_) λ_=>.some nofun;have g1:=g1 G;have F:=J4 (l:=r.2.2.2.2.2);refine Jf (τ:=Int) (λq=>(r.2.2.2.2.2,J0 r.2.2.2.2.2,q,r)) (λi=>0<=i/\i<=J0 r.2.2.2.2.2/\(∀(j:Nat) (e:J2),(j:Int)<i->r.2.2.2.2.2[j]?=some e->EF e/\(e.2.1=1\/e.2.1=2)/\r.1<=e.1/\e.1<=r.2.1/\r.2.2.1<=pgE e/\pgE e<=r.2.2.2.1)/\(∀e,0<i->r.2.2.2.2.2[0]?=some e->e.2.2.2.2.1<r.1)/\ ∀(j:Nat) (a b:J2),(j:Int)+1<i->r.2.2.2.2.2[j]?=some a->r.2.2.2.2.2[j+1]?=some b->J4Z r.1 a b) (λq=>J0 r.2.2.2.2.2-q) ?_ 0 rfl ⟨J0F _,F,λj e h=>by omega,λe h=>by omega,λj a b h=>by omega⟩;rintro i ⟨D,hn,h1,h2,h3⟩;unfold Jb3;dsimp only;have T:=Jb i 1;have R:=J0o i 1;refine .lt (λc=>?_) λc=>.some λ_=>⟨g1,by omega,λj e he=>?_,λe he=>h2 e (by have:=J51 he;omega) he,λj a b z k=>h3 j a b (by have:=J51 k;omega) z k⟩
 ·obtain⟨e,he,M⟩:=Jaj D c;refine .bind (J03 he) λg K=>?_;subst K;refine .bind (JI0 g) λS h5=>.nof (λc3=>.bind (JJG r g) λV J=>.not (λ_=>.some nofun) λH=>?_) λ_=>.some nofun;have hk:=J H;have C:EF g/\(g.2.1=1\/g.2.1=2)/\r.1<=g.1/\g.1<=r.2.1/\r.2.2.1<=pgE g/\pgE g<=r.2.2.2.1:=⟨h5 c3 hk.1,hk⟩;have v:(i=0->g.2.2.2.2.1<r.1)->(∀a,0<i->r.2.2.2.2.2[(i-1).toNat]?=some a->J4Z r.1 a g)-> ∃c':Int,((r.2.2.2.2.2,J0 r.2.2.2.2.2,J1 .i64 i 1,r):JBN)=(r.2.2.2.2.2,J0 r.2.2.2.2.2,c',r)/\(0<=c'/\c'<=J0 r.2.2.2.2.2/\(∀(j:Nat) (e:J2),(j:Int)<c'->r.2.2.2.2.2[j]?=some e->EF e/\(e.2.1=1\/e.2.1=2)/\r.1<=e.1/\e.1<=r.2.1/\r.2.2.1<=pgE e/\pgE e<=r.2.2.2.1)/\(∀e,0<c'->r.2.2.2.2.2[0]?=some e->e.2.2.2.2.1<r.1)/\ ∀(j:Nat) (a b:J2),(j:Int)+1<c'->r.2.2.2.2.2[j]?=some a->r.2.2.2.2.2[j+1]?=some b->J4Z r.1 a b)/\J0 r.2.2.2.2.2-c'<J0 r.2.2.2.2.2-i/\0<=J0 r.2.2.2.2.2-i:=by
   intro Z n2;refine⟨J1 .i64 i 1,rfl,⟨by omega,by omega,λj f hj hf=>?_,λf hp hf=>?_,λj a b hj ha hb=>?_⟩,by omega,by omega⟩
   ·by_cases hl:(j:Int)<i
    ·grind
    ·have:j=i.toNat:=by omega
     grind
   ·by_cases hi:0<i
    ·grind
    ·have B:i=0:=by omega
     subst B
     grind
   ·by_cases hl:(j:Int)+1<i
    ·grind
    ·have e1:j+1=i.toNat:=by omega
     have e2:j=(i-1).toNat:=by omega
     grind
  refine .eqf (λn=>?_) λn=>.ge (λ_=>.some nofun) λW=>.some (v (λ_=>by omega) λa h=>by omega);have e1:JH .i64 i 1=i-1:=by omega
  rw[e1];obtain⟨a,ha,N⟩:=Jaj (l:=r.2.2.2.2.2) (i:=i-1) (by omega) (by omega);have w:J4Z r.1 a g->(∀b,0<i->r.2.2.2.2.2[(i-1).toNat]?=some b->J4Z r.1 b g):=λh b _ hb=>by
   grind
  refine .bind (J03 ha) λO E=>?_;subst E;refine .lt (λo=>.ge (λ_=>.some nofun) λc6=>.some (v (λh=>absurd h n) (w (.inl ⟨o,by omega⟩)))) λo=>.bind (J03 ha) λx I=>?_;subst I;refine .bind (J03 (JzP x g)) λY L=>.gef (λQ=>.ne (λ_=>.some nofun) λA=>.some (v (λh=>absurd h n) (w ?_))) λ_=>.some nofun;subst L;rcases(J9H (a:=x) (b:=g)).1 (by omega)with q|⟨q1,q2⟩
  ·exact absurd q o
  ·exact .inr ⟨q1,q2,A⟩
 ·obtain⟨q1,q2⟩:=h1 j e (by grind [J51]) he;exact⟨JE3 q1 q2.1,q2⟩
end
section
variable {B S:Int}
theorem ltE.trans{a b c:J2}(h1:ltE a b)(h2:ltE b c):ltE a c:=by
 grind [ltE]
def mrg:List J2->List J2->List J2
 |[],b=>b
 |x::a,[]=>x::a
 |x::a,y::b=>if J73 x y<=0 then x::mrg a (y::b)else y::mrg (x::a) b
termination_by a b=>a.length+b.length
theorem Jjd(a:List J2):mrg a []=a:=by cases a<;>simp[mrg]
def J2t:List J2->J2->List J2
 |[],e=>[e]
 |x::l,e=>if J73 x e<0 then x::J2t l e else if J73 x e=0 then x::l else e::x::l
theorem JGc{l:List J2}{e x:J2}(h:x∈J2t l e):x∈l\/x=e:=by
 induction l with
 |nil=>grind [J2t]
 |cons y l ih=>
  grind [J2t]
theorem JAa{y:J2}{b:List J2}(hb: ∀z∈b,ltE y z): ∀{a:List J2},(∀x∈a,J73 x y≠0)->mrg a (y::b)=mrg (J2t a y) b
 |[],_=>by
  cases b with
  |nil=>simp[mrg,J2t]
  |cons z b=>
   have:=(J9H (a:=y) (b:=z)).2 (hb z List.mem_cons_self)
   grind [J2t,mrg]
 |x::a,ha=>by
  have hx:=ha x List.mem_cons_self;by_cases h:J73 x y<0
  ·have e1:mrg (x::a) (y::b)=x::mrg a (y::b):=by
    grind [mrg]
   have e2:J2t (x::a) y=x::J2t a y:=by
    grind [J2t]
   rw[e1,e2,JAa hb λz hz=>ha z (JwG _ hz)];cases b with
   |nil=>simp[Jjd]
   |cons z b=>
    have h2:=(J9H (a:=x) (b:=z)).2 (((J9H (a:=x) (b:=y)).1 h).trans (hb z List.mem_cons_self))
    grind [mrg.eq_3]
  ·have e1:mrg (x::a) (y::b)=y::mrg (x::a) b:=by
    grind [mrg]
   have e2:J2t (x::a) y=y::x::a:=by
    grind [J2t]
   rw[e1,e2];cases b with
   |nil=>simp[Jjd]
   |cons z b=>
    have h2:=(J9H (a:=y) (b:=z)).2 (hb z List.mem_cons_self)
    grind [mrg.eq_3]
theorem JwQ: ∀{b a:List J2},b.Pairwise ltE->(∀x∈a,∀y∈b,J73 x y≠0)->mrg a b=b.foldl J2t a
 |[],a,_,_=>Jjd a
 |y::b,a,hs,hd=>by
  obtain⟨h1,h2⟩:=List.pairwise_cons.1 hs;rw[JAa h1 λx hx=>hd x hx y List.mem_cons_self,List.foldl_cons];refine JwQ h2 λx hx z hz=>?_;rcases JGc hx with hx|rfl
  ·grind
  ·have:=(J9H (a:=x) (b:=z)).2 (h1 z hz);omega
theorem Jhy: ∀{l:List J2},(∀(j:Nat) (a b:J2),l[j]?=some a->l[j+1]?=some b->ltE a b)->l.Pairwise ltE
 |[],_=>.nil
 |[x],_=>List.pairwise_singleton _ _
 |x::y::l,h=>by
  have ih:=Jhy (l:=y::l) λj a b ha hb=>h (j+1) a b ha hb;refine List.pairwise_cons.2 ⟨λz hz=>?_,ih⟩;have e:=h 0 x y rfl rfl;rcases J40.1 hz with rfl|hz
  ·exact e
  ·exact e.trans ((List.pairwise_cons.1 ih).1 z hz)
theorem JBx{r:JF}(h:J4r r):r.2.2.2.2.2.Pairwise ltE:=
 Jhy λj a b ha hb=>by
  rcases h.2.2.2.2 j a b ha hb with⟨q,_⟩|⟨q1,q2,_⟩
  ·exact .inl q
  ·exact .inr ⟨q1,q2⟩
theorem JCA(a0 g:List J2)(hl:J0 a0+J0 g<=8192):J2W (a0,g)=some (mrg a0 g):=by
 have B:Tot (J2W (a0,g)) λy=>y=mrg a0 g:=by
  unfold J2W;refine Jf (τ:=List J2×List J2×List J2) (λq=>q) (λq=>J0 q.1+J0 q.2.1+J0 q.2.2<=8192/\q.2.2++mrg q.1 q.2.1=mrg a0 g) (λq=>J0 q.1+J0 q.2.1) ?_ (a0,g,[]) rfl ⟨by grind [Jdm],rfl⟩;rintro⟨a,b,out⟩ ⟨h1,h2⟩
  (try dsimp only at h1 h2)
  have J:=J4 (l:=a);have F:=J4 (l:=b);have O:=J4 (l:=out);unfold J70;dsimp only;cases a with
  |nil=>
   refine .eq (λ_=>.bind (J03 (Jff (by omega) (by decide))) λy d=>.some ?_) λc=>absurd rfl c
   grind [mrg]
  |cons x a=>
   rw[J6g]at h1 J;have P:=J4 (l:=a);refine .eq (λc=>by grind [J6g]) λ_=>?_;cases b with
   |nil=>
    refine .eq (λ_=>.bind (J03 (Jff (by grind [J6g]) (by decide))) λy d=>.some ?_) λc=>absurd rfl c
    grind [Jjd]
   |cons y b=>
    rw[J6g]at h1 F;have N:=J4 (l:=b);refine .eq (λc=>by grind [J6g]) λ_=>?_;have D:idx (x::a) 0=some x:=rfl;have w:idx (y::b) 0=some y:=rfl;have s1:J0s (x::a) (some 1) none=some a:=by obtain⟨r,e,d,_⟩:=Jbx (l:=x::a) (k:=1) (by decide) (by grind [J6g]);rw[e,d];rfl
    have G:J0s (y::b) (some 1) none=some b:=by obtain⟨r,e,d,_⟩:=Jbx (l:=y::b) (k:=1) (by decide) (by grind [J6g]);rw[e,d];rfl
    have E: ∀z:J2,JA 128 out [z]=some (out++[z]):=λz=>Jff (by grind [J5G]) (by decide);have Q: ∀z:J2,J0 (out++[z])=J0 out+1:=λz=>by rw[J76,J5G]
    refine .bind (J03 D) λA K=>.bind (J03 w) λC I=>?_;subst K;subst I;refine .bind (J03 (JzP A C)) λM H=>?_;subst H;refine .le (λc=>?_) λc=>?_
    ·refine .bind (J03 D) λh o=>?_;subst o;refine .bind (J03 (E h)) λL n=>.bind (J03 s1) λv j=>.some ⟨(a,C::b,out++[h]),by rw[n,j],⟨?_,?_⟩,?_,?_⟩
     all_goals grind [J6g,mrg]
    ·refine .bind (J03 w) λh o=>?_;subst o;refine .bind (J03 (E h)) λL n=>.bind (J03 G) λv j=>.some ⟨(A::a,b,out++[h]),by rw[n,j],⟨?_,?_⟩,?_,?_⟩
     all_goals grind [J6g,mrg]
 obtain⟨y,e,d⟩:=B;rw[e,d]
end
section
variable {B S:Int}
def JL8(r:JF):Prop:=zFt 16384 9223372036854775807 J0t r
theorem vv{r:JF}(h:JL8 r): ∃v,J2c r=some v/\J2A r=some v/\(v=true->J4r r):=by
 obtain⟨y,e1,h1⟩:=JK4 r;obtain⟨z,e2,_⟩:=JgU (B:=16384) (S:=9223372036854775807) h;refine⟨y,e1,?_,h1⟩;cases y with
 |true=>grind [Jld]
 |false=>cases z<;>simp_all [J2o,J4r.of]
theorem JvQ{e:J2}{l m:List J2}(h: ∀y∈l,J73 y e<0):J2t (l++m) e=l++J2t m e:=by
 induction l with
 |nil=>rfl
 |cons y l ih=>
  grind [J2t]
theorem JIn{l:List J2}{e:J2}(hl:J0 l<=16384):Tot (J5l (l,e)) λy=>y.1=J2t l e:=by
 unfold J5l;have I:=J4 (l:=l);refine Jf (τ:=Int) (λq=>(l,q,e)) (λi=>0<=i/\i<=J0 l/\ ∀y∈l.take i.toNat,J73 y e<0) (λi=>J0 l-i) ?_ 0 rfl ⟨J0F _,I,λy hy=>by simp at hy⟩;rintro i ⟨v,h1,h2⟩;unfold J9C;dsimp only;have S:=Jb i 1;have hs:J2t l e=l.take i.toNat++J2t (l.drop i.toNat) e:=by
  grind [JvQ,List.take_append_drop]
 have put:(∀x,l[i.toNat]?=some x->0<J73 x e)->Tot ((J0s l none (some i)).bind λj=>(J1J 128 j).bind λn=>(JA 128 n [e]).bind λo=>(J0s l (some i) none).bind λh=>(JA 128 o h).bind λg=>some (g,true)) λy=>y.1=J2t l e:=by
  intro hx;obtain⟨p,e1,H,q1⟩:=Jor (l:=l) (k:=i) v h1;obtain⟨r,e2,E,_⟩:=Jbx (l:=l) (k:=i) v h1;have lp:J0 p<=16384:=by omega
  have hlen:J0 p+J0 r=J0 l:=by
   grind
  have np:=J4 (l:=p);have U:=J4 (l:=r);refine .bind (J03 e1) λj N=>?_;subst N;have K:J1J 128 j=some j:=by unfold J1J;rw[if_pos];unfold J8O;unfold J0 at lp np;simp only[decide_eq_true_eq];omega
  refine .bind (J03 K) λn M=>?_;subst M;refine .bind (J03 (Jff (l:=n) (m:=[e]) (by grind [J5G]) (by decide))) λo D=>.bind (J03 e2) λh C=>?_;subst D;subst C;refine .bind (J03 (Jff (l:=n++[e]) (m:=h) (by rw[J76,J5G];omega) (by decide))) λg B=>.some ?_;show g=J2t l e;rw[B,H,E,hs,J8U]
  congr 1
  cases hd:l.drop i.toNat<;>grind [List.head?_drop,J2t]
 refine .lt (λc=>?_) λc=>.inr (.lt (λw=>absurd w c) λ_=>put λx hx=>by have:=J51 hx;omega);obtain⟨x,hx,A⟩:=Jaj v c;refine .bind (J03 hx) λG F=>.bind (J03 (JzG G e)) λV W=>?_;subst F;refine .lt (λw=>.some ⟨J1 .i64 i 1,rfl,⟨by omega,by omega,λz hz=>?_⟩,by omega,by omega⟩) λw=>.inr (.lt (λ_=>?_) λc3=>absurd c c3)
 ·rw[show(J1 .i64 i 1).toNat=i.toNat+1 by omega,List.take_add_one,A]at hz
  grind
 ·refine .bind (J03 hx) λJ L=>.bind (J03 (JzG J e)) λT R=>?_;subst L;refine .eq (λc3=>.bind (J03 hx) λP Q=>.some ?_) λc3=>put λx O=>by grind
  grind [J2t,List.drop_eq_getElem_cons,List.take_append_drop]
end
section
variable {B S:Int}
theorem Jyb{a b:JF}(ha:J4r a)(hb:J4r b)(hc:b.1=J1 .i64 a.2.1 1):mrg (ent a) (ent b)=(ent b).foldl J2t (ent a):=by refine JwQ (JBx hb) λx hx y hy=>?_;obtain⟨j,hj⟩:=J8Q hx;obtain⟨k,hk⟩:=J8Q hy;have h1:=ha.2.2.1 j x hj;have h2:=hb.2.2.1 k y hk;have o:=Jb a.2.1 1;have q:=ha.1.2.2.1;have g:=ha.1.1;have q1:=ha.1.2.1;intro e;have e2:=(Je4.1 e).2;have h:=h1.2.2.2.1;have l2:=h2.2.2.1;omega
theorem JET(a b:JF):Tot (J3y (a,b)) λy=>y=true↔(a.2.2.1=b.2.2.1/\a.2.2.2.1=b.2.2.2.1/\b.1=J1 .i64 a.2.1 1):=by unfold J3y;exact .eq (λg=>.eq (λe=>.some ⟨λc=>⟨g,e,J5h.1 c⟩,λc=>J5h.2 c.2.2⟩) λe=>.some ⟨nofun,λc=>absurd c.2.1 e⟩) λg=>.some ⟨nofun,λc=>absurd c.1 g⟩
end
end Go.Am
end
section
namespace Go.Am
set_option linter.unusedVariables false
set_option maxRecDepth 20000
set_option maxHeartbeats 1000000
section
variable {B S:Int}
def J0G(l:List J2)(p:Int):Int:=l.foldl (λa e=>if(e.2.1=1\/e.2.1=2)/\pgE e=p then e.1 else a) 0
theorem J7c(l:List J2)(e:J2)(p:Int):J0G (l++[e]) p=if(e.2.1=1\/e.2.1=2)/\pgE e=p then e.1 else J0G l p:=by simp[J0G]
theorem J6q{l:List J2}{e:J2}{p:Int}(h: ¬((e.2.1=1\/e.2.1=2)/\pgE e=p)):J0G (l++[e]) p=J0G l p:=by
 grind [J7c]
structure Rel(l:List J2)(n:Int)(fr:List T_api_Frame)(lk rows:List T_api_Row):Prop where
 rng: ∀f∈fr,0<=f.1.1/\f.1.1<n
 one:fr.Pairwise λa b=>a.1.1≠b.1.1
 apt: ∀f∈fr,∀d∈lk,d.1≠f.1.1
 hot: ∀f∈fr,f.1.2.1=J0G l f.1.1/\(f.2.1=false-> ∀r,idx rows f.1.1=some r->r.1=J0G l f.1.1)
 lak: ∀d∈lk,d.2.2=J0G l d.1
 row: ∀p r,idx rows p=some r->r.1<=J0G l p/\((∀f∈fr,f.1.1≠p)->(∀d∈lk,d.1≠p)->r.1=J0G l p)
def JAJ(m:List J2)(s:List UInt8):Prop:= ∀c,J35 s=some (c,0)->Rel m c.1 [] c.2.2.2.1 c.2.2.2.2
def Jti(m:List J2)(e:J2):Prop:=e.1=J0 m+1/\Jx e=some true/\((e.2.1=1\/e.2.1=2)->e.2.2.2.2.1=J0G m (pgE e))/\(e.2.1=7->e.2.2.2.2.2.1<=J0G m (pgE e))/\(e.2.1=6->JAJ m e.2.2.2.2.2.2.2)
def J2N(l:List J2):Prop:= ∀(i:Nat) e,l[i]?=some e->Jti (l.take i) e
def J72(l:JO):Prop:=l.1=1/\0<=l.2.2/\l.2.2<=J0 l.2.1/\J0 l.2.1<=4096
def JC(k:J6):Prop:=J72 k.2.2.1/\J2N k.2.2.1.2.1/\Rel k.2.2.1.2.1 k.1 k.2.2.2.1.2.1 k.2.2.2.2.2.2.2 k.2.2.2.2.2.2.1
theorem J2N.app{l:List J2}{e:J2}(h:J2N l)(he:Jti l e):J2N (l++[e]):=by
 intro i x hx;by_cases hi:i<l.length
 ·rw[JkM hi]at hx;rw[List.take_append_of_le_length (Nat.le_of_lt hi)];exact h i x hx
 grind
theorem J2N.take{l:List J2}(h:J2N l)(n:Nat):J2N (l.take n):=by
 intro i x hx;rw[Jus]at hx;split at hx
 ·rename_i hi;rw[List.take_take,Nat.min_eq_left (Nat.le_of_lt hi)];exact h i x hx
 ·cases hx
theorem JpH{l:List J2}(h:J2N l)(p:Int):0<=J0G l p/\J0G l p<=J0 l:=by
 have g: ∀n:Nat,0<=J0G (l.take n) p/\J0G (l.take n) p<=J0 l:=by
  intro n
  induction n with
  |zero=>exact⟨J0F _,J4⟩
  |succ n ih=>
   rw[List.take_add_one];cases hn:l[n]? with
   |none=>simpa using ih
   |some e=>
    have hl:=J51 hn;have he:=(h n e hn).1
    grind [J0,J7c]
 have:=g l.length;simp_all
theorem Rel.ent{l:List J2}{n:Int}{fr:List T_api_Frame}{lk rows:List T_api_Row}(h:Rel l n fr lk rows){e:J2}(he: ¬(e.2.1=1\/e.2.1=2)):Rel (l++[e]) n fr lk rows:=by have k: ∀p,J0G (l++[e]) p=J0G l p:=λp=>J6q λh=>he h.1;exact⟨h.rng,h.one,h.apt,by simpa only[k]using h.hot,by simpa only[k]using h.lak,by simpa only[k]using h.row⟩
def upw{α:Type}(P:α->Prop)(l:List α)(i:Int):Prop:=i<=9223372036854775807/\(0<=i->Jws P l i)
theorem Jjg{α:Type}{P:α->Prop}{l:List α}:upw P l 0:=⟨by decide,λ_=>JJC⟩
theorem J9J{α:Type}{P:α->Prop}{l:List α}{i:Int}{x:α}(h:upw P l i)(e:idx l i=some x)(hx:P x):upw P l (J1 .i64 i 1):=by have o:=Jb i 1;obtain⟨g,_⟩:=J0H e;have h1:=h.1;refine⟨by omega,λh2=>JDA (h.2 g) e hx (by omega)⟩
theorem Jcz{α:Type}{P:α->Prop}{l:List α}{i:Int}(h:upw P l i)(hi: ¬i<J0 l): ∀x∈l,P x:=JEi (h.2 (by have:=J4 (l:=l);omega)) hi
theorem J5f{α:Type}{l:List α}{i:Int}{x:α}(e:idx l i=some x):x∈l:=zQ5 (J0H e).2
theorem Juc{α:Type}{l r:List α}{k:Int}(h:J0s l (some k) none=some r):0<=k/\r=l.drop k.toNat:=by
 have g:0<=k:=by grind [J0s,JeM,Jgi]
 have h1:k<=J0 l:=by grind [J0s,JeM,Jgi,J0]
 obtain⟨r',e,d,_⟩:=Jbx g h1;simp_all
theorem JDy{α:Type}{l r:List α}{k:Int}(h:J0s l none (some k)=some r):0<=k/\k<=J0 l/\r=l.take k.toNat:=by
 grind [J0s,JeM,Jgi,J0]
theorem Ji9{α:Type}{b:Nat}{l r:List α}(h:J1J b l=some r):r=l:=by grind [J1J]
theorem J3w{α:Type}{b:Nat}{l m r:List α}(h:JA b l m=some r):r=l++m:=by grind [JA]
theorem Jih{l:JO}{y:Bool}(e:J02 l=some y)(c:y=true):1<=l.1/\l.1<=1099511627776/\J0 l.2.1<=4096:=by
 have g:Par (J02 l) λy=>y=true->1<=l.1/\l.1<=1099511627776/\J0 l.2.1<=4096:=by unfold J02;exact .ltf (λj=>.gtf (λh=>.gtf (λc3=>.ltf (λ_=>.bind λ_ _=>.ite (λ_=>.some nofun) λ_=>λ_ _ _=>⟨by omega,by omega,by omega⟩) λ_=>.some nofun) λ_=>.some nofun) λ_=>.some nofun) λ_=>.some nofun
 exact g _ e c
theorem JhX{l:JO}{n:Int}(h:J1Y l=some n)(h1:1<=l.1)(h2:l.1<=1099511627776)(h3:J0 l.2.1<=4096):n=l.1+J0 l.2.1-1:=by
 grind [J1Y,Jb,J0,J0o]
theorem JEL{l:JO}{e:J2}{y:Jg5}(h:J0y (l,e)=some y)(c:y.2.2=0)(hl:l.1=1):y.1=(l.1,l.2.1++[(J0 l.2.1+1,e.2)],l.2.2)/\y.2.1=J0 l.2.1+1/\Jx (J0 l.2.1+1,e.2)=some true/\J0 l.2.1+1<=4096:=by
 have g:Par (J0y (l,e)) λy=>y.2.2=0->y.1=(l.1,l.2.1++[(J0 l.2.1+1,e.2)],l.2.2)/\y.2.1=J0 l.2.1+1/\Jx (J0 l.2.1+1,e.2)=some true/\J0 l.2.1+1<=4096:=by
  unfold J0y;dsimp only;refine .bind λA h2=>.not (λ_=>.some nofun) λj=>.eqf (λo=>.bind λq h3=>.eq (λ_=>.some nofun) λ_=>.bind λx h4=>.bind λv h5=>.not (λ_=>.some nofun) λk=>.bind λw z=>.bind λn r=>.some λ_=>?_) λ_=>.some nofun;subst k;obtain⟨v1,v2,v3⟩:=Jih h2 j
  grind [JhX,Jb,J0,J3w,Ji9]
 exact g _ h c
theorem Jec{l:JO}{n:Int}{y:J6z}(h:J19 (l,n)=some y)(c:y.2=0):y.1.2.1=l.2.1/\(J72 l->J72 y.1):=by
 have e:Par (J19 (l,n)) λy=>y.2=0->y.1.2.1=l.2.1/\(J72 l->J72 y.1):=by
  unfold J19;refine .bind λ_ h2=>.not (λ_=>.some nofun) λg=>.bind λm hm=>.gt (λ_=>.some nofun) λk=>.some λ_=>⟨rfl,λhi=>⟨hi.1,?_⟩⟩;obtain⟨v1,v2,v3⟩:=Jih h2 g;have:=JhX hm v1 v2 v3;obtain⟨r,j,o,q⟩:=hi;have:=J6I l.2.2 n
  grind
 exact e _ h c
abbrev eZ:J2:=(0,0,0,0,0,0,(0,0,(false,[]),false,[]),[])
theorem JKz:Jx eZ=some false:=rfl
theorem JHe{l:JO}{n:Int}{y:Je5}(h:J0A (l,n)=some y):(y.2=0/\idx l.2.1 (JH .i64 n l.1)=some y.1)\/(y.2≠0/\y.1=eZ):=by
 have e:Par (J0A (l,n)) λy=>(y.2=0/\idx l.2.1 (JH .i64 n l.1)=some y.1)\/(y.2≠0/\y.1=eZ):=by unfold J0A;exact .bind λ_ _=>.not (λ_=>.some (.inr ⟨by decide,rfl⟩)) λ_=>.ltf (λ_=>.bind λ_ _=>.gt (λ_=>.some (.inr ⟨by decide,rfl⟩)) λ_=>.bind λ_ h=>.some (.inl ⟨rfl,h⟩)) λ_=>.some (.inr ⟨by decide,rfl⟩)
 exact e _ h
theorem J84{p:JG}{id y:Int}(h:J1d (p,id)=some y):y<=9223372036854775807/\(0<=y-> ∃f,idx p.2.1 y=some f/\f.1.1=id)/\(y<0-> ∀f∈p.2.1,f.1.1≠id):=by
 have g:Par (J1d (p,id)) λy=>y<=9223372036854775807/\(0<=y-> ∃f,idx p.2.1 y=some f/\f.1.1=id)/\(y<0-> ∀f∈p.2.1,f.1.1≠id):=by
  unfold J1d;refine .while (λz=>z.1=id/\z.2.2=p/\upw (λf:T_api_Frame=>f.1.1≠id) p.2.1 z.2.1) ⟨rfl,rfl,Jjg⟩ ?_;rintro⟨a,i,q⟩ ⟨rfl,rfl,hu⟩;unfold J6F;refine .lt (λc=>.bind λf hf=>.eq (λe=>.some ⟨hu.1,λ_=>⟨f,hf,e⟩,λh=>?_⟩) λe=>.some ⟨rfl,rfl,J9J hu hf e⟩) λc=>.some ⟨by decide,λh=>absurd h (by decide),λ_=>Jcz hu c⟩;have:=(J0H hf).1
  grind
 exact g _ h
theorem Jl0{p:JG}{id y:Int}(h:J0U (p,id)=some y):(0<=y-> ∃f,idx p.2.1 y=some f/\f.1.1=id)/\(y<0->JR p=some true-> ∀f∈p.2.1,f.1.1≠id):=by
 have e:Par (J0U (p,id)) λy=>(0<=y-> ∃f,idx p.2.1 y=some f/\f.1.1=id)/\(y<0->JR p=some true-> ∀f∈p.2.1,f.1.1≠id):=by unfold J0U;refine .bind λv hv=>.not (λc=>.some ⟨λh=>absurd h (by decide),λ_ h=>?_⟩) λ_=>.bind λg h2=>.some ⟨(J84 h2).2.1,λh _=>(J84 h2).2.2 h⟩;simp_all
 exact e _ h
theorem Jbb{p:JG}{id:Int}{y:JT×Bool}(h:J2m (p,id)=some y):(y.2=true-> ∃f∈p.2.1,f.1=y.1/\f.1.1=id)/\(y.2=false->JR p=some true-> ∀f∈p.2.1,f.1.1≠id):=by
 have e:Par (J2m (p,id)) λy=>(y.2=true-> ∃f∈p.2.1,f.1=y.1/\f.1.1=id)/\(y.2=false->JR p=some true-> ∀f∈p.2.1,f.1.1≠id):=by
  unfold J2m;refine .bind λi hi=>.lt (λc=>.some ⟨nofun,λ_=>(Jl0 hi).2 c⟩) λc=>.bind λf hf=>.some ⟨λ_=>?_,nofun⟩;obtain⟨g,h1,h2⟩:=(Jl0 hi).1 (by omega)
  grind [J5f]
 exact e _ h
end
end Go.Am
end
section
namespace Go.Am
set_option linter.unusedVariables false
set_option maxRecDepth 20000
set_option maxHeartbeats 1000000
section
variable {B S:Int} {l l':List J2} {n:Int} {fr:List T_api_Frame} {lk lk' rows rows':List T_api_Row} {f f':T_api_Frame} {i:Int}
theorem JCB(h:fr.Pairwise λa b=>a.1.1≠b.1.1){i j:Nat}{a b:T_api_Frame}(ha:fr[i]?=some a)(hb:fr[j]?=some b)(e:a.1.1=b.1.1):i=j:=by
 have:=List.pairwise_iff_getElem.1 h;obtain⟨h1,rfl⟩:=J3Z.1 ha;obtain⟨h2,rfl⟩:=J3Z.1 hb
 grind
theorem JFi(hf:idx fr i=some f)(k:f'.1.1=f.1.1)(h:fr.Pairwise λa b=>a.1.1≠b.1.1){x:T_api_Frame}(hx:x∈fr.set i.toNat f'):x=f'\/(x∈fr/\x.1.1≠f.1.1):=by
 obtain⟨n,hf⟩:=J0H hf;obtain⟨j,hj⟩:=J5w.1 hx;rw[List.getElem?_set]at hj;split at hj
 ·split at hj
  ·injection hj with hj;exact .inl hj.symm
  ·cases hj
 ·rename_i g;exact .inr ⟨zQ5 hj,λe=>g (JCB h hf hj e.symm)⟩
theorem Rel.upd(h:Rel l n fr lk rows)(hf:idx fr i=some f)(g:f'.1.1=f.1.1)(ho: ∀q,q≠f.1.1->J0G l' q=J0G l q)(hr: ∀q,q≠f.1.1->idx rows' q=idx rows q)(h1:f'.1.2.1=J0G l' f.1.1)
  (h2:f'.2.1=false-> ∀r,idx rows' f.1.1=some r->r.1=J0G l' f.1.1) (h3: ∀r,idx rows' f.1.1=some r->r.1<=J0G l' f.1.1):Rel l' n (fr.set i.toNat f') lk rows':=by
 have hm:=J5f hf;have hs: ∀{x:T_api_Frame},x∈fr.set i.toNat f'->x=f'\/(x∈fr/\x.1.1≠f.1.1):=λhx=>JFi hf g h.one hx;have z:f'∈fr.set i.toNat f':=by obtain⟨y,hf⟩:=J0H hf;exact List.mem_set (J3Z.1 hf).1 _
 refine⟨λx hx=>?_,?_,λx hx d hd=>?_,λx hx=>?_,λd hd=>?_,λp r hp=>?_⟩
 ·rcases hs hx with rfl|⟨hx,_⟩
  ·rw[g];exact h.rng _ hm
  ·exact h.rng _ hx
 ·have q:=h.one;obtain⟨y,hf⟩:=J0H hf;rw[List.pairwise_iff_getElem]at q⊢;intro a b ha hb w;obtain⟨hl,rfl⟩:=J3Z.1 hf;simp only[List.getElem_set];simp only[List.length_set]at ha hb;have q1:=q a b ha hb w
  grind
 ·rcases hs hx with rfl|⟨hx,_⟩
  ·rw[g];exact h.apt _ hm d hd
  ·exact h.apt _ hx d hd
 ·rcases hs hx with rfl|⟨hx,o⟩
  ·rw[g];exact⟨h1,h2⟩
  ·rw[ho _ o,hr _ o];exact h.hot _ hx
 ·rw[h.lak d hd,ho];exact h.apt _ hm d hd
 ·by_cases k:p=f.1.1
  ·subst k;exact⟨h3 r hp,λhq=>absurd g (hq _ z)⟩
  ·rw[hr _ k]at hp;obtain⟨q1,q2⟩:=h.row p r hp;rw[ho _ k];refine⟨q1,λa b=>q2 (λx hx e=>?_) b⟩;have v:x∈fr.set i.toNat f':=by
    obtain⟨y,hf⟩:=J0H hf;obtain⟨j,hj⟩:=J5w.1 hx;refine zQ5 (i:=j) ?_;rw[List.getElem?_set,if_neg]
    ·exact hj
    ·rintro rfl;rw[hf]at hj;injection hj with hj;subst hj;exact k e.symm
   exact a x v e
theorem Rel.drop(h:Rel l n fr lk rows)(hf:idx fr i=some f)(hc:f.2.1=false):Rel l n (fr.eraseIdx i.toNat) lk rows:=by
 have hm: ∀{x:T_api_Frame},x∈fr.eraseIdx i.toNat->x∈fr:=λhx=>(List.eraseIdx_sublist fr i.toNat).subset hx;refine⟨λx hx=>h.rng x (hm hx),h.one.sublist (List.eraseIdx_sublist fr i.toNat),λx hx=>h.apt x (hm hx),λx hx=>h.hot x (hm hx),h.lak,λp r hp=>?_⟩;obtain⟨q1,q2⟩:=h.row p r hp;refine⟨q1,λa b=>?_⟩;by_cases g:p=f.1.1
 ·subst g;exact(h.hot f (J5f hf)).2 hc r hp
 ·refine q2 (λx hx e=>?_) b;obtain⟨o,hf⟩:=J0H hf;obtain⟨j,hj⟩:=J5w.1 hx;have k:j≠i.toNat:=by rintro rfl;rw[hf]at hj;injection hj with hj;subst hj;exact g e.symm
  exact a x (List.mem_eraseIdx_iff_getElem?.2 ⟨j,k,hj⟩) e
theorem Rel.add(h:Rel l n fr lk rows)(hn: ∀x∈fr,x.1.1≠f.1.1)(hr:0<=f.1.1/\f.1.1<n)(h1:f.1.2.1=J0G l f.1.1)(h2:f.2.1=false-> ∀r,idx rows f.1.1=some r->r.1=J0G l f.1.1)
  (hs: ∀d,d∈lk'↔d∈lk/\d.1≠f.1.1):Rel l n (fr++[f]) lk' rows:=by
 have hm: ∀{x:T_api_Frame},x∈fr++[f]->x∈fr\/x=f:=λhx=>by simpa using hx
 refine⟨λx hx=>?_,?_,λx hx d hd=>?_,λx hx=>?_,λd hd=>h.lak d ((hs d).1 hd).1,λp r hp=>?_⟩
 ·rcases hm hx with hx|rfl
  ·exact h.rng x hx
  ·exact hr
 ·rw[List.pairwise_append];exact⟨h.one,List.pairwise_singleton _ _,λa ha b hb=>by simp at hb;subst hb;exact hn a ha⟩
 ·rcases hm hx with hx|rfl
  ·exact h.apt x hx d ((hs d).1 hd).1
  ·exact((hs d).1 hd).2
 ·rcases hm hx with hx|rfl
  ·exact h.hot x hx
  ·exact⟨h1,h2⟩
 ·obtain⟨q1,q2⟩:=h.row p r hp;refine⟨q1,λa b=>?_⟩;have hf:f.1.1≠p:=a f (by simp);exact q2 (λx hx=>a x (by simp[hx])) λd hd e=>b d ((hs d).2 ⟨hd,by rw[e];exact hf.symm⟩) e
theorem JiU{p q:JG}(h:J1u (p,i,f)=some q):q=(p.1,p.2.1.set i.toNat f,p.2.2):=by
 have e:Par (J1u (p,i,f)) λq=>q=(p.1,p.2.1.set i.toNat f,p.2.2):=by unfold J1u;refine .bind λg h2=>.bind λ_ _=>.bind λ_ _=>.some ?_;rw[Ji9 h2];rfl
 exact e _ h
theorem Rel.use(h:Rel l n fr lk rows)(hf:idx fr i=some f)(h1:f'.1=f.1)(h2:f'.2.1=f.2.1):Rel l n (fr.set i.toNat f') lk rows:=by have q:=h.hot f (J5f hf);exact h.upd hf (by rw[h1]) (λ_ _=>rfl) (λ_ _=>rfl) (by rw[h1];exact q.1) (by rw[h2];exact q.2) λr hr=>(h.row _ r hr).1
theorem JKm{p q:JG}{id:Int}(e:J6u (p,id)=some q)(h:Rel l n p.2.1 lk rows):Rel l n q.2.1 lk rows:=by
 have g:Par (J6u (p,id)) λq=>Rel l n q.2.1 lk rows:=by unfold J6u;refine .bind λj hj=>.lt (λ_=>.some h) λc=>.bind λx hx=>.bind λy hy=>.some ?_;rw[JiU hy];exact h.use hx rfl rfl
 exact g _ e
theorem JEN{p:JG}{y:Jmp}(e:J3c p=some y)(h:Rel l n p.2.1 lk rows):y.2.2=0->Rel l n y.1.2.1 lk rows:=by
 have g:Par (J3c p) λy=>y.2.2=0->Rel l n y.1.2.1 lk rows:=by unfold J3c;refine .bind λ_ _=>.not (λ_=>.some nofun) λ_=>.eq (λ_=>.some nofun) λ_=>.while (λz=>Rel l n z.1.2.1 lk rows) h ?_;intro z hz;unfold J7h;refine .bind λx hx=>.ite (λ_=>.bind λy hy=>.bind λq hq=>.bind λ_ _=>.some ?_) λ_=>.map (.bind λ_ _=>.some λ_=>hz);show Rel l n q.2.1 lk rows;rw[JiU hq];exact hz.use hy rfl rfl
 exact g _ e
theorem JJ1{p:JG}{id:Int}{y:J6i}(e:J3L (p,id)=some y)(c:y.2=0)(h:Rel l n p.2.1 lk rows):Rel l n y.1.2.1 lk rows:=by
 have k:Par (J3L (p,id)) λy=>y.2=0->Rel l n y.1.2.1 lk rows:=by
  unfold J3L;refine .bind λ_ _=>.not (λ_=>.some nofun) λ_=>.bind λj hj=>.lt (λ_=>.some nofun) λ_=>.bind λx hx=>.ite (λ_=>.some nofun) λr=>.bind λF h5=>.bind λG B=>.bind λC v=>.bind λw z=>?_;have A:w=p.2.1.eraseIdx j.toNat:=by obtain⟨E,k1⟩:=Juc v;have o:=Jb j 1;have q:=(J84 hj).1;have D:=(J0H hx).1;rw[J3w z,Ji9 B,(JDy h5).2.2,k1,List.eraseIdx_eq_take_drop_succ,show(J1 .i64 j 1).toNat=j.toNat+1 by omega]
  have g:=h.drop hx r;rw[<-A]at g;exact .lt (λ_=>.ge (λ_=>.some λ_=>g) λ_=>.some λ_=>g) λ_=>.ge (λ_=>.some λ_=>g) λ_=>.some λ_=>g
 exact k _ e c
end
end Go.Am
end
section
namespace Go.Am
set_option linter.unusedVariables false
set_option maxRecDepth 20000
set_option maxHeartbeats 1000000
section
variable {B S:Int} {l l':List J2} {n:Int} {fr:List T_api_Frame} {lk lk' rows rows':List T_api_Row} {f f':T_api_Frame} {i:Int}
theorem Jcw{k:J6}{id:Int}{y:T_api_Row×Bool}(e:J2Z (k,id)=some y):(y.2=true->y.1∈k.2.2.2.2.2.2.2/\y.1.1=id)/\(y.2=false-> ∀d∈k.2.2.2.2.2.2.2,d.1≠id):=by
 have h:Par (J2Z (k,id)) λy=>(y.2=true->y.1∈k.2.2.2.2.2.2.2/\y.1.1=id)/\(y.2=false-> ∀d∈k.2.2.2.2.2.2.2,d.1≠id):=by
  unfold J2Z;refine .while (λz=>z.1=id/\z.2.2.1=k/\upw (λd:T_api_Row=>d.1≠id) k.2.2.2.2.2.2.2 z.2.1) ⟨rfl,rfl,Jjg⟩ ?_;rintro⟨a,i,q,r⟩ ⟨rfl,rfl,hu⟩;unfold Jas;refine .lt (λc=>.bind λd hd=>.eq (λe=>.bind λj g=>.some ⟨λ_=>?_,nofun⟩) λe=>.some ⟨rfl,rfl,J9J hu hd e⟩) λc=>.some ⟨nofun,λ_=>Jcz hu c⟩;rw[hd]at g;injection g with g;subst g
  exact⟨J5f hd,e⟩
 exact h _ e
theorem Jby{k:J6}(e:Jq k=some true):JR k.2.2.2.1=some true:=by
 have k1:Par (J1T k) λy=>y=true->JR k.2.2.2.1=some true:=by unfold J1T;refine .ge (λ_=>.le (λ_=>.ge (λ_=>.le (λ_=>.bind λ_ _=>.ite (λ_=>.bind λh h3=>.ite (λc=>λ_ _ _=>?_) λ_=>.some nofun) λ_=>.some nofun) λ_=>.some nofun) λ_=>.some nofun) λ_=>.some nofun) λ_=>.some nofun;rw[<-c];exact h3
 have g:Par (Jq k) λy=>y=true->JR k.2.2.2.1=some true:=by unfold Jq;exact .bind λa ha=>.not (λ_=>.some nofun) λc=>λ_ _ _=>k1 _ ha c
 exact g _ e rfl
theorem JmD{k:J6}{p h:Int}(e:J2U (k,p)=some h)(hv:Jq k=some true)(hi:JC k)(o:0<=p)(h1:p<k.1):h=J0G k.2.2.1.2.1 p:=by
 have n:Par (J2U (k,p)) λh=>h=J0G k.2.2.1.2.1 p:=by
  obtain⟨_,_,r⟩:=hi;unfold J2U;refine .bind λv g=>.nof (λ_=>.ltf (λ_=>.ge (λc=>absurd h1 (by(try dsimp only at c);omega)) λ_=>.bind λw h3=>.ite (λc3=>.some ?_) λc3=>.bind λx h4=>.ite (λj=>.some ?_) λj=>.bind λq h5=>.some ?_) λc=>absurd o (by(try dsimp only at c);omega)) λc=>?_
  ·obtain⟨f,hf,e1,e2⟩:=(Jbb h3).1 c3;rw[<-e1,(r.hot f hf).1,e2]
  ·obtain⟨e1,e2⟩:=(Jcw h4).1 j;rw[r.lak _ e1,e2]
  ·exact(r.row p q h5).2 ((Jbb h3).2 c3 (Jby hv)) ((Jcw h4).2 j)
  ·rw[hv]at g;injection g with g;subst g;cases c
 exact n _ e
theorem JtU{e:J2}{y:Jca}(h:J1s (rows,e)=some y)(c:y.2=0):Jx e=some true/\(e.2.1≠7->y.1=rows)/\(e.2.1=7->(∀q,q≠pgE e->idx y.1 q=idx rows q)/\ ∀r,idx y.1 (pgE e)=some r-> ∃r0,idx rows (pgE e)=some r0/\r.1=J1m r0.1 e.2.2.2.2.2.1):=by
 have n:Par (J1s (rows,e)) λy=>y.2=0->Jx e=some true/\(e.2.1≠7->y.1=rows)/\(e.2.1=7->(∀q,q≠pgE e->idx y.1 q=idx rows q)/\ ∀r,idx y.1 (pgE e)=some r-> ∃r0,idx rows (pgE e)=some r0/\r.1=J1m r0.1 e.2.2.2.2.2.1):=by
  unfold J1s;refine .bind λ_ _=>.not (λ_=>.some nofun) λ_=>.bind λv hv=>.not (λ_=>.some nofun) λk=>.ne (λc=>.some λ_=>⟨by rw[<-k];exact hv,λ_=>rfl,λh=>absurd h c⟩) λc=>.ge (λ_=>.some nofun) λ_=>.bind λr0 j=>.bind λg h5=>.some λ_=>⟨by rw[<-k];exact hv,λh=>absurd c h,λ_=>?_⟩;have o:g=rows.set (pgE e).toNat (J1m r0.1 e.2.2.2.2.2.1,r0.2):=by
   have x:Par (J7w (rows,pgE e,J1m r0.1 e.2.2.2.2.2.1,r0.2)) λg=>g=rows.set (pgE e).toNat (J1m r0.1 e.2.2.2.2.2.1,r0.2):=by unfold J7w;refine .bind λz h2=>.bind λ_ _=>.bind λ_ _=>.some ?_;rw[Ji9 h2];rfl
   exact x _ h5
  subst o;obtain⟨w,q1⟩:=J0H j;refine⟨λq hq=>?_,λr hr=>⟨r0,j,?_⟩⟩
  ·unfold idx;split
   ·rw[List.getElem?_set,if_neg (by have:((rows,e).2.2.2.2.2.2.2.1.1)=pgE e:=rfl;rw[this]at w;omega)]
   ·rfl
  ·obtain⟨_,hr⟩:=J0H hr;rw[List.getElem?_set]at hr;simp at hr;rw[<-hr.2]
 exact n _ h c
theorem JAu{l:JO}{e:J2}{y:Jg5}(h:J0y (l,e)=some y)(c:y.2.2=0):1<=l.1/\l.1<=1099511627776/\J0 l.2.1<=4096:=by
 have g:Par (J0y (l,e)) λy=>y.2.2=0->1<=l.1/\l.1<=1099511627776/\J0 l.2.1<=4096:=by unfold J0y;exact .bind λk h2=>.not (λ_=>.some nofun) λj=>λ_ _ _=>Jih h2 j
 exact g _ h c
def Joh(k:J6)(e:J2)(y:J7b):Prop:=Jq k=some true/\ ∃e':J2,e'.2.1=e.2.1/\e'.2.2.2.2.2=e.2.2.2.2.2/\e'.1=J0 k.2.2.1.2.1+1/\y.2.1=e'.1/\y.1.1=k.1/\y.1.2.2.1=(1,k.2.2.1.2.1++[e'],k.2.2.1.2.2)/\J72 y.1.2.2.1/\y.1.2.2.2.1=k.2.2.2.1/\y.1.2.2.2.2.2.2.2=k.2.2.2.2.2.2.2/\J2N (k.2.2.1.2.1++[e'])/\(e.2.1≠7->y.1.2.2.2.2.2.2.1=k.2.2.2.2.2.2.1)/\(e.2.1=7->(∀q,q≠pgE e->idx y.1.2.2.2.2.2.2.1 q=idx k.2.2.2.2.2.2.1 q)/\ ∀r,idx y.1.2.2.2.2.2.2.1 (pgE e)=some r-> ∃r0,idx k.2.2.2.2.2.2.1 (pgE e)=some r0/\r.1=J1m r0.1 e.2.2.2.2.2.1)
theorem JBD{k:J6}{e0 e:J2}{z:J7b}(hv:Jq k=some true)(hi:JC k)(h1:e0.2.1=e.2.1)(h2:e0.2.2.2.2.2=e.2.2.2.2.2)(hp:(e.2.1=1\/e.2.1=2)->e0.2.2.2.2.1=J0G k.2.2.1.2.1 (pgE e))
  (L:e.2.1=7->e.2.2.2.2.2.1<=J0G k.2.2.1.2.1 (pgE e)) (M:e.2.1=6->JAJ k.2.2.1.2.1 e.2.2.2.2.2.2.2)
  (hz:((J0y (k.2.2.1,e0)).bind λg=>
   if neI g.2.2 0 then
    some ((0,0,(0,[],0),(0,[],0),([],[]),[],[],[]),0,g.2.2)
   else
    (J0A (g.1,g.2.1)).bind λr=>
    (J0C (k.2.2.2.2.2.1,r.1)).bind λj=>
    if neI j.2 0 then
     some ((0,0,(0,[],0),(0,[],0),([],[]),[],[],[]),0,j.2)
    else
     (J1s (k.2.2.2.2.2.2.1,r.1)).bind λn=>
     if neI n.2 0 then
      some ((0,0,(0,[],0),(0,[],0),([],[]),[],[],[]),0,n.2)
     else
      some ((k.1,k.2.1,g.1,k.2.2.2.1,k.2.2.2.2.1,j.1,n.1,k.2.2.2.2.2.2.2),g.2.1,0))=some z):z.2.2=0->Joh k e z:=by
 have G:Par ((J0y (k.2.2.1,e0)).bind λg=>
   if neI g.2.2 0 then
    some ((0,0,(0,[],0),(0,[],0),([],[]),[],[],[]),0,g.2.2)
   else
    (J0A (g.1,g.2.1)).bind λr=>
    (J0C (k.2.2.2.2.2.1,r.1)).bind λj=>
    if neI j.2 0 then
     some ((0,0,(0,[],0),(0,[],0),([],[]),[],[],[]),0,j.2)
    else
     (J1s (k.2.2.2.2.2.2.1,r.1)).bind λn=>
     if neI n.2 0 then
      some ((0,0,(0,[],0),(0,[],0),([],[]),[],[],[]),0,n.2)
     else
      some ((k.1,k.2.1,g.1,k.2.2.2.1,k.2.2.2.2.1,j.1,n.1,k.2.2.2.2.2.2.2),g.2.1,0)) λz=>z.2.2=0->Joh k e z:=by
  obtain⟨g1,g2,R⟩:=hi;refine .bind λg A=>.ne (λc=>.some λh=>absurd h c) λx=>.bind λr I=>.bind λj N=>.ne (λc=>.some λh=>absurd h c) λ_=>.bind λn E=>.ne (λc=>.some λh=>absurd h c) λD=>.some λ_=>?_;obtain⟨b1,b2,K,Q⟩:=JEL A x g1.1;have O:=J4 (l:=k.2.2.1.2.1);obtain⟨H,F,B⟩:=JtU E D;have J:r.1=(J0 k.2.2.1.2.1+1,e0.2):=by
   rcases JHe I with⟨_,h⟩|⟨_,h⟩
   ·rw[b1,b2,g1.1]at h;obtain⟨_,h⟩:=J0H h;have v:=(JAu A x).2.2;have o:=J0o (J0 k.2.2.1.2.1+1) 1;rw[show(JH .i64 (J0 k.2.2.1.2.1+1) 1).toNat=k.2.2.1.2.1.length by unfold J0 at*;omega]at h;simp at h;exact h.symm
   ·rw[h,JKz]at H;cases H
  rw[J]at F B;have w:pgE (J0 k.2.2.1.2.1+1,e0.2)=pgE e:=congrArg (λz:Int×T_api_Change×List UInt8=>z.2.1.1) h2;have y:e0.2.2.2.2.2.1=e.2.2.2.2.2.1:=congrArg (λz:Int×T_api_Change×List UInt8=>z.1) h2;have C:e0.2.2.2.2.2.2.2=e.2.2.2.2.2.2.2:=congrArg (λz:Int×T_api_Change×List UInt8=>z.2.2) h2;refine⟨hv,(J0 k.2.2.1.2.1+1,e0.2),h1,h2,rfl,b2,rfl,?_,?_,rfl,rfl,?_,λc=>F (by rw[<-h1]at c;exact c),λc=>?_⟩
  ·show g.1=_;rw[b1,g1.1]
  ·show J72 g.1;rw[b1,g1.1];obtain⟨q1,q2,q3,P⟩:=g1;refine⟨rfl,q2,?_,?_⟩
   all_goals
    show _<=_;dsimp only;rw[J76,J5G];omega
  ·refine g2.app ⟨rfl,K,λc=>?_,λc=>?_,λc=>?_⟩
   ·rw[w];exact hp (by rw[<-h1];exact c)
   ·rw[w];exact y▸L (h1▸c)
   ·exact C▸M (h1▸c)
  ·have q:=B (h1.trans c);rw[w]at q;exact y▸q
 exact G _ hz
theorem Jt6{k:J6}{e:J2}{y:J7b}(h:J0S (k,e)=some y)(c:y.2.2=0)(hi:JC k)(hp:(e.2.1=1\/e.2.1=2)->0<=pgE e/\pgE e<k.1)
  (q:e.2.1=7->e.2.2.2.2.2.1<=J0G k.2.2.1.2.1 (pgE e)) (r:e.2.1=6->JAJ k.2.2.1.2.1 e.2.2.2.2.2.2.2):Joh k e y:=by
 have x: ∀{o:J2} {b:Bool},Jz o=some b->b=false-> ¬(o.2.1=1\/o.2.1=2):=fun{o b} hb j=>by
  have k1:Par (Jz o) λb=>b=false-> ¬(o.2.1=1\/o.2.1=2):=by unfold Jz;exact .eqf (λD=>.some λd=>λh=>by rcases h with h|h;exact D h;rw[J5h.2 h]at d;cases d) λ_=>.some nofun
  exact k1 _ hb j
 have A:Par (J0S (k,e)) λy=>y.2.2=0->Joh k e y:=by
  unfold J0S;refine .bind λv hv=>.not (λ_=>.some nofun) λC=>?_;have g:Jq k=some true:=by rw[<-C];exact hv
  refine .gt (λ_=>.bind λE _=>.lt (λ_=>.some nofun) λ_=>.bind λB _=>.bind λb hb=>.ite (λj=>.bind λw n=>λz hz=>JBD (e0:=(e.1,e.2.1,e.2.2.1,B.2.2.1,w,e.2.2.2.2.2)) g hi rfl rfl ?_ q r hz) λj=>λz hz=>JBD (e0:=(e.1,e.2.1,e.2.2.1,B.2.2.1,0,e.2.2.2.2.2)) g hi rfl rfl ?_ q r hz) λ_=>.bind λb hb=>.ite (λj=>.bind λw n=>λz hz=>JBD (e0:=(e.1,e.2.1,e.2.2.1,0,w,e.2.2.2.2.2)) g hi rfl rfl ?_ q r hz) λj=>λz hz=>JBD (e0:=(e.1,e.2.1,e.2.2.1,0,0,e.2.2.2.2.2)) g hi rfl rfl ?_ q r hz
  all_goals intro hc
  ·exact JmD n g hi (hp hc).1 (hp hc).2
  ·exact absurd hc (x hb j)
  ·exact JmD n g hi (hp hc).1 (hp hc).2
  ·exact absurd hc (x hb j)
 exact A _ h c
end
end Go.Am
end
