/-
  Parts of a proof.
-/
import Derived.Test.YtfedfekakecnfaaGreatM3
import Derived.Test.YtfedfekakecnfaaGreatM4
import Derived.Test.YtfedfekakecnfaaGreatM5
set_option linter.unusedSimpArgs false
set_option linter.unusedVariables false
section
namespace Go.Am
section
variable (P:Program)
def xT(p:Ty->TypeId->Bool):Nat->List (TypeId×Nat)->Ty->Bool|_,[],.u=>true|_,[],_=>false|o,[f],a=>decide (f.2=o)&&p a f.1&&decide (P.cellsOf f.1=a.sz)|o,f::g::r,.pr a c=>decide (f.2=o)&&p a f.1&&decide (P.cellsOf f.1=a.sz)&&xT p (o+a.sz) (g::r) c|_,_::_::_,_=>false
def xA:Nat->Ty->TypeId->Bool|0,_,_=>false|n+1,ty,t=>match fieldsOf P t with|some fs=>xT P (xA n) 0 fs ty&&decide (P.cellsOf t=ty.sz)|none=>match P.underlying t,ty with|some .bool,.b=>true|some (.int k),.i g=>decide (k=g)|some .string,.s=>true|some (.slice e),.l a=>xA n a e&&decide (P.cellsOf e=a.sz)|some (.array m e),.ar h a=>decide (m=h)&&xA n a e&&decide (P.cellsOf e=a.sz)&&decide (P.cellsOf t=m*a.sz)|_,_=>false
def Ty.inR:(t:Ty)->t.D->Prop| .b,_=>True| .i k,z=>k.min<=z/\z<=k.max| .s,z=>List.length z<=maxLen| .l t,z=>List.length z<=maxLen/\ ∀x∈(z:List t.D),t.inR x| .pr a c,x=>a.inR x.1/\c.inR x.2| .ar n t,v=> ∀(i:Nat) (h:i<n),t.inR ((v:Vector t.D n)[i])| .u,_=>True| .f,_=>True
end
section
variable {P:Program}
theorem Do{n:Nat}(ih: ∀ty t,xA P n ty t=true->Rd P n t (cel ty) ty.inR): ∀(o:Nat) (fs:List (TypeId×Nat)) (ty:Ty) (pvs:List PV),xT P (xA P n) o fs ty=true->
  (∀x∈fs,fE P n x.1 ((pvs.drop x.2).take (P.cellsOf x.1)))-> ∃x:ty.D,(pvs.drop o).take ty.sz=cel ty x/\ty.inR x
 |o,[],ty,pvs,h,_=>by
  cases ty with
  |u=>exact⟨(),by simp[Ty.sz,cel],trivial⟩
  |_=>grind [xT]
 |o,[f],ty,pvs,h,hf=>by
  simp only[xT,JW,decide_eq_true_eq]at h;obtain⟨⟨h1,h2⟩,j⟩:=h;have:=hf f (by simp);rw[h1,j]at this;obtain⟨x,e,q⟩:=ih ty f.1 h2 _ this;grind
 |o,f::g::r,ty,pvs,h,hf=>by
  cases ty with
  |pr a c=>
   simp only[xT,JW,decide_eq_true_eq]at h;obtain⟨⟨⟨h1,h2⟩,j⟩,k⟩:=h;have:=hf f (by simp);rw[h1,j]at this;obtain⟨x,e,q⟩:=ih a f.1 h2 _ this;obtain⟨y,e',q'⟩:=Do ih (o+a.sz) (g::r) c pvs k (λz v=>hf z (by simp_all));refine⟨(x,y),?_,q,q'⟩;grind [cel,Ty.sz,List.drop_drop]
  |_=>grind [xT]
theorem rdT: ∀(n:Nat) (ty:Ty) (t:TypeId),xA P n ty t=true->Rd P n t (cel ty) ty.inR
 |0,_,_,h=>by cases h
 |n+1,ty,t,h=>by
  unfold xA at h;split at h;rename_i fs g;simp only[JW,decide_eq_true_eq]at h;intro pvs o;obtain⟨z,r⟩:=JGo rfl g o;obtain⟨x,e,q⟩:=Do (rdT n) 0 fs ty pvs h.1 r;grind;split at h;rename_i ht;exact JKF ht;rename_i k w ht;simp only[decide_eq_true_eq]at h;subst h;exact JL4 ht;rename_i ht;exact JLF ht;rename_i e a ht;simp only[JW,decide_eq_true_eq]at h;exact JJ2 ht h.2 (rdT n a e h.1);rename_i m e y a ht;simp only[JW,decide_eq_true_eq]at h;obtain⟨⟨⟨h1,h2⟩,v⟩,j⟩:=h;subst h1;exact JHp ht v j (rdT n a e h2);cases h
def C4(P:Program)(t:TypeId):Bool:=match P.underlying t with|some (.struct _)=>true|some (.array _ _)=>true|_=>false
def AZ(agg:Bool)(t:Ty)(x:t.D):TA:=if agg=true then .dt t x else .c (.d t x)
theorem HR(L:Nat->Nat){t:TypeId}{ty:Ty}{agg:Bool}(ha:C4 P t=agg)(h1:agg=false->ty.sz=1)(x:ty.D):TZ P t (cel ty x)=bN L (AZ agg ty x):=by
 unfold TZ C4 at*;generalize P.underlying t=u at ha⊢;rcases u with _|d;subst ha;dsimp only;rw[FR (h1 rfl) x];rfl;cases d<;>first
 |(subst ha;rfl)
 |(subst ha;dsimp only;rw[FR (h1 rfl) x];rfl)
theorem JLR{F:Orc}{f:FuncId}{g:Sig}{S:(tyL g.ti).D->Option (tyL g.to).D}{xs:List TA}{x:(tyL g.ti).D}{y:(tyL g.to).D}(he:EOk F (aG f g S))(hx:rL g xs []=some x)(j:S x=some y)
  (hv:BP g y=some (.a (.c (.d .b true)),[])):F f (xs.map (bN (lns []))) []=some (.p (.b true),[]):=by
 have h:(aG f g S).go xs [] (λv out=>some (v,out))=some (TV.a (.c (.d .b true)),([]:List (Bool×TB))):=by simp only[aG,hx,j,JQ,hv];cases g.same<;>rfl
 obtain⟨v,out,h1,_,e⟩:=he.ok h;injection e with e;injection e with h4 h5;subst h4 h5;exact h1
end
end Go.Am
end
section
namespace Go.Am
set_option linter.unusedVariables false
set_option maxRecDepth 20000
set_option maxHeartbeats 1000000
section
variable {B S:Int}
def EF(e:aA):Prop:=1<=e.1/\e.1<=1099511627776/\1<=e.2.2.1/\e.2.2.1<=1073741824/\0<=e.2.2.2.1/\e.2.2.2.1<e.1/\0<=e.2.2.2.2.1/\e.2.2.2.2.1<e.1/\0<=e.2.2.2.2.2.1/\e.2.2.2.2.2.1<e.1/\e.2.2.2.2.2.2.2=[]/\kF e.2.2.2.2.2.2.1=some true/\((e.2.1=1/\e.2.2.2.2.2.1=0)\/(e.2.1=2/\0<e.2.2.2.1/\1<=e.2.2.2.2.2.1/\e.2.2.2.2.2.1<=e.2.2.2.1))
theorem fi{x:JE}(e:kG x=some true):0<=x.1/\x.1<x.2:=by
 have g:Par (kG x) λy=>y=true->0<=x.1/\x.1<x.2:=by unfold kG;exact .ge (λc=>.some λd=>⟨c,hE.1 d⟩) λ_=>.some nofun
 exact g _ e rfl
theorem EF.of{e:aA}(h:Ju e=some true)(hk:e.2.1=1\/e.2.1=2):EF e:=by
 have B:Par (oY e) λy=>y.2=true->y.1=e->1<=e.2.2.1/\e.2.2.1<=1073741824/\e.2.2.2.2.2.2.2=[]/\kF e.2.2.2.2.2.2.1=some true/\((e.2.1=1/\e.2.2.2.2.2.1=0)\/(e.2.1=2/\0<e.2.2.2.1/\1<=e.2.2.2.2.2.1/\e.2.2.2.2.2.1<=e.2.2.2.1)):=by
  unfold oY;refine .eq (λo=>.bind λN h2=>.eq (λg=>by omega) λ_=>.ite (λj=>.ge (λk=>.some λn q=>?_) λ_=>.some nofun) λ_=>.some nofun) λo=>.eq (λg=>.bind λN h2=>.eq (λ_=>.ite (λj=>.gt (λL=>.ge (λM=>.le (λI=>.ge (λk=>.some λn q=>?_) λ_=>.some nofun) λ_=>.some nofun) λ_=>.some nofun) λ_=>.some nofun) λ_=>.some nofun) λc=>absurd g c) λg=>by omega
  subst j;have P:(0:Int)=e.2.2.2.2.2.1:=congrArg (λz:aA=>z.2.2.2.2.2.1) q;have r:([]:List UInt8)=e.2.2.2.2.2.2.2:=congrArg (λz:aA=>z.2.2.2.2.2.2.2) q;exact⟨k,eN.1 n,r.symm,h2,.inl ⟨o,P.symm⟩⟩;subst j;have r:([]:List UInt8)=e.2.2.2.2.2.2.2:=congrArg (λz:aA=>z.2.2.2.2.2.2.2) q;exact⟨k,eN.1 n,r.symm,h2,.inr ⟨g,L,M,I⟩⟩
 have v:Par (Ju e) λy=>y=true->EF e:=by unfold Ju;refine .bind λa Q=>.ite (λo=>.ite (λg=>.ge (λk=>.le (λn=>.bind λb1 x=>.ite (λJ=>.bind λb2 w=>.ite (λj=>.bind λT A=>.some λF=>?_) λ_=>.some nofun) λ_=>.some nofun) λ_=>.some nofun) λ_=>.some nofun) λ_=>.some nofun) λ_=>.some nofun;subst J;subst j;subst F;obtain⟨R,S,a3,a4,O⟩:=B _ Q o (J0F.1 g);obtain⟨K,G⟩:=fi x;obtain⟨C,E⟩:=fi w;obtain⟨D,H⟩:=fi A;exact⟨k,n,R,S,K,G,C,E,D,H,a3,a4,O⟩
 exact v _ h rfl
theorem pg{c:iZ}(h:gR c=some true):Tot (AC c) λy=>y=true:=by have e:AC c=gR c:=rfl;exact⟨true,e.trans h,rfl⟩
theorem ss{c:fT}(h:kF c=some true):Tot (tB c) λy=>y=true:=by
 have n:Par (kF c) λy=>y=true->0<=c.1/\c.1<64/\0<=c.2.1/\c.2.1<16/\gR c.2.2.1=some true/\gR c.2.2.2=some true:=by unfold kF;refine .ge (λe=>.lt (λg=>.ge (λj=>.lt (λk=>.bind λa B=>.ite (λr=>.bind λb z=>.some λo=>?_) λ_=>.some nofun) λ_=>.some nofun) λ_=>.some nofun) λ_=>.some nofun) λ_=>.some nofun;subst r;subst o;exact⟨e,g,j,k,B,z⟩
 obtain⟨e,g,j,k,v,x⟩:=n _ h rfl;unfold tB;have A:Tot (zR c.1) λy=>y=true:=by unfold zR;exact .ge (λ_=>.some (hE.2 g)) λc=>absurd e c
 refine .bind A λE d=>.ite (λ_=>.ge (λ_=>.lt (λ_=>.bind (pg v) λC q=>.ite (λ_=>.bind (pg x) λD w=>.some w) λc=>by rw[q]at c;cases c) λc=>absurd k c) λc=>absurd j c) λc=>by rw[d]at c;cases c
theorem JDM{e:aA}(h:EF e):Tot (qU e) λy=>y=true:=by
 obtain⟨M,N,a3,a4,G,F,C,z,H,r,j,k,I⟩:=h;have o: ∀{n:Int},0<=n->n<e.1->Tot (pE (n,e)) λy=>y=true:=fun{n} h1 h2=>by unfold pE;exact .ge (λ_=>.some (hE.2 h2)) λc=>absurd h1 c
 have K: ∀{b:Bool} {Q:Prop},b=true->Jk b=true->Q:=fun{b Q} h1 h2=>by subst h1;cases h2
 have w:neS e.2.2.2.2.2.2.2 []=false:=by rw[j];rfl
 have x:J0 e.2.2.2.2.2.2.2<=8192:=by rw[j];decide
 unfold qU;refine .ltf (λ_=>.gtf (λ_=>.ltf (λ_=>.gtf (λ_=>.bind (o G F) λL A=>.nof (λ_=>.bind (o C z) λJ B=>.nof (λ_=>.bind (o H r) λv g=>.not (λc=>by rw[g]at c;cases c) λ_=>?_) λc=>by rw[B]at c;cases c) λc=>by rw[A]at c;cases c) λc=>by omega) λc=>by omega) λc=>by omega) λc=>by omega
 refine .eq (λc=>by omega) λ_=>.eq (λc=>by omega) λ_=>.eq (λc=>by omega) λ_=>.eq (λc=>by omega) λ_=>.eq (λc=>by omega) λ_=>.eq (λc=>by omega) λ_=>.eq (λE=>?_) λE=>.eq (λD=>?_) λD=>by omega
 refine .ltf (λ_=>.gt (λc=>by omega) λ_=>.eq (λc=>by omega) λ_=>.ite (λc=>by rw[w]at c;cases c) λ_=>.le (λ_=>?_) λc=>absurd x c) λc=>by omega
 have q:Tot (lG e) λy=>y=true:=by unfold lG;exact .ge (λ_=>.some (eN.2 (by omega))) λc=>by omega
 exact .bind q λy d=>.ite (λ_=>.bind (ss k) λv g=>.some g) λc=>by rw[d]at c;cases c
 refine .ltf (λ_=>.gt (λc=>by omega) λ_=>.ne (λc=>by omega) λ_=>.ite (λc=>by rw[w]at c;cases c) λ_=>.le (λ_=>?_) λc=>absurd x c) λc=>by omega
 have q:Tot (hQ e) λy=>y=true:=⟨true,rfl,rfl⟩;exact .bind q λy d=>.ite (λ_=>.bind (ss k) λv g=>.some g) λc=>by rw[d]at c;cases c
def bB(e:aA):Int:=e.2.2.2.2.2.2.1.1
def uA(r:Jt):Prop:=1<=r.1/\r.1<=r.2.1/\r.2.1<=1099511627776/\0<=r.2.2.1/\r.2.2.1<=r.2.2.2.1/\r.2.2.2.1<64/\0<=r.2.2.2.2.1/\r.2.2.2.2.1<=8
def GR(r:Jt)(e:aA):Prop:=Ju e=some true/\(e.2.1=1\/e.2.1=2)/\r.1<=e.1/\e.1<=r.2.1/\r.2.2.1<=bB e/\bB e<=r.2.2.2.1
def kW(f:Int)(a b:aA):Prop:=(bB a<bB b/\b.2.2.2.2.1<f)\/(bB a=bB b/\a.1<b.1/\b.2.2.2.2.1=a.1)
def nD(r:Jt):Prop:=uA r/\J0 r.2.2.2.2.2<=4096/\(∀(j:Nat) (e:aA),r.2.2.2.2.2[j]?=some e->GR r e)/\(∀e,r.2.2.2.2.2[0]?=some e->e.2.2.2.2.1<r.1)/\ ∀(j:Nat) (a b:aA),r.2.2.2.2.2[j]?=some a->r.2.2.2.2.2[j+1]?=some b->kW r.1 a b
theorem uA.of{r:Jt}(h:jB (r.1,r.2.1,r.2.2.1,r.2.2.2.1,r.2.2.2.2.1)=some true):uA r:=by
 have e:Par (jB (r.1,r.2.1,r.2.2.1,r.2.2.2.1,r.2.2.2.2.1)) λy=>y=true->uA r:=by unfold jB;exact .ge (λw=>.le (λg=>.le (λj=>.ge (λv=>.le (λo=>.lt (λq=>.ge (λk=>.some λn=>⟨w,g,j,v,o,q,k,eN.1 n⟩) λ_=>.some nofun) λ_=>.some nofun) λ_=>.some nofun) λ_=>.some nofun) λ_=>.some nofun) λ_=>.some nofun) λ_=>.some nofun
 exact e _ h rfl
theorem JE2{e:aA}(h:JF e=some true):e.2.1=1\/e.2.1=2:=by
 have g:Par (JF e) λy=>y=true->e.2.1=1\/e.2.1=2:=by unfold JF;exact .eqf (λ_=>.some λd=>.inr (jW.1 d)) λc=>.some λ_=>.inl c
 exact g _ h rfl
theorem tz{e:aA}(h:e.2.1=1\/e.2.1=2):Tot (JF e) λy=>y=true:=by unfold JF;exact .eqf (λc=>.some (jW.2 (by omega))) λ_=>.some rfl
theorem Po{e:aA}(h:e.2.1=1\/e.2.1=2):Tot (wB e) λy=>y=true:=tz h
theorem ri{a b:aA}{y:Int}(h:jC (a,b)=some y)(c: ¬0<=y):bB a<bB b\/(bB a=bB b/\a.1<b.1):=by
 have e:Par (jC (a,b)) λy=> ¬0<=y->bB a<bB b\/(bB a=bB b/\a.1<b.1):=by unfold jC;exact .ltf (λ_=>.eq (λj=>.lt (λg=>.some λ_=>.inr ⟨j,g⟩) λ_=>.eq (λ_=>.eq (λ_=>.some λc=>absurd (aU 0) c) λ_=>.some λc=>absurd (by decide) c) λ_=>.some λc=>absurd (by decide) c) λ_=>.eq (λ_=>.eq (λ_=>.some λc=>absurd (aU 0) c) λ_=>.some λc=>absurd (by decide) c) λ_=>.some λc=>absurd (by decide) c) λc=>.some λ_=>.inl c
 exact e _ h c
theorem JA6{a b:aA}(h:bB a<bB b\/(bB a=bB b/\a.1<b.1)):Tot (jC (a,b)) λy=> ¬0<=y:=by unfold bB at h;unfold jC;exact .ltf (λc=>.eq (λe=>.lt (λj=>.some (by decide)) λg=>by(try dsimp only at c e g);omega) λe=>by(try dsimp only at c e);omega) λc=>.some (by decide)
theorem nD.of{r:Jt}(h:kE r=some true):nD r:=by
 have L:Par (kE r) λy=>y=true->nD r:=by
  unfold kE;refine .bind λa g=>.nof (λR=>.gt (λ_=>.some nofun) λS=>?_) λ_=>.some nofun;subst R;refine .while (λz=>z.2=r/\0<=z.1/\(∀(j:Nat) (e:aA),(j:Int)<z.1->r.2.2.2.2.2[j]?=some e->GR r e)/\(∀e,0<z.1->r.2.2.2.2.2[0]?=some e->e.2.2.2.2.1<r.1)/\ ∀(j:Nat) (a b:aA),(j:Int)+1<z.1->r.2.2.2.2.2[j]?=some a->r.2.2.2.2.2[j+1]?=some b->kW r.1 a b) ⟨rfl,aU _,λj e h=>by(try dsimp only at h);omega,λe h=>by(try dsimp only at h);omega,λj a b h=>by(try dsimp only at h);omega⟩ ?_;rintro⟨i,z⟩ ⟨rfl,W,h1,h2,I⟩
  (try dsimp only at W h1 h2 I S)
  unfold VT;dsimp only;have o1:=Jm i 1;have o2:=bL i 1;refine .lt (λc=>?_) λc=>.some λ_=>⟨uA.of g,by omega,λj e v=>h1 j e (by have:=kR v;omega) v,λe v=>h2 e (by have:=kR v;omega) v,λj a b K F=>I j a b (by have:=kR F;omega) K F⟩;refine .bind λe v=>.bind λb o=>.nof (λT=>.bind λd hd=>.nof (λQ=>.ltf (λc5=>.gtf (λc6=>.ltf (λc7=>.gt (λ_=>.some nofun) λc8=>?_) λ_=>.some nofun) λ_=>.some nofun) λ_=>.some nofun) λ_=>.some nofun) λ_=>.some nofun;subst T;subst Q;obtain⟨_,A⟩:=fQ v;have G:GR z e:=⟨o,JE2 hd,by omega,by omega,by unfold bB;omega,by unfold bB;omega⟩;have nx:(i=0->e.2.2.2.2.1<z.1)->(∀a,0<i->z.2.2.2.2.2[(i-1).toNat]?=some a->kW z.1 a e)->(z=z/\0<=J1 .i64 i 1/\(∀(j:Nat) (e:aA),(j:Int)<J1 .i64 i 1->z.2.2.2.2.2[j]?=some e->GR z e)/\(∀e,0<J1 .i64 i 1->z.2.2.2.2.2[0]?=some e->e.2.2.2.2.1<z.1)/\ ∀(j:Nat) (a b:aA),(j:Int)+1<J1 .i64 i 1->z.2.2.2.2.2[j]?=some a->z.2.2.2.2.2[j+1]?=some b->kW z.1 a b):=by
   intro U V;refine⟨rfl,by omega,λj f hj k=>?_,λf hp k=>?_,λj a b hj g o=>?_⟩;by_cases H:(j:Int)<i;exact h1 j f H k;have:j=i.toNat:=by omega
   subst this;rw[A]at k;injection k with k;subst k;exact G;by_cases hi:0<i;exact h2 f hi k;have N:i=0:=by omega
   subst N;rw[show(0:Int).toNat=0 from rfl]at A;rw[A]at k;injection k with k;subst k;exact U rfl;by_cases H:(j:Int)+1<i;exact I j a b H g o;have Z:j+1=i.toNat:=by omega
   have Y:j=(i-1).toNat:=by omega
   rw[Z,A]at o;injection o with o;subst o;rw[Y]at g;exact V a (by omega) g
  have C: ∀{a:aA},0<i->idx z.2.2.2.2.2 (Js .i64 i 1)=some a->z.2.2.2.2.2[(i-1).toNat]?=some a:=fun{a} hi g=>by obtain⟨_,q⟩:=fQ g;rw[show(i-1).toNat=(Js .i64 i 1).toNat by omega];exact q
  have zero: ¬0<i-> ¬z.1<=e.2.2.2.2.1->(z=z/\0<=J1 .i64 i 1/\(∀(j:Nat) (e:aA),(j:Int)<J1 .i64 i 1->z.2.2.2.2.2[j]?=some e->GR z e)/\(∀e,0<J1 .i64 i 1->z.2.2.2.2.2[0]?=some e->e.2.2.2.2.1<z.1)/\ ∀(j:Nat) (a b:aA),(j:Int)+1<J1 .i64 i 1->z.2.2.2.2.2[j]?=some a->z.2.2.2.2.2[j+1]?=some b->kW z.1 a b):=λhi k=>nx (λ_=>by omega) λa h=>absurd h hi;refine .gt (λB=>.bind λy7 E=>.bind λy8 M=>.ge (λ_=>.some nofun) λJ=>.gt (λ_=>.bind λy9 n=>.eq (λD=>.bind λa1 w=>.ne (λ_=>.some nofun) λx=>.some ?_) λD=>.ge (λ_=>.some nofun) λx=>.some ?_) λc=>absurd B c) λB=>.gt (λc=>absurd c B) λ_=>.ge (λ_=>.some nofun) λx=>.some (zero B x);rw[E]at n w;injection n with n;injection w with w;subst n;subst w;refine nx (λh=>by omega) λa _ g=>?_;rw[C B E]at g;injection g with g;subst g;rcases ri M J with q|⟨O,P⟩;unfold bB at q;omega;exact .inr ⟨D,P,x⟩;rw[E]at n;injection n with n;subst n;refine nx (λh=>by omega) λa _ g=>?_;rw[C B E]at g;injection g with g;subst g;rcases ri M J with q|⟨O,P⟩;exact .inl ⟨q,by omega⟩;exact absurd O D
 exact L _ h rfl
end
section
variable {B S:Int}
theorem gK{α:Type}{l:List α}{i:Int}(h0:0<=i)(h1:i<J0 l): ∃a,idx l i=some a/\l[i.toNat]?=some a:=by
 have e:i.toNat<l.length:=by unfold J0 at h1;omega
 exact⟨l[i.toNat],by unfold idx;rw[if_pos h0,JV e],JV e⟩
theorem H5{r:Jt}(h:uA r):Tot (jB (r.1,r.2.1,r.2.2.1,r.2.2.2.1,r.2.2.2.2.1)) λy=>y=true:=by obtain⟨h1,h2,o,k,n,e,j,g⟩:=h;unfold jB;exact .ge (λ_=>.le (λ_=>.le (λ_=>.ge (λ_=>.le (λ_=>.lt (λ_=>.ge (λ_=>.some (eN.2 g)) λc=>absurd j c) λc=>absurd e c) λc=>absurd n c) λc=>absurd k c) λc=>absurd o c) λc=>absurd h2 c) λc=>absurd h1 c
theorem Mp{r:Jt}(h:uA r):Tot (EH r) λy=>y=true:=by obtain⟨h1,h2,o,k,n,e,j,g⟩:=h;unfold EH;exact .ge (λ_=>.le (λ_=>.le (λ_=>.ge (λ_=>.le (λ_=>.lt (λ_=>.ge (λ_=>.some (eN.2 g)) λc=>absurd j c) λc=>absurd e c) λc=>absurd n c) λc=>absurd k c) λc=>absurd o c) λc=>absurd h2 c) λc=>absurd h1 c
theorem cI{α:Type}{o:Option α}{v:α}(h:o=some v):Tot o λy=>y=v:=⟨v,h,rfl⟩
theorem qh{r:Jt}(h:nD r){i:Int}(hi:0<i)(hl:i<J0 r.2.2.2.2.2){a b:aA}(ha:r.2.2.2.2.2[(i-1).toNat]?=some a)(hb:r.2.2.2.2.2[i.toNat]?=some b):kW r.1 a b:=
 h.2.2.2.2 (i-1).toNat a b ha (by rw[show(i-1).toNat+1=i.toNat by omega];exact hb)
theorem r5{r:Jt}(h:nD r):kE r=some true:=by
 have n:Tot (kE r) λy=>y=true:=by
  obtain⟨R,g2,G,J,g5⟩:=id h;unfold kE;refine .bind (H5 R) λy2 D=>.nof (λ_=>.gt (λc=>by omega) λ_=>?_) λc=>by rw[D]at c;cases c
  refine Jj (τ:=Int) (λq=>(q,r)) (λq=>0<=q/\q<=J0 r.2.2.2.2.2) (λq=>J0 r.2.2.2.2.2-q) ?_ 0 rfl ⟨aU _,Jc⟩;rintro i ⟨P,h1⟩;unfold VT;dsimp only;have o1:=Jm i 1;have o2:=bL i 1;refine .lt (λc=>?_) λc=>.some rfl;obtain⟨e,T,g⟩:=gK P c;obtain⟨K,E,W,Y,B,F⟩:=G _ e g;have nx: ∃c':Int,((J1 .i64 i 1,r):Int×Jt)=(c',r)/\(0<=c'/\c'<=J0 r.2.2.2.2.2)/\J0 r.2.2.2.2.2-c'<J0 r.2.2.2.2.2-i/\0<=J0 r.2.2.2.2.2-i:=⟨J1 .i64 i 1,rfl,⟨by omega,by omega⟩,by omega,by omega⟩;unfold bB at B F;refine .bind (cI T) λw O=>?_;subst O;refine .bind (cI K) λy5 L=>.nof (λ_=>.bind (tz E) λy6 I=>.nof (λ_=>.ltf (λ_=>.gtf (λ_=>.ltf (λ_=>.gt (λc=>by omega) λ_=>?_) λc=>by omega) λc=>by omega) λc=>by omega) λc=>by rw[I]at c;cases c) λc=>by rw[L]at c;cases c
  refine .gt (λj=>?_) λj=>.gt (λc=>absurd c j) λ_=>.ge (λc=>?_) λ_=>.some nx;have S:Js .i64 i 1=i-1:=by omega
  rw[S];obtain⟨a,k,v⟩:=gK (l:=r.2.2.2.2.2) (i:=i-1) (by omega) (by omega);have x:=qh h j c v g;refine .bind (cI k) λC H=>?_;subst H;refine .bind (JA6 (a:=C) (b:=w) (by rcases x with⟨q,_⟩|⟨Q,U,_⟩;exact .inl q;exact .inr ⟨Q,U⟩)) λZ N=>.ge (λc=>absurd c N) λ_=>.gt (λ_=>.bind (cI k) λy9 M=>?_) λc=>absurd j c;subst M;unfold kW bB at x;refine .eq (λo=>.bind (cI k) λV z=>?_) λo=>.ge (λc=>by omega) λ_=>.some nx;subst z;exact .ne (λc=>by omega) λ_=>.some nx;have A:i=0:=by omega
  subst A;have:=J w g;omega
 obtain⟨y,e,d⟩:=n;rw[e,d]
theorem Hc{a b:aA}(h:bB a=bB b/\a.1<b.1):Tot (zQ (a,b)) λy=> ¬0<=y:=by
 obtain⟨h1,h2⟩:=h;unfold bB at h1;have j:qV (a.2.2.2.2.2.2.1.1,b.2.2.2.2.2.2.1.1)=some 0:=by unfold qV EE;dsimp only;rw[h1];simp[aM,aK,aN]
 have e:qV (a.1,b.1)=some (-1):=by unfold qV EE;dsimp only;simp[aM,aK,aN,h2]
 unfold zQ;dsimp only;rw[j,e];show Tot ((zA [0, -1]).bind _) _;have g:zA [0, -1]=some (-1):=by unfold zA;rw[hM (s':=(0,[0, -1],J0 ([0, -1]:List Int),1)) (by rfl)];exact eO (by rfl)
 rw[g];exact .some (by decide)
theorem VU{r:Jt}(h:nD r):hO r=some true:=by
 have v:Tot (hO r) λy=>y=true:=by
  obtain⟨R,g2,O,H,g5⟩:=id h;unfold hO;refine .bind (Mp R) λy2 C=>.nof (λ_=>.gt (λc=>by omega) λ_=>?_) λc=>by rw[C]at c;cases c
  refine Jj (τ:=Int) (λq=>(r.2.2.2.2.2,J0 r.2.2.2.2.2,q,r)) (λq=>0<=q/\q<=J0 r.2.2.2.2.2) (λq=>J0 r.2.2.2.2.2-q) ?_ 0 rfl ⟨aU _,Jc⟩;rintro i ⟨P,h1⟩;unfold gy;dsimp only;have Z:=Jm i 1;have W:=bL i 1;refine .lt (λc=>?_) λc=>.some rfl;obtain⟨e,T,g⟩:=gK P c;obtain⟨I,n,B,D,k,o⟩:=O _ e g;have nx: ∃c':Int,((r.2.2.2.2.2,J0 r.2.2.2.2.2,J1 .i64 i 1,r):TL)=(r.2.2.2.2.2,J0 r.2.2.2.2.2,c',r)/\(0<=c'/\c'<=J0 r.2.2.2.2.2)/\J0 r.2.2.2.2.2-c'<J0 r.2.2.2.2.2-i/\0<=J0 r.2.2.2.2.2-i:=⟨J1 .i64 i 1,rfl,⟨by omega,by omega⟩,by omega,by omega⟩;unfold bB at k o;have Q:Tot (EG (r,e)) λy=>y=true:=by unfold EG;exact .bind (Po n) λy d=>.ite (λ_=>.ge (λ_=>.le (λ_=>.ge (λ_=>.some (eN.2 D)) λc=>absurd B c) λc=>absurd o c) λc=>absurd k c) λc=>by rw[d]at c;cases c
  refine .bind (cI T) λz N=>?_;subst N;refine .bind (JDM (EF.of I n)) λY J=>.nof (λ_=>.bind Q λy6 F=>.not (λc=>by rw[F]at c;cases c) λ_=>?_) λc=>by rw[J]at c;cases c
  refine .eqf (λw=>?_) λw=>.ge (λc=>?_) λ_=>.some nx;have hi:0<i:=by omega
  have S:Js .i64 i 1=i-1:=by omega
  rw[S];obtain⟨a,A,x⟩:=gK (l:=r.2.2.2.2.2) (i:=i-1) (by omega) (by omega);have j:=qh h hi c x g;refine .bind (cI A) λV E=>?_;subst E;refine .lt (λM=>.ge (λc=>?_) λ_=>.some nx) λM=>.bind (cI A) λG L=>?_;unfold kW bB at j;omega;subst L;have U:=j;unfold kW bB at j;refine .bind (Hc (a:=G) (b:=z) (by unfold bB;omega)) λy9 K=>.gef (λ_=>.ne (λc=>by omega) λ_=>.some nx) λc=>absurd c K;subst w;have:=H z g;omega
 obtain⟨y,e,d⟩:=v;rw[e,d]
end
section
variable {B S:Int}
def ent(r:Jt):List aA:=r.2.2.2.2.2
theorem CJ{α:Type}{bytes:Nat}{l m:List α}(h:J0 l+J0 m<=34359738368)(hb:bytes<=2048):JC bytes l m=some (l++m):=by unfold JC;rw[if_pos (OT (by unfold J0 at h;omega) hb)]
def jF(id:Int)(e:aA):Bool:=aJ (bB e) id
theorem JFC(l:List aA)(hl:J0 l<=4096):kJ (l,l)=some true:=by
 have g:Tot (kJ (l,l)) λy=>y=true:=by unfold kJ;refine .ne (λc=>absurd rfl c) λ_=>Jj (τ:=Int) (λq=>(l,l,q)) (λq=>0<=q/\q<=J0 l) (λq=>J0 l-q) ?_ 0 rfl ⟨aU _,Jc⟩;rintro i ⟨o,h1⟩;unfold WP;dsimp only;have v:=Jm i 1;refine .lt (λc=>?_) λ_=>.some rfl;obtain⟨e,j,_⟩:=gK o c;refine .bind (cI j) λr n=>.bind (cI j) λh k=>.not (λc=>?_) λ_=>.some ⟨J1 .i64 i 1,rfl,⟨by omega,by omega⟩,by omega,by omega⟩;subst n;subst k;have q:eqT t_api_Entry h h=true:=J0F.2 rfl;cases q.symm.trans c
 obtain⟨y,e,d⟩:=g;rw[e,d]
end
section
variable {B S:Int}
theorem eo(x:Int×aA):Tot (pE x) λy=>y=true->0<=x.1/\x.1<x.2.1:=by unfold pE;exact .ge (λc=>.some λd=>⟨c,hE.1 d⟩) λ_=>.some nofun
theorem E9(c:iZ):Tot (AC c) λy=>gR c=some y:=by
 have g:Tot (gR c) λ_=>True:=by unfold gR;exact .ite (λ_=>.itf (λ_=>.some trivial) λ_=>.some trivial) λ_=>.some trivial
 obtain⟨y,e,_⟩:=g;exact⟨y,e,e⟩
theorem JH7(n:Int):Tot (zR n) λy=>y=true->0<=n/\n<64:=by unfold zR;exact .ge (λc=>.some λd=>⟨c,hE.1 d⟩) λ_=>.some nofun
theorem qg(c:fT):Tot (tB c) λy=>y=true->kF c=some true:=by unfold tB;refine .bind (JH7 c.1) λw h2=>.ite (λe=>.ge (λj=>.lt (λk=>.bind (E9 c.2.2.1) λv r=>.ite (λh=>.bind (E9 c.2.2.2) λx o=>.some λg=>?_) λ_=>.some nofun) λ_=>.some nofun) λ_=>.some nofun) λ_=>.some nofun;obtain⟨n,q⟩:=h2 e;subst h;subst g;unfold kF;rw[if_pos (sG.2 n),if_pos (hE.2 q),if_pos (sG.2 j),if_pos (hE.2 k),r,o];rfl
theorem JJV(c:fT):Tot (vO c) λ_=>True:=⟨_,rfl,trivial⟩
theorem Bw(e:aA):Tot (hQ e) λ_=>True:=⟨_,rfl,trivial⟩
theorem Zf(e:aA):Tot (lG e) λy=>y=true->1<=e.2.2.2.2.2.1/\e.2.2.2.2.2.1<=e.2.2.2.1:=by unfold lG;exact .ge (λc=>.some λd=>⟨c,eN.1 d⟩) λ_=>.some nofun
theorem JMZ(c:fT):Tot (zV c) λ_=>True:=by unfold zV;exact .ite (λ_=>.ite (λ_=>.some trivial) λ_=>.some trivial) λ_=>.some trivial
theorem E5{l:List UInt8}(h:neS l []=false):l=[]:=by unfold neS at h;simpa using h
theorem JKD(e:aA):Tot (qU e) λy=>y=true->(e.2.1=1\/e.2.1=2)->EF e:=by
 have g: ∀{o:Option Bool},(3<=e.2.1\/e.2.1<=0)->Tot o (λ_=>True)->Tot o λy=>y=true->(e.2.1=1\/e.2.1=2)->EF e:=λh ht=>ht.mono λ_ _ _ M=>by omega
 unfold qU;refine .ltf (λN=>.gtf (λO=>.ltf (λa3=>.gtf (λa4=>.bind (eo _) λL h2=>.nof (λA=>.bind (eo _) λJ H=>.nof (λB=>.bind (eo _) λK E=>.not (λ_=>.some nofun) λD=>?_) λ_=>.some nofun) λ_=>.some nofun) λ_=>.some nofun) λ_=>.some nofun) λ_=>.some nofun) λ_=>.some nofun;have b2:=h2 A;have j:=H B;have k:=E D;refine .eq (λc=>g (by omega) ?_) λ_=>.eq (λc=>g (by omega) ?_) λ_=>.eq (λc=>g (by omega) ?_) λ_=>.eq (λc=>g (by omega) ?_) λ_=>.eq (λc=>g (by omega) ?_) λ_=>.eq (λc=>g (by omega) ?_) λ_=>.eq (λx=>?_) λx=>.eq (λw=>?_) λw=>by omega
 case refine_7=>refine .ltf (λG=>.gt (λ_=>.some nofun) λC=>.eq (λ_=>.some nofun) λv=>.ite (λ_=>.some nofun) λn=>.le (λ_=>.bind (Zf e) λy h=>.ite (λd=>.bind (qg _) λz r=>.some λq _=>?_) λ_=>.some nofun) λ_=>.some nofun) λ_=>.some nofun;obtain⟨F,I⟩:=h d;exact⟨by omega,by omega,by omega,by omega,b2.1,b2.2,j.1,j.2,k.1,k.2,E5 n,r q,.inr ⟨x,by have:=b2.1;(try dsimp only at this);omega,F,I⟩⟩
 case refine_8=>refine .ltf (λG=>.gt (λ_=>.some nofun) λC=>.ne (λ_=>.some nofun) λv=>.ite (λ_=>.some nofun) λn=>.le (λ_=>.bind (Bw e) λy h=>.ite (λd=>.bind (qg _) λz r=>.some λq _=>?_) λ_=>.some nofun) λ_=>.some nofun) λ_=>.some nofun;exact⟨by omega,by omega,by omega,by omega,b2.1,b2.2,j.1,j.2,k.1,k.2,E5 n,r q,.inl ⟨w,v⟩⟩
 all_goals repeat' first
  |exact .some trivial
  |refine .ite (λ_=>?_) λ_=>?_
  |refine .itf (λ_=>?_) λ_=>?_
  |refine .bind (Bw _) λ_ _=>?_
  |refine .bind (JJV _) λ_ _=>?_
  |refine .bind (JMZ _) λ_ _=>?_
end
section
variable {B S:Int}
def nX(x y:Int):Int:=if x<y then -1 else if y<x then 1 else 0
def cmpE(a b:aA):Int:=if nX (bB a) (bB b)=0 then nX a.1 b.1 else nX (bB a) (bB b)
theorem og(x:Int):aM x x=false:=by simp[aM]
theorem lr(x y:Int):qV (x,y)=some (nX x y):=by
 unfold qV EE nX;dsimp only;rw[og,og];by_cases h:x<y;simp[aK,h];by_cases h2:y<x;simp[aK,aN,h,h2];simp[aK,aN,h,h2]
theorem Zh(p q:Int):zA [p,q]=some (if p=0 then q else p):=by
 unfold zA;have h: ∀p q:Int,VP (0,[p,q],J0 [p,q],0)=if aM p 0=true then some (.inr p)else some (.inl (0,[p,q],J0 [p,q],1)):=λp q=>rfl
 have g: ∀p q:Int,VP (0,[p,q],J0 [p,q],1)=if aM q 0=true then some (.inr q)else some (.inl (0,[p,q],J0 [p,q],2)):=λp q=>rfl
 have k: ∀p q:Int,VP (0,[p,q],J0 [p,q],2)=some (.inr 0):=λp q=>rfl;by_cases e:p=0;subst e;rw[if_pos rfl,hM ((h 0 q).trans (if_neg (by decide)))];by_cases j:q=0;subst j;rw[hM ((g 0 0).trans (if_neg (by decide)))];exact eO (k 0 0);exact eO ((g 0 q).trans (if_pos (CR.2 j)));rw[if_neg e];exact eO ((h p q).trans (if_pos (CR.2 e)))
theorem Dn(a b:aA):zQ (a,b)=some (cmpE a b):=by unfold zQ cmpE bB;dsimp only;rw[lr,lr];simp only[JQ];rw[Zh];rfl
theorem YR(a b:aA):jC (a,b)=some (cmpE a b):=by
 have h:Tot (jC (a,b)) λy=>y=cmpE a b:=by
  unfold jC cmpE nX bB;dsimp only;refine .ltf (λc=>.eq (λg=>.lt (λj=>.some ?_) λj=>.eq (λ_=>.eq (λk=>.some ?_) λk=>.some ?_) λc=>absurd g c) λg=>.eq (λc=>absurd c g) λ_=>.some ?_) λc=>.some ?_
  all_goals repeat' split
  all_goals omega
 obtain⟨y,e,d⟩:=h;rw[e,d]
def ltE(a b:aA):Prop:=bB a<bB b\/(bB a=bB b/\a.1<b.1)
theorem PE{a b:aA}:cmpE a b<0↔ltE a b:=by
 unfold cmpE nX ltE
 repeat' split
 all_goals first|omega|(constructor<;>intro h<;>omega)
theorem qa{a b:aA}:cmpE a b=0↔bB a=bB b/\a.1=b.1:=by
 unfold cmpE nX
 repeat' split
 all_goals first|omega|(constructor<;>intro h<;>omega)
theorem JMz(r:Jt):Tot (EH r) λy=>y=true->uA r:=by unfold EH;exact .ge (λq=>.le (λe=>.le (λg=>.ge (λo=>.le (λk=>.lt (λn=>.ge (λh=>.some λj=>⟨q,e,g,o,k,n,h,eN.1 j⟩) λ_=>.some nofun) λ_=>.some nofun) λ_=>.some nofun) λ_=>.some nofun) λ_=>.some nofun) λ_=>.some nofun) λ_=>.some nofun
theorem JLH(e:aA):Tot (wB e) λy=>y=true->e.2.1=1\/e.2.1=2:=by unfold wB;exact .eqf (λ_=>.some λd=>.inr (jW.1 d)) λc=>.some λ_=>.inl c
theorem JMg(r:Jt)(e:aA):Tot (EG (r,e)) λy=>y=true->(e.2.1=1\/e.2.1=2)/\r.1<=e.1/\e.1<=r.2.1/\r.2.2.1<=bB e/\bB e<=r.2.2.2.1:=by unfold EG;exact .bind (JLH e) λy h=>.ite (λd=>.ge (λn=>.le (λg=>.ge (λj=>.some λk=>⟨h d,j,eN.1 k,n,g⟩) λ_=>.some nofun) λ_=>.some nofun) λ_=>.some nofun) λ_=>.some nofun
theorem JIO{t:Ty}(x:t.D):eqT t x x=true:=J0F.2 rfl
theorem JGI{e:aA}(h:EF e)(hk:e.2.1=1\/e.2.1=2):Ju e=some true:=by
 obtain⟨Q,R,a3,a4,M,H,D,z,O,v,g,j,x⟩:=h;have o: ∀{n:Int},0<=n->n<e.1->kG (n,e.1)=some true:=fun{n} h1 h2=>by unfold kG;rw[if_pos (sG.2 h1)];exact congrArg some (hE.2 h2)
 have sh:Tot (oY e) λy=>y=(e,true):=by
  unfold oY;rcases x with⟨k,q⟩|⟨k,K,S,L⟩;refine .eq (λ_=>.bind (cI j) λy d=>.eq (λc=>by omega) λ_=>.ite (λ_=>.ge (λ_=>.some ?_) λc=>absurd a3 c) λc=>by rw[d]at c;cases c) λc=>absurd k c;obtain⟨r,N,P,J,B,F,E,G⟩:=e
  (try dsimp only at k q g a4)
  subst q;subst g;exact congrArg (Prod.mk _) (eN.2 a4);refine .eq (λc=>by omega) λ_=>.eq (λ_=>.bind (cI j) λy d=>.eq (λ_=>.ite (λ_=>.gt (λ_=>.ge (λ_=>.le (λ_=>.ge (λ_=>.some ?_) λc=>absurd a3 c) λc=>absurd L c) λc=>absurd S c) λc=>absurd K c) λc=>by rw[d]at c;cases c) λc=>absurd k c) λc=>absurd k c;obtain⟨r,N,P,J,B,F,E,G⟩:=e
  (try dsimp only at g a4)
  subst g;exact congrArg (Prod.mk _) (eN.2 a4)
 have w:Tot (Ju e) λy=>y=true:=by unfold Ju;refine .bind sh λy d=>?_;subst d;exact .ite (λ_=>.ite (λ_=>.ge (λ_=>.le (λ_=>.bind (cI (o M H)) λV A=>.ite (λ_=>.bind (cI (o D z)) λT C=>.ite (λ_=>.bind (cI (o O v)) λU I=>.some I) λc=>by rw[C]at c;cases c) λc=>by rw[A]at c;cases c) λc=>absurd R c) λc=>absurd Q c) λc=>by have q:=JIO (t:=t_api_Entry) e;cases q.symm.trans c) λc=>by cases c
 obtain⟨y,r,d⟩:=w;rw[r,d]
theorem JMO(r:Jt):Tot (hO r) λy=>y=true->nD r:=by
 unfold hO;refine .bind (JMz r) λy1 E=>.nof (λR=>.gt (λ_=>.some nofun) λc2=>?_) λ_=>.some nofun;have E:=E R;have Q:=Jc (l:=r.2.2.2.2.2);refine Jj (τ:=Int) (λq=>(r.2.2.2.2.2,J0 r.2.2.2.2.2,q,r)) (λi=>0<=i/\i<=J0 r.2.2.2.2.2/\(∀(j:Nat) (e:aA),(j:Int)<i->r.2.2.2.2.2[j]?=some e->EF e/\(e.2.1=1\/e.2.1=2)/\r.1<=e.1/\e.1<=r.2.1/\r.2.2.1<=bB e/\bB e<=r.2.2.2.1)/\(∀e,0<i->r.2.2.2.2.2[0]?=some e->e.2.2.2.2.1<r.1)/\ ∀(j:Nat) (a b:aA),(j:Int)+1<i->r.2.2.2.2.2[j]?=some a->r.2.2.2.2.2[j+1]?=some b->kW r.1 a b) (λq=>J0 r.2.2.2.2.2-q) ?_ 0 rfl ⟨aU _,Q,λj e h=>by omega,λe h=>by omega,λj a b h=>by omega⟩;rintro i ⟨h0,hn,h1,h2,O⟩;unfold gy;dsimp only;have o1:=Jm i 1;have o2:=bL i 1;refine .lt (λc=>?_) λc=>.some λ_=>⟨E,by omega,λj e o=>?_,λe o=>h2 e (by have:=kR o;omega) o,λj a b J z=>O j a b (by have:=kR z;omega) J z⟩;obtain⟨e,o,v⟩:=gK h0 c;refine .bind (cI o) λg W=>?_;subst W;refine .bind (JKD g) λy5 h5=>.nof (λT=>.bind (JMg r g) λy6 V=>.not (λ_=>.some nofun) λS=>?_) λ_=>.some nofun;have N:=V S;have A:EF g/\(g.2.1=1\/g.2.1=2)/\r.1<=g.1/\g.1<=r.2.1/\r.2.2.1<=bB g/\bB g<=r.2.2.2.1:=⟨h5 T N.1,N⟩;have nx:(i=0->g.2.2.2.2.1<r.1)->(∀a,0<i->r.2.2.2.2.2[(i-1).toNat]?=some a->kW r.1 a g)-> ∃c':Int,((r.2.2.2.2.2,J0 r.2.2.2.2.2,J1 .i64 i 1,r):TL)=(r.2.2.2.2.2,J0 r.2.2.2.2.2,c',r)/\(0<=c'/\c'<=J0 r.2.2.2.2.2/\(∀(j:Nat) (e:aA),(j:Int)<c'->r.2.2.2.2.2[j]?=some e->EF e/\(e.2.1=1\/e.2.1=2)/\r.1<=e.1/\e.1<=r.2.1/\r.2.2.1<=bB e/\bB e<=r.2.2.2.1)/\(∀e,0<c'->r.2.2.2.2.2[0]?=some e->e.2.2.2.2.1<r.1)/\ ∀(j:Nat) (a b:aA),(j:Int)+1<c'->r.2.2.2.2.2[j]?=some a->r.2.2.2.2.2[j+1]?=some b->kW r.1 a b)/\J0 r.2.2.2.2.2-c'<J0 r.2.2.2.2.2-i/\0<=J0 r.2.2.2.2.2-i:=by
  intro Y Z;refine⟨J1 .i64 i 1,rfl,⟨by omega,by omega,λj f hj k=>?_,λf hp k=>?_,λj a b hj w n=>?_⟩,by omega,by omega⟩;by_cases F:(j:Int)<i;exact h1 j f F k;have:j=i.toNat:=by omega
  subst this;rw[v]at k;injection k with k;subst k;exact A;by_cases hi:0<i;exact h2 f hi k;have M:i=0:=by omega
  subst M;rw[show(0:Int).toNat=0 from rfl]at v;rw[v]at k;injection k with k;subst k;exact Y rfl;by_cases F:(j:Int)+1<i;exact O j a b F w n;have G:j+1=i.toNat:=by omega
  have e2:j=(i-1).toNat:=by omega
  rw[G,v]at n;injection n with n;subst n;rw[e2]at w;exact Z a (by omega) w
 refine .eqf (λB=>?_) λB=>.ge (λ_=>.some nofun) λc5=>.some (nx (λ_=>by omega) λa h=>by omega);have G:Js .i64 i 1=i-1:=by omega
 rw[G];obtain⟨a,w,L⟩:=gK (l:=r.2.2.2.2.2) (i:=i-1) (by omega) (by omega);have H:kW r.1 a g->(∀b,0<i->r.2.2.2.2.2[(i-1).toNat]?=some b->kW r.1 b g):=λh b _ n=>by rw[L]at n;injection n with n;subst n;exact h
 refine .bind (cI w) λy7 P=>?_;subst P;refine .lt (λC=>.ge (λ_=>.some nofun) λc6=>.some (nx (λh=>absurd h B) (H (.inl ⟨C,by omega⟩)))) λC=>.bind (cI w) λI U=>?_;subst U;refine .bind (cI (Dn I g)) λy9 d9=>.gef (λc9=>.ne (λ_=>.some nofun) λK=>.some (nx (λh=>absurd h B) (H ?_))) λ_=>.some nofun;subst d9;rcases(PE (a:=I) (b:=g)).1 (by omega)with q|⟨D,x⟩;exact absurd q C;exact .inr ⟨D,x,K⟩;obtain⟨D,x⟩:=h1 j e (by have:=kR o;omega) o;exact⟨JGI D x.1,x⟩
end
section
variable {B S:Int}
theorem ltE.trans{a b c:aA}(h1:ltE a b)(h2:ltE b c):ltE a c:=by unfold ltE at*;omega
def dX:List aA->aA->List aA|[],e=>[e]|x::l,e=>if cmpE x e<0 then x::dX l e else if cmpE x e=0 then x::l else e::x::l
end
section
variable {B S:Int}
def nY(r:Jt):Prop:=aB 16384 9223372036854775807 cK r
theorem vv{r:Jt}(h:nY r): ∃v,hO r=some v/\kE r=some v/\(v=true->nD r):=by
 obtain⟨y,e,h1⟩:=JMO r;obtain⟨z,g,_⟩:=ui (B:=16384) (S:=9223372036854775807) h;refine⟨y,e,?_,h1⟩;cases y with
 |true=>exact r5 (h1 rfl)
 |false=>
  cases z with
  |false=>exact g
  |true=>have:=VU (nD.of g);rw[this]at e;cases e
theorem JKt(l:List aA)(e:aA):(dX l e).length<=l.length+1:=by
 induction l with
 |nil=>simp[dX]
 |cons x l ih=>
  unfold dX;split;simp only[tM];omega;split;simp;simp
theorem Iv{e:aA}{l m:List aA}(h: ∀y∈l,cmpE y e<0):dX (l++m) e=l++dX m e:=by
 induction l with
 |nil=>rfl
 |cons y l ih=>rw[lQ,dX,if_pos (h y List.mem_cons_self),ih λz g=>h z (kK _ g)];rfl
theorem JL0{l:List aA}{e:aA}(hl:J0 l<=16384):Tot (DZ (l,e)) λy=>y.1=dX l e:=by
 unfold DZ;have P:=Jc (l:=l);refine Jj (τ:=Int) (λq=>(l,q,e)) (λi=>0<=i/\i<=J0 l/\ ∀y∈l.take i.toNat,cmpE y e<0) (λi=>J0 l-i) ?_ 0 rfl ⟨aU _,P,λy V=>by simp at V⟩;rintro i ⟨E,h1,h2⟩;unfold yp;dsimp only;have o1:=Jm i 1;have M:dX l e=l.take i.toNat++dX (l.drop i.toNat) e:=by have:=Iv (m:=l.drop i.toNat) h2;rwa[mZ]at this
 have put:(∀x,l[i.toNat]?=some x->0<cmpE x e)->Tot ((bC l none (some i)).bind λw=>(cA 128 w).bind λA=>(JC 128 A [e]).bind λB=>(bC l (some i) none).bind λv=>(JC 128 B v).bind λo=>some (o,true)) λy=>y.1=dX l e:=by
  intro j;obtain⟨p,W,I,q1⟩:=FF (l:=l) (k:=i) E h1;obtain⟨r,U,F,_⟩:=NN (l:=l) (k:=i) E h1;have lp:J0 p<=16384:=by omega
  have hlen:J0 p+J0 r=J0 l:=by rw[I,F];unfold J0;rw[iJ,nU];unfold J0 at h1;omega
  have np:=Jc (l:=p);have nr:=Jc (l:=r);refine .bind (cI W) λw T=>?_;subst T;have Q:cA 128 w=some w:=by unfold cA;rw[if_pos];unfold kN;unfold J0 at lp np;simp only[decide_eq_true_eq];omega
  refine .bind (cI Q) λA S=>?_;subst S;refine .bind (cI (CJ (l:=A) (m:=[e]) (by rw[uY];omega) (by decide))) λB L=>.bind (cI U) λv J=>?_;subst L;subst J;refine .bind (cI (CJ (l:=A++[e]) (m:=v) (by rw[CZ,uY];omega) (by decide))) λo H=>.some ?_;show o=dX l e;rw[H,I,F,M,nV]
  congr 1
  cases hd:l.drop i.toNat with
  |nil=>rfl
  |cons x t=>have g:=j x (by rw[<-List.head?_drop,hd];rfl);rw[dX,if_neg (by omega),if_neg (by omega)];rfl
 refine .lt (λc=>?_) λc=>.inr (.lt (λC=>absurd C c) λ_=>put λx j=>by have:=kR j;omega);obtain⟨x,j,n⟩:=gK E c;refine .bind (cI j) λO N=>.bind (cI (YR O e)) λy4 d4=>?_;subst N;refine .lt (λC=>.some ⟨J1 .i64 i 1,rfl,⟨by omega,by omega,λz h=>?_⟩,by omega,by omega⟩) λC=>.inr (.lt (λ_=>?_) λD=>absurd c D);rw[show(J1 .i64 i 1).toNat=i.toNat+1 by omega,List.take_add_one,n]at h;rcases zQ9.1 h with h|h;exact h2 z h;simp at h;subst h;omega;refine .bind (cI j) λK R=>.bind (cI (YR K e)) λy6 d6=>?_;subst R;refine .eq (λD=>.bind (cI j) λY Z=>.some ?_) λD=>put λx g=>by rw[n]at g;injection g with g;subst g;omega
 show l=dX l e;have hd:l.drop i.toNat=K::l.drop (i.toNat+1):=by
  have G:=(cC.1 n).1;rw[List.drop_eq_getElem_cons G]
  congr 1
  exact(cC.1 n).2
 rw[M,hd,dX,if_neg (by omega),if_pos (by omega),<-hd,mZ]
theorem JIl(b a:List aA):(b.foldl dX a).length<=a.length+b.length:=by
 induction b generalizing a with
 |nil=>simp
 |cons y b ih=>have:=ih (dX a y);have:=JKt a y;simp only[List.foldl_cons,tM];omega
theorem YA{l:List aA}(h:J0 l<=16384):cA 128 l=some l:=by have:=Jc (l:=l);unfold cA;rw[if_pos];unfold kN;unfold J0 at h this;simp only[decide_eq_true_eq];omega
theorem OX{r:Jt}(h:J0 (ent r)<=4096):mB (r,r)=some true:=by
 have g:Tot (mB (r,r)) λy=>y=true:=by unfold mB;exact .eq (λ_=>.eq (λ_=>.eq (λ_=>.eq (λ_=>.eq (λ_=>.bind (cI (JFC (ent r) h)) λy d=>.some d) λc=>absurd rfl c) λc=>absurd rfl c) λc=>absurd rfl c) λc=>absurd rfl c) λc=>absurd rfl c
 obtain⟨y,e,d⟩:=g;rw[e,d]
end
section
variable {l E F:List aA} {p:Int}
theorem ltE.irr{a:aA}: ¬ltE a a:=by unfold ltE;omega
theorem ltE.asym{a b:aA}(h:ltE a b): ¬ltE b a:=by unfold ltE at*;omega
theorem pq: ∀{a b:List aA},a.Pairwise ltE->b.Pairwise ltE->(∀x,x∈a↔x∈b)->a=b
 |[],[],_,_,_=>rfl
 |[],y::b,_,_,h=>absurd ((h y).2 List.mem_cons_self) (by simp)
 |x::a,[],_,_,h=>absurd ((h x).1 List.mem_cons_self) (by simp)
 |x::a,y::b,o,r,h=>by
  obtain⟨k,n⟩:=List.pairwise_cons.1 o;obtain⟨b1,b2⟩:=List.pairwise_cons.1 r;have e:x=y:=(by rcases bX.1 ((h x).1 List.mem_cons_self)with q|q;exact q;rcases bX.1 ((h y).2 List.mem_cons_self)with j|j;exact j.symm;exact absurd (b1 x q) (k y j).asym);subst e;refine congrArg (x:: ·) (pq n b2 λz=>⟨λg=>?_,λg=>?_⟩);rcases bX.1 ((h z).1 (kK _ g))with rfl|q;exact absurd (k z g) ltE.irr;exact q;rcases bX.1 ((h z).2 (kK _ g))with rfl|q;exact absurd (b1 z g) ltE.irr;exact q
theorem JKx(a b:aA):ltE a b\/(bB a=bB b/\a.1=b.1)\/ltE b a:=by unfold ltE;omega
theorem oj{e:aA}(hd: ∀x∈l,x.1≠e.1): ∀x,x∈dX l e↔x∈l\/x=e:=by
 induction l with
 |nil=>intro x;simp[dX]
 |cons y l ih=>
  intro x;have g:=hd y List.mem_cons_self;have k: ¬cmpE y e=0:=λh=>g (qa.1 h).2;unfold dX;split;rw[bX,ih (λz j=>hd z (kK _ j)),bX,or_assoc];simp only[bX];constructor;rintro(h|h|h);exact .inr h;exact .inl (.inl h);exact .inl (.inr h);rintro((h|h)|h);exact .inr (.inl h);exact .inr (.inr h);exact .inl h
theorem JAI{e:aA}(hs:l.Pairwise ltE)(hd: ∀x∈l,x.1≠e.1):(dX l e).Pairwise ltE:=by
 induction l with
 |nil=>exact List.pairwise_singleton _ _
 |cons y l ih=>
  obtain⟨h1,h2⟩:=List.pairwise_cons.1 hs;have n:=hd y List.mem_cons_self;have o: ¬cmpE y e=0:=λh=>n (qa.1 h).2;have k: ∀x∈l,x.1≠e.1:=λz g=>hd z (kK _ g);unfold dX;split;rename_i c;refine List.pairwise_cons.2 ⟨λz g=>?_,ih h2 k⟩;rcases(oj k z).1 g with q|rfl;exact h1 z q;exact PE.1 c;rename_i c;have j:ltE e y:=(by rcases JKx y e with q|q|q;exact absurd (PE.2 q) c;exact absurd q.2 n;exact q);refine List.pairwise_cons.2 ⟨λz g=>?_,hs⟩;rcases bX.1 g with rfl|g;exact j;exact j.trans (h1 z g)
def srt(l:List aA):List aA:=l.foldl dX []
theorem Dj(l:List aA)(e:aA):srt (l++[e])=dX (srt l) e:=by simp[srt,List.foldl_append]
def Inc(l:List aA):Prop:=l.Pairwise λa b=>a.1<b.1
def inB(f t lo hi:Int)(e:aA):Bool:=decide ((e.2.1=1\/e.2.1=2)/\(lo<=bB e/\bB e<=hi)/\f<=e.1/\e.1<=t)
theorem Fo{f t lo hi:Int}{e:aA}:inB f t lo hi e=true↔(e.2.1=1\/e.2.1=2)/\(lo<=bB e/\bB e<=hi)/\f<=e.1/\e.1<=t:=by simp[inB]
def sel(l:List aA)(f t lo hi:Int):List aA:=srt (l.filter (inB f t lo hi))
theorem Inc.filter(h:Inc l)(q:aA->Bool):Inc (l.filter q):=h.sublist (List.filter_sublist)
end
theorem i1(c x:Bool):(if c=true then some x else some false)=some (c&&x):=by cases c<;>rfl
theorem i2(c x:Bool):(if c=false then some x else some false)=some (!c&&x):=by cases c<;>rfl
theorem i3(c x:Bool):(if c=true then some false else some x)=some (!c&&x):=by cases c<;>rfl
theorem i4{α:Type}(c x:Bool)(E:α):(if c=true then some (E,x)else some (E,false))=some (E,c&&x):=by cases c<;>rfl
theorem Em(c:iZ):AC c=gR c:=rfl
theorem Dx(c:iZ): ∃b,gR c=some b:=by unfold gR;split<;>(try split)<;>exact⟨_,rfl⟩
theorem JFA(c:fT): ∃b,tB c=some b/\kF c=some b:=by obtain⟨b1,e⟩:=Dx c.2.2.1;obtain⟨b2,j⟩:=Dx c.2.2.2;unfold tB zR kF;rw[Em,Em,e,j];simp only[JQ];by_cases h1:aP c.1 0=true<;>by_cases h2:aK c.1 64=true<;>by_cases h:aP c.2.1 0=true<;>by_cases g:aK c.2.1 16=true<;>cases b1<;>simp[h1,h2,h,g]
theorem JDg{x:JE}(e:kG x=some true):0<=x.1/\x.1<x.2:=by
 unfold kG at e;split at e;injection e with e;rename_i h;exact⟨sG.1 h,hE.1 e⟩;cases e
theorem ed(x:JE): ∃b,kG x=some b:=by unfold kG;split<;>exact⟨_,rfl⟩
theorem JKE(c:fT): ∃z,vO c=some z/\(z=true↔c=(0,0,(false,[]),false,[])):=⟨_,rfl,J0F (t:=cX)⟩
theorem Zk(c:fT): ∃z,zV c=some z/\(z=true↔c=(c.1,0,(false,[]),false,[])/\0<=c.1/\c.1<64):=by
 have e:Tot (zV c) λz=>(z=true↔c=(c.1,0,(false,[]),false,[])/\0<=c.1/\c.1<64):=by unfold zV;exact .ite (λh=>.ge (λg=>.some ⟨λk=>⟨(J0F (t:=cX)).1 h,g,hE.1 k⟩,λk=>hE.2 k.2.2⟩) λg=>.some ⟨nofun,λk=>absurd k.2.1 g⟩) λh=>.some ⟨nofun,λk=>(Bool.false_ne_true (h.symm.trans ((J0F (t:=cX)).2 k.1))).elim⟩
 exact e
theorem JMB(e:aA):qU e=Ju e:=by
 obtain⟨l,k,t,q,v,r,c,bl⟩:=e;obtain⟨U,x,A⟩:=JFA c;obtain⟨b1,w⟩:=ed (q,l);obtain⟨b2,L⟩:=ed (v,l);obtain⟨Q,M⟩:=ed (r,l);have N:pE (q,l,k,t,q,v,r,c,bl)=some b1:=w;have O:pE (v,l,k,t,q,v,r,c,bl)=some b2:=L;have P:pE (r,l,k,t,q,v,r,c,bl)=some Q:=M;have T: ∀b:Bool,Jk b= !b:=λ_=>rfl;unfold qU Ju oY;dsimp only;rw[N,O,P,w,L,M,x,A];have j: ∀a b:aA,(eqT t_api_Entry a b=true)=(a=b):=λa b=>propext (J0F (t:=t_api_Entry));have g: ∀a b:fT,(eqT cX a b=true)=(a=b):=λa b=>propext (J0F (t:=cX));have V:b1=true->0<=q/\q<l:=λh=>by subst h;exact JDg w
 have K:k=1\/k=2\/k=3\/k=4\/k=5\/k=6\/k=7\/k=8\/k<1\/8<k:=by omega
 clear w L M N O P x A;have W:J0 ([]:List UInt8)=0:=rfl;obtain⟨z,n,S⟩:=JKE c;obtain⟨y,o,R⟩:=Zk c;rcases K with rfl|rfl|rfl|rfl|rfl|rfl|rfl|rfl|K|K;simp only[show aK 1 1=false from rfl,show aN 1 8=false from rfl,show aJ 1 8=false from rfl,show aJ 1 7=false from rfl,show aJ 1 6=false from rfl,show aJ 1 5=false from rfl,show aJ 1 4=false from rfl,show aJ 1 3=false from rfl,show aJ 1 2=false from rfl,show aJ 1 1=true from rfl,if_true,if_false,dU,reduceCtorEq,JQ,hQ,lG,n,o,i1,i2,i3,i4]
 congr 1
 rw[Bool.eq_iff_iff];simp only[JW,jD,j,g];simp only[aK,aN,aP,aV,aM,aJ,Jk,neS,decide_eq_true_eq,decide_eq_false_iff_not,Prod.mk.injEq,Bool.not_eq_false',Decidable.not_not,true_and,and_true];grind;simp only[show aK 2 1=false from rfl,show aN 2 8=false from rfl,show aJ 2 8=false from rfl,show aJ 2 7=false from rfl,show aJ 2 6=false from rfl,show aJ 2 5=false from rfl,show aJ 2 4=false from rfl,show aJ 2 3=false from rfl,show aJ 2 2=true from rfl,show aJ 2 1=false from rfl,if_true,if_false,dU,reduceCtorEq,JQ,hQ,lG,n,o,i1,i2,i3,i4]
 congr 1
 rw[Bool.eq_iff_iff];simp only[JW,jD,j,g];simp only[aK,aN,aP,aV,aM,aJ,Jk,neS,decide_eq_true_eq,decide_eq_false_iff_not,Prod.mk.injEq,Bool.not_eq_false',Decidable.not_not,true_and,and_true];grind;simp only[show aK 3 1=false from rfl,show aN 3 8=false from rfl,show aJ 3 8=false from rfl,show aJ 3 7=false from rfl,show aJ 3 6=false from rfl,show aJ 3 5=false from rfl,show aJ 3 4=false from rfl,show aJ 3 3=true from rfl,show aJ 3 2=false from rfl,show aJ 3 1=false from rfl,if_true,if_false,dU,reduceCtorEq,JQ,hQ,lG,n,o,i1,i2,i3,i4]
 congr 1
 rw[Bool.eq_iff_iff];simp only[JW,jD,j,g];simp only[aK,aN,aP,aV,aM,aJ,Jk,neS,decide_eq_true_eq,decide_eq_false_iff_not,Prod.mk.injEq,Bool.not_eq_false',Decidable.not_not,true_and,and_true];grind;simp only[show aK 4 1=false from rfl,show aN 4 8=false from rfl,show aJ 4 8=false from rfl,show aJ 4 7=false from rfl,show aJ 4 6=false from rfl,show aJ 4 5=false from rfl,show aJ 4 4=true from rfl,show aJ 4 3=false from rfl,show aJ 4 2=false from rfl,show aJ 4 1=false from rfl,if_true,if_false,dU,reduceCtorEq,JQ,hQ,lG,n,o,i1,i2,i3,i4]
 congr 1
 rw[Bool.eq_iff_iff];simp only[JW,jD,j,g];simp only[aK,aN,aP,aV,aM,aJ,Jk,neS,decide_eq_true_eq,decide_eq_false_iff_not,Prod.mk.injEq,Bool.not_eq_false',Decidable.not_not,true_and,and_true];grind;simp only[show aK 5 1=false from rfl,show aN 5 8=false from rfl,show aJ 5 8=false from rfl,show aJ 5 7=false from rfl,show aJ 5 6=false from rfl,show aJ 5 5=true from rfl,show aJ 5 4=false from rfl,show aJ 5 3=false from rfl,show aJ 5 2=false from rfl,show aJ 5 1=false from rfl,if_true,if_false,dU,reduceCtorEq,JQ,hQ,lG,n,o,i1,i2,i3,i4]
 congr 1
 rw[Bool.eq_iff_iff];simp only[JW,jD,j,g];simp only[aK,aN,aP,aV,aM,aJ,Jk,neS,decide_eq_true_eq,decide_eq_false_iff_not,Prod.mk.injEq,Bool.not_eq_false',Decidable.not_not,true_and,and_true];grind;simp only[show aK 6 1=false from rfl,show aN 6 8=false from rfl,show aJ 6 8=false from rfl,show aJ 6 7=false from rfl,show aJ 6 6=true from rfl,show aJ 6 5=false from rfl,show aJ 6 4=false from rfl,show aJ 6 3=false from rfl,show aJ 6 2=false from rfl,show aJ 6 1=false from rfl,if_true,if_false,dU,reduceCtorEq,JQ,hQ,lG,n,o,i1,i2,i3,i4]
 congr 1
 rw[Bool.eq_iff_iff];simp only[JW,jD,j,g];simp only[aK,aN,aP,aV,aM,aJ,Jk,neS,decide_eq_true_eq,decide_eq_false_iff_not,Prod.mk.injEq,Bool.not_eq_false',Decidable.not_not,true_and,and_true];grind;simp only[show aK 7 1=false from rfl,show aN 7 8=false from rfl,show aJ 7 8=false from rfl,show aJ 7 7=true from rfl,show aJ 7 6=false from rfl,show aJ 7 5=false from rfl,show aJ 7 4=false from rfl,show aJ 7 3=false from rfl,show aJ 7 2=false from rfl,show aJ 7 1=false from rfl,if_true,if_false,dU,reduceCtorEq,JQ,hQ,lG,n,o,i1,i2,i3,i4]
 congr 1
 rw[Bool.eq_iff_iff];simp only[JW,jD,j,g];simp only[aK,aN,aP,aV,aM,aJ,Jk,neS,decide_eq_true_eq,decide_eq_false_iff_not,Prod.mk.injEq,Bool.not_eq_false',Decidable.not_not,true_and,and_true];grind;simp only[show aK 8 1=false from rfl,show aN 8 8=false from rfl,show aJ 8 8=true from rfl,show aJ 8 7=false from rfl,show aJ 8 6=false from rfl,show aJ 8 5=false from rfl,show aJ 8 4=false from rfl,show aJ 8 3=false from rfl,show aJ 8 2=false from rfl,show aJ 8 1=false from rfl,if_true,if_false,dU,reduceCtorEq,JQ,hQ,lG,n,o,i1,i2,i3,i4]
 congr 1
 rw[Bool.eq_iff_iff];simp only[JW,jD,j,g];simp only[aK,aN,aP,aV,aM,aJ,Jk,neS,decide_eq_true_eq,decide_eq_false_iff_not,Prod.mk.injEq,Bool.not_eq_false',Decidable.not_not,true_and,and_true];grind;have I:aJ k 1=false:=by simp[aJ];omega
 have J:aJ k 2=false:=by simp[aJ];omega
 have C:aJ k 3=false:=by simp[aJ];omega
 have D:aJ k 4=false:=by simp[aJ];omega
 have B:aJ k 5=false:=by simp[aJ];omega
 have F:aJ k 6=false:=by simp[aJ];omega
 have G:aJ k 7=false:=by simp[aJ];omega
 have H:aJ k 8=false:=by simp[aJ];omega
 have E:aK k 1=true:=by simp[aK];omega
 simp only[I,J,C,D,B,F,G,H,E,if_true,if_false,dU,reduceCtorEq,JQ,i1,i2,i3,i4];simp;have I:aJ k 1=false:=by simp[aJ];omega
 have J:aJ k 2=false:=by simp[aJ];omega
 have C:aJ k 3=false:=by simp[aJ];omega
 have D:aJ k 4=false:=by simp[aJ];omega
 have B:aJ k 5=false:=by simp[aJ];omega
 have F:aJ k 6=false:=by simp[aJ];omega
 have G:aJ k 7=false:=by simp[aJ];omega
 have H:aJ k 8=false:=by simp[aJ];omega
 have E:aN k 8=true:=by simp[aN];omega
 simp only[I,J,C,D,B,F,G,H,E,if_true,if_false,dU,reduceCtorEq,JQ,i1,i2,i3,i4];simp
end Go.Am
end
section
namespace Go.Am
set_option linter.unusedVariables false
set_option maxRecDepth 20000
set_option maxHeartbeats 1000000
theorem JJo{l:List Int}{y:Jl}(e:sS (l,400)=some y):y.2=0/\J0 y.1<=400:=by
 have h:Par (sS (l,400)) λy=>y.2=0/\J0 y.1<=400:=(by unfold sS;dsimp only;refine .gt (λc=>.bind λa g=>.some ⟨rfl,?_⟩) λc=>.some ⟨rfl,by show J0 l<=400;omega⟩;obtain⟨r,j,_,h2⟩:=FF (l:=l) (k:=400) (by decide) (by omega);rw[j]at g;injection g with g;subst g;show J0 r<=400;omega);exact h _ e
theorem JFp{x0:List Int}{y:Jl}(w0:Ty.inR (.l (.i .u8)) x0)(h:sS (x0,400)=some y):Ty.fit 16384 1073741824 J3 y/\0<=y.2:=by
 have j:Ty.fit (J0 x0) 0 (.l (.i .u8)) x0:=⟨aU _,λa e=>by have:=w0.2 a e;rw[NI];simpa[Ty.inR,IntKind.min,IntKind.max,IntKind.signed,IntKind.bits]using this⟩;have k:0<=J0 x0:=Jc;have g:=(rj (B:=J0 x0) (S:=0) (X:=(x0,400)) ⟨j,hY .i64 400⟩ (show(0:Int)<=400 by decide)).get h;obtain⟨n,o⟩:=JJo h;exact⟨⟨⟨by show J0 y.1<=16384;omega,λa e=>g.1.1.2 a e⟩,g.1.2⟩,by omega⟩
theorem JFM{x0:List Int}(w0:Ty.inR (.l (.i .u8)) x0):Tot (sS (x0,400)) λy=>Ty.fit 16384 1073741824 J3 y/\0<=y.2:=by
 have g:Ty.fit (J0 x0) 0 (.l (.i .u8)) x0:=⟨aU _,λa h=>by have:=w0.2 a h;rw[NI];simpa[Ty.inR,IntKind.min,IntKind.max,IntKind.signed,IntKind.bits]using this⟩;have j:0<=J0 x0:=Jc;obtain⟨y,e,_⟩:=rj (B:=J0 x0) (S:=0) (X:=(x0,400)) ⟨g,hY .i64 400⟩ (show(0:Int)<=400 by decide);exact⟨y,e,JFp w0 e⟩
theorem JLy{l:JM}(h:dN l=some true):(1<=l.1/\l.1<=1099511627776)/\J0 l.2.1<=4096/\ ∀(i:Nat) e,l.2.1[i]?=some e->e.1=l.1+i/\Ju e=some true:=by
 have x:Par (dN l) λy=>y=true->(1<=l.1/\l.1<=1099511627776)/\J0 l.2.1<=4096/\ ∀(i:Nat) e,l.2.1[i]?=some e->e.1=l.1+i/\Ju e=some true:=by
  unfold dN;refine .ltf (λE=>.gtf (λF=>.gtf (λG=>.ltf (λP=>.bind λQ _=>.gt (λ_=>.some nofun) λ_=>?_) λ_=>.some nofun) λ_=>.some nofun) λ_=>.some nofun) λ_=>.some nofun;have hL:J0 l.2.1=l.2.1.length:=rfl;refine .while (λz=>z.2=l/\0<=z.1/\z.1<=J0 l.2.1/\ ∀(i:Nat) e,(i:Int)<z.1->l.2.1[i]?=some e->e.1=l.1+i/\Ju e=some true) ⟨rfl,aU _,by show(0:Int)<=_;omega,λi e hi=>by omega⟩ ?_;rintro⟨i,g⟩ ⟨rfl,B,h1,h2⟩;have L:J0 g.2.1=g.2.1.length:=rfl;have J: ¬g.1<1:=E;have K: ¬(1099511627776:Int)<g.1:=F;have M: ¬(4096:Int)<J0 g.2.1:=G;unfold VY;refine .lt (λq=>.bind λA r=>.nef (λC=>.bind λN n=>.bind λO H=>.not (λ_=>.some nofun) λD=>.some ?_) λ_=>.some nofun) λq=>.some λ_=>⟨⟨by omega,by omega⟩,by omega,λj e o=>h2 j e (by have:j<g.2.1.length:=(cC.1 o).1;simp only at q h1⊢;omega) o⟩;simp only at B h1 h2 q C r n;have S:=Jm g.1 i;have R:=Jm i 1;rw[r]at n;injection n with n;subst n;refine⟨rfl,by show 0<=J1 .i64 i 1;omega,by show J1 .i64 i 1<=J0 g.2.1;omega,λj e I o=>?_⟩;by_cases v:(j:Int)<i;exact h2 j e v o;have w:(j:Int)=i:=(by have:(j:Int)<J1 .i64 i 1:=I;omega);have k:g.2.1[j]?=some A:=by have:idx g.2.1 i=some A:=r;unfold idx at this;rw[if_pos B]at this;rw[<-this,<-w];rfl
  rw[o]at k;injection k with k;subst k D;exact⟨by show e.1=g.1+j;omega,H⟩
 exact x _ h rfl
def GN(es:List aA):Prop:=J0 es<=4096/\ ∃F:Int,∀(i:Nat) e,es[i]?=some e->e.1=F+i/\Ju e=some true
theorem JDt{x y:jL}(h:mF x=some y):GN y.1.2.1:=by
 have g:Par (mF x) λy=>GN y.1.2.1:=by unfold mF;have z:GN ([]:List aA):=⟨by decide,0,λi e j=>by simp at j⟩;refine .bind λv k=>.not (λ_=>.some z) λc=>.bind λo _=>.gt (λ_=>.some z) λ_=>.some ?_;subst c;obtain⟨_,h2,n⟩:=JLy k;exact⟨h2,_,n⟩
 exact g _ h
theorem Is{x:lP}{y:Int×JM×Jl}(h:yN x=some y):GN y.2.1.2.1:=by
 have e:Par (yN x) λy=>GN y.2.1.2.1:=by unfold yN;exact .bind λk _=>.bind λj _=>.bind λn g=>.some (JDt g)
 exact e _ h
theorem fk'{n:Int}(h: -9223372036854775808<=n/\n<=9223372036854775807){B S:Int}:Ty.fit B S (.i .i64) n:=h
theorem JFY{r:Jt}(h:nD r)(id:Int):vR (r,id)=some ((ent r).filter (jF id)):=by
 have o:Tot (vR (r,id)) λy=>y=(ent r).filter (jF id):=by
  have E:J0 (ent r)<=4096:=h.2.1;unfold vR;refine .bind (cI (r5 h)) λJ w=>.not (λc=>by rw[w]at c;cases c) λ_=>Jj (τ:=Int) (λq=>(id,q,r,((ent r).take q.toNat).filter (jF id))) (λq=>0<=q/\q<=J0 (ent r)) (λq=>J0 (ent r)-q) ?_ 0 (by simp) ⟨aU _,Jc⟩;rintro i ⟨D,h1⟩;unfold yo;dsimp only;have H:=Jm i 1;refine .lt (λc=>?_) λc=>.some ?_;have c:i<J0 (ent r):=c;obtain⟨e,G,v⟩:=gK D c;have F:(J1 .i64 i 1).toNat=i.toNat+1:=by omega
  have n:(ent r).take (J1 .i64 i 1).toNat=(ent r).take i.toNat++[e]:=by rw[F,List.take_add_one,v];rfl
  have j:idx r.2.2.2.2.2 i=some e:=G;refine .bind (cI j) λB C=>?_;subst C;refine .eq (λk=>.bind (cI j) λz A=>?_) λk=>?_;subst A;have M:J0 (((ent r).take i.toNat).filter (jF id))<=4096:=by
   have K:=List.length_filter_le (jF id) ((ent r).take i.toNat);have N:=List.length_take_le i.toNat (ent r);unfold J0 at E⊢;have L:((ent r).take i.toNat).length<=(ent r).length:=by rw[iJ];omega
   omega
  refine .bind (cI (CJ (by rw[uY];omega) (by decide))) λI x=>?_;subst x;refine .some ⟨J1 .i64 i 1,?_,⟨by omega,by omega⟩,by omega,by omega⟩;have g:jF id z=true:=jW.2 k;rw[n,List.filter_append,List.filter_cons_of_pos g,List.filter_nil];refine .some ⟨J1 .i64 i 1,?_,⟨by omega,by omega⟩,by omega,by omega⟩;have g: ¬jF id B=true:=λh=>k (jW.1 h);rw[n,List.filter_append,List.filter_cons_of_neg g,List.filter_nil,gU];have c: ¬i<J0 (ent r):=c;rw[List.take_of_length_le (by unfold J0 at c;omega)]
 obtain⟨y,e,d⟩:=o;rw[e,d]
theorem Bu{z:List UInt8}(h:Ty.inR .s z):Ty.fit 16384 9223372036854775807 .s z:=by show J0 z<=9223372036854775807;have h2:z.length<=maxLen:=h;unfold maxLen at h2;unfold J0;omega
theorem lS{z:Int}(h:Ty.inR (.i .i64) z):Ty.fit 16384 9223372036854775807 (.i .i64) z:=by rw[J2];simpa[Ty.inR,IntKind.min,IntKind.max,IntKind.signed,IntKind.bits]using h
theorem B2{c:iZ}(h:Ty.inR JD c):Ty.fit 16384 9223372036854775807 JD c:=⟨trivial,Bu h.2⟩
theorem JK0{r:Jt}(h:Ty.inR cK r)(hl:J0 (ent r)<=16384):nY r:=
 ⟨lS h.1,lS h.2.1,lS h.2.2.1,lS h.2.2.2.1,lS h.2.2.2.2.1,hl,λe j=>by
  have g:=h.2.2.2.2.2.2 e j;exact⟨lS g.1,lS g.2.1,lS g.2.2.1,lS g.2.2.2.1,lS g.2.2.2.2.1,lS g.2.2.2.2.2.1,⟨lS g.2.2.2.2.2.2.1.1,lS g.2.2.2.2.2.2.1.2.1,B2 g.2.2.2.2.2.2.1.2.2.1,B2 g.2.2.2.2.2.2.1.2.2.2⟩,Bu g.2.2.2.2.2.2.2⟩⟩
theorem JDV{r:Jt}(h:nD r)(id:Int):vZ (r,id)=some ((ent r).filter (jF id)):=by
 have n:Tot (vZ (r,id)) λy=>y=(ent r).filter (jF id):=by
  have x:J0 (ent r)<=4096:=h.2.1;unfold vZ;refine .bind (cI (VU h)) λB v=>.not (λc=>by rw[v]at c;cases c) λ_=>Jj (τ:=Int) (λq=>(id,ent r,J0 (ent r),q,r,((ent r).take q.toNat).filter (jF id))) (λq=>0<=q/\q<=J0 (ent r)) (λq=>J0 (ent r)-q) ?_ 0 (by simp[ent]) ⟨aU _,Jc⟩;rintro i ⟨w,h1⟩;unfold xm;dsimp only;have A:=Jm i 1;refine .lt (λc=>?_) λc=>.some ?_;obtain⟨e,z,o⟩:=gK w c;have k:(ent r).take (J1 .i64 i 1).toNat=(ent r).take i.toNat++[e]:=by rw[show(J1 .i64 i 1).toNat=i.toNat+1 by omega,List.take_add_one,o];rfl
  refine .same z (.eq (λj=>?_) λj=>?_);have E:J0 (((ent r).take i.toNat).filter (jF id))<=4096:=by
   have C:=List.length_filter_le (jF id) ((ent r).take i.toNat);have D:((ent r).take i.toNat).length<=(ent r).length:=by rw[iJ];omega
   unfold J0 at x⊢;omega
  refine .same (CJ (by rw[uY];omega) (by decide)) (.some ⟨J1 .i64 i 1,?_,⟨by omega,by omega⟩,by omega,by omega⟩);have g:jF id e=true:=jW.2 j;rw[k,List.filter_append,List.filter_cons_of_pos g,List.filter_nil];refine .some ⟨J1 .i64 i 1,?_,⟨by omega,by omega⟩,by omega,by omega⟩;have g: ¬jF id e=true:=λh=>j (jW.1 h);rw[k,List.filter_append,List.filter_cons_of_neg g,List.filter_nil,gU];rw[List.take_of_length_le (by unfold J0 at c;omega)]
 obtain⟨y,e,d⟩:=n;rw[e,d]
theorem d7{σ τ ρ:Type}{f:σ->Option (σ⊕ρ)}{g:τ->Option (τ⊕ρ)}(R:σ->τ->Prop)
  (h: ∀s t,R s t->(f s=none/\g t=none)\/(∃r,f s=some (.inr r)/\g t=some (.inr r))\/ ∃s' t',f s=some (.inl s')/\g t=some (.inl t')/\R s' t'):
  ∀(n:Nat) s t,R s t->cJ f n s=cJ g n t
 |0,s,t,_=>rfl
 |n+1,s,t,hR=>by
  rcases h s t hR with⟨h1,h2⟩|⟨r,h1,h2⟩|⟨s',t',h1,h2,e⟩;simp only[cJ,h1,h2];simp only[cJ,h1,h2];simp only[cJ,h1,h2];exact d7 R h n s' t' e
theorem JGg{σ τ ρ:Type}{f:σ->Option (σ⊕ρ)}{g:τ->Option (τ⊕ρ)}(R:σ->τ->Prop)
  (h: ∀s t,R s t->(f s=none/\g t=none)\/(∃r,f s=some (.inr r)/\g t=some (.inr r))\/ ∃s' t',f s=some (.inl s')/\g t=some (.inl t')/\R s' t') {s:σ} {t:τ} (hR:R s t):
  J4 f s=J4 g t:=by
 apply Option.ext;intro r;rw[gQ,gQ];constructor;rintro⟨n,e⟩;exact⟨n,by rw[<-d7 R h n s t hR];exact e⟩;rintro⟨n,e⟩;exact⟨n,by rw[d7 R h n s t hR];exact e⟩
theorem nf{n:Int}(h0:0<=n)(h1:n<=9223372036854775807){B S:Int}:Ty.fit B S (.i .i64) n:=J2.2 ⟨by omega,h1⟩
theorem nx{c:Jl}{n:Int}(hn: -9223372036854775808<=n/\n<=9223372036854775807)(h:Ty.fit 16384 1073741824 J3 c)(h0:0<=c.2):Tot (Ja (n,c)) λy=>(0<=y.1/\y.1<=9223372036854775807/\(1<=n->y.1<n))/\Ty.fit 16384 1073741824 J3 y.2/\0<=y.2.2:=
 (Jg (B:=16384) (S:=1073741824) (X:=(n,c)) ⟨J2.2 hn,h⟩ h0).mono λy h=>⟨⟨h.2.1,(J2.1 h.1.1).2,h.2.2.1⟩,h.1.2,h.2.2.2⟩
theorem nxI{c:Jl}(h:Ty.fit 16384 1073741824 J3 c)(h0:0<=c.2):Tot (Jy c) λy=>Ty.fit 16384 9223372036854775807 (.i .i64) y.1/\Ty.fit 16384 1073741824 J3 y.2/\0<=y.2.2:=
 (JO (B:=16384) (S:=1073741824) (X:=c) h h0).mono λy h=>⟨h.1.1,h.1.2,h.2⟩
theorem oe{l:JM}{c:Jl}(hl:J0 l.2.1<=4096)(hf:Ty.fit 16384 1073741824 JH l)(hc:Ty.fit 16384 1073741824 J3 c)(h0:0<=c.2):
  Tot (KB (l,c)) λy=>nY y.1/\Ty.fit 16384 1073741824 J3 y.2/\0<=y.2.2:=by
 unfold KB;dsimp only;have nn:=Jc (l:=l.2.1);have R:Ty.fit 16384 9223372036854775807 (.i .i64) 0:=hY .i64 0;have nil:Ty.fit 16384 9223372036854775807 (.l t_api_Entry) ([]:List aA):=J8 (by decide);refine .eq (λ_=>.bind (nx (by decide) hc h0) λy2 h2=>.bind (nx (by decide) h2.2.1 h2.2.2) λy3 N=>.some ⟨⟨hY .i64 1,Jf,R,nf N.1.1 N.1.2.1,R,nil⟩,N.2⟩) λ_=>.bind (nx (by omega) hc h0) λY h4=>.bind (nx (J2.1 (eB (B:=0) (S:=0))) h4.2.1 h4.2.2) λy5 h5=>.bind (nx (by decide) h5.2.1 h5.2.2) λV L=>.bind (nx (by decide) L.2.1 L.2.2) λy7 T=>.bind (nx (by decide) T.2.1 T.2.2) λy8 J=>.bind (tx (B:=4096) (S:=1073741824) (X:=(l.2.1,J1 .i64 l.1 Y.1,J1 .i64 (J1 .i64 l.1 Y.1) y5.1,V.1,J1 .i64 V.1 y7.1,y8.1)) ⟨⟨hl,λe v=>Ty.fit.up (B:=0) (by decide) (aU _) (show Ty.fit 0 1073741824 t_api_Entry e from hf.2.1.2 e v)⟩,Jf,Jf,nf L.1.1 L.1.2.1,Jf,nf J.1.1 J.1.2.1⟩) λK h9=>?_;obtain⟨⟨r,q,k,n,o,g6,M⟩,_⟩:=h9;have up: ∀{e:aA},Ty.fit 4096 1073741824 t_api_Entry e->Ty.fit 16384 9223372036854775807 t_api_Entry e:=λh=>Ty.fit.up (by decide) (by decide) h;have Q:J0 K.1.2.2.2.2.2<=4096:=g6;have G:Ty.fit 16384 9223372036854775807 (.l t_api_Entry) K.1.2.2.2.2.2:=⟨by show J0 K.1.2.2.2.2.2<=16384;omega,λe v=>up (M e v)⟩;refine .bind (nx (by decide) J.2.1 J.2.2) λaa E=>.gt (λ_=>.some ⟨⟨r,q,k,n,o,G⟩,E.2⟩) λ_=>.same (YA (by omega)) (.bind (nx (by decide) E.2.1 E.2.2) λac g=>?_);generalize K.1.2.2.2.2.2=es at Q G M;have ne:=Jc (l:=es);refine .eq (λ_=>.bind (nxI g.2.1 g.2.2) λD j=>.some ⟨⟨j.1,q,k,n,o,G⟩,j.2⟩) λ_=>.eq (λ_=>.bind (nxI g.2.1 g.2.2) λD j=>.some ⟨⟨r,j.1,k,n,o,G⟩,j.2⟩) λ_=>
  .eq (λ_=>.bind (nxI g.2.1 g.2.2) λD j=>.some ⟨⟨r,q,k,j.1,o,G⟩,j.2⟩) λ_=>.eq (λ_=>.bind (nx (by decide) g.2.1 g.2.2) λD j=>.some ⟨⟨r,q,k,n,eB,G⟩,j.2⟩) λ_=>
  .eq (λ_=>.gt (λcl=>.bind (nx (by omega) g.2.1 g.2.2) λU z=>?_) λ_=>.some ⟨⟨r,q,k,n,o,G⟩,g.2⟩) λ_=>.eq (λ_=>.gt (λcl=>.bind (nx (by omega) g.2.1 g.2.2) λx A=>?_) λ_=>.some ⟨⟨r,q,k,n,o,G⟩,g.2⟩) λ_=>.some ⟨⟨r,q,k,n,o,G⟩,g.2⟩
 have F:=z.1.1;have b1:=z.1.2.2 (by omega);have hn:J0 es=es.length:=rfl;refine .bind (eF (l:=es) F b1) λ_ _=>.bind (hZ (t:=t_api_Entry) G F b1) λI O=>?_;have fe:Ty.fit 16384 1073741824 t_api_Entry I:=Ty.fit.up (by decide) (aU _) (M I O.2);refine .bind (zh (B:=16384) (S:=1073741824) (X:=(I,U.2)) ⟨fe,z.2.1⟩ z.2.2) λab H=>.bind (eF (l:=es) F b1) λ_ _=>.bind (hZ (t:=t_api_Entry) G F b1) λ_ _=>.some ⟨⟨r,q,k,n,o,jY G (Ty.fit.up (by decide) (by decide) H.1.1)⟩,H.1.2,H.2⟩;have F:=A.1.1;have b1:=A.1.2.2 (by omega);have hn:J0 es=es.length:=rfl;have P:ER x.1 es.length=some x.1.toNat:=by unfold ER;rw[if_pos (by omega)]
 refine .same P (.bind (nx (by omega) A.2.1 A.2.2) λw C=>?_);have b2:=C.1.1;have b3:=C.1.2.2 (by omega);have W:FB w.1 es.length=some w.1.toNat:=by unfold FB;rw[if_pos (by omega)]
 have Z:FM 128 es x.1.toNat (es.drop w.1.toNat)=some (es.take x.1.toNat++es.drop w.1.toNat):=by unfold FM;rw[if_pos ⟨by omega,OT (by rw[nU];omega) (by decide)⟩]
 refine .same W (.same Z (.some ⟨⟨r,q,k,n,o,?_,λe v=>?_⟩,C.2⟩));show J0 (es.take x.1.toNat++es.drop w.1.toNat)<=16384;rw[CZ];unfold J0;rw[iJ,nU];omega;rcases zQ9.1 v with v|v;exact G.2 e (AK v);exact G.2 e (zQ7 v)
end Go.Am
end
section
namespace Go.Am
set_option linter.unusedVariables false
set_option maxRecDepth 20000
set_option maxHeartbeats 1000000
theorem YE(f t lo hi lv:Int)(es:List aA): ∃b,jB (f,t,lo,hi,lv)=some b/\WL (f,t,lo,hi,lv,es)=some (b,es):=by
 unfold jB WL;dsimp only
 repeat' split
 all_goals exact⟨_,rfl,rfl⟩
theorem Zl(f t lo hi lv:Int)(x:aA)(es:List aA):LJ (f,t,lo,hi,lv,x,es)=some (inB f t lo hi x,es):=by
 have k:Tot (LJ (f,t,lo,hi,lv,x,es)) λy=>y=(inB f t lo hi x,es):=by
  unfold LJ;have hc:Tot (wB x) λy=>(y=true↔x.2.1=1\/x.2.1=2):=by unfold wB;exact .eqf (λc=>.some ⟨λd=>.inr (jW.1 d),λd=>jW.2 (d.resolve_left c)⟩) λc=>.some ⟨λ_=>.inl c,λ_=>rfl⟩
  have g: ¬((x.2.1=1\/x.2.1=2)/\(lo<=bB x/\bB x<=hi)/\f<=x.1/\x.1<=t)->(false,es)=(inB f t lo hi x,es):=λh=>by
   have:inB f t lo hi x=false:=by unfold inB;simp only[decide_eq_false_iff_not];exact h
   rw[this]
  refine .bind hc λy h=>.ite (λd=>.ge (λn=>.le (λo=>.ge (λr=>.some ?_) λc=>.some (g λh=>c h.2.2.1)) λc=>.some (g λh=>c h.2.1.2)) λc=>.some (g λh=>c h.2.1.1)) λc=>.some (g λq=>by rw[h.2 q.1]at c;cases c);show(aV x.1 t,es)=_;by_cases j:x.1<=t;rw[eN.2 j,Fo.2 ⟨h.1 d,⟨n,o⟩,r,j⟩];rw[<-g λh=>j h.2.2.2];have:aV x.1 t=false:=by unfold aV;simp[j]
  rw[this]
 obtain⟨y,e,d⟩:=k;rw[e,d]
def leL(a b:aA):Bool:=decide (a.1<=b.1)
theorem JLa:GQ vS leL:=λx y=>by
 refine⟨nX x.1 y.1,?_,?_⟩;unfold vS;dsimp only;rw[lr];rfl;unfold nX leL aK;split;simp;omega;split;simp;omega;simp;omega
theorem By(a b c:aA)(h:leL a b=true)(k:leL b c=true):leL a c=true:=by unfold leL at*;simp at*;omega
theorem Bo(a b:aA):leL a b=true\/leL b a=true:=by unfold leL;simp;omega
noncomputable def mkO(f t lo hi lv:Int)(es:List aA):Option (lT):=if J0 es>4096 then some ((0,0,0,0,0,[]),21)else(kE (f,t,lo,hi,lv,es)).bind λv=>if v=true then some ((f,t,lo,hi,lv,es),0)else some ((0,0,0,0,0,[]),13)
theorem JHt{x y:aA}(hx:J6X x=true)(hy:J6X y=true):J6f x<J6f y↔ltE x y:=by unfold J6X at hx hy;simp only[decide_eq_true_eq]at hx hy;unfold J6f ltE bB;omega
theorem Ev: ∀{l:List Int},(l.Pairwise λx y=>x≠y)->yJ l=true
 |[],_=>rfl
 |x::l,h=>by rw[List.pairwise_cons]at h;simp only[yJ,JW,jD,List.contains_eq_mem,decide_eq_false_iff_not];exact⟨λe=>h.1 x e rfl,Ev h.2⟩
theorem JKO{s E:List aA}(hf: ∀x∈s,J6X x=true)(hl:J0 s<=16384)(hd:s.Pairwise λx y=>x.1≠y.1)(w:E.Pairwise ltE)(hm: ∀x,x∈E↔x∈s):LS s=some E:=by
 have v:(s.map J6f).Pairwise λx y=>x≠y:=by rw[List.pairwise_map];refine hd.imp_of_mem fun{x y} q o h=>?_;have h1:=hf x q;have h2:=hf y o;unfold J6X at h1 h2;simp only[decide_eq_true_eq]at h1 h2;unfold J6f;omega
 have z:iR J6f s=some (s.mergeSort (iP J6f)):=by unfold iR;rw[if_pos ⟨by unfold J0 at hl;omega,Ev v⟩]
 have n:=List.mergeSort_perm s (iP J6f);have r:(s.mergeSort (iP J6f)).Pairwise ltE:=by have h1:=List.pairwise_mergeSort (le:=iP J6f) (λa b c h k=>by unfold iP at*;simp at*;omega) (λa b=>by unfold iP;simp;omega) s;have h2:(s.mergeSort (iP J6f)).Pairwise λx y=>x.1≠y.1:=n.symm.pairwise hd (λh k=>h k.symm);refine(h1.and h2).imp_of_mem fun{x y} q o h=>?_;have g:=hf x (n.mem_iff.1 q);have j:=hf y (n.mem_iff.1 o);rw[<-JHt g j];have h1:=h.1;have h2:=h.2;unfold iP at h1;simp only[decide_eq_true_eq]at h1;unfold J6X at g j;simp only[decide_eq_true_eq]at g j;unfold J6f at h1⊢;omega
 have e:s.mergeSort (iP J6f)=E:=pq r w λx=>by rw[n.mem_iff,hm]
 show(if s.all J6X=true then iR J6f s else none)=some E;rw[if_pos (FI.2 hf),z,e]
end Go.Am
end
section
namespace Go.Am
set_option linter.unusedVariables false
set_option maxRecDepth 20000
set_option maxHeartbeats 1000000
section
variable {α:Type} [Inhabited α] [DecidableEq α]
theorem JJj(l:List α):(Lib.compact l).Sublist l:=by
 have e:=Lib.range_map_get l.toArray;have e:(List.range l.length).map (l.toArray[·]!)=l:=by simpa using e
 conv=>rhs;rw[<-e]
 unfold Lib.compact Lib.compactUpTo;exact List.filter_sublist.map _
theorem JKc{l:List α}{x:α}(h:x∈l):x∈Lib.compact l:=by
 have o: ∀j,j<l.length->l.toArray[j]! ∈Lib.compactUpTo l.toArray (j+1):=by
  intro j
  induction j with
  |zero=>intro _;rw[Lib.compactUpTo_succ,Lib.keeps_lt_one _ 0 (by decide)];simp
  |succ j ih=>
   intro k;rw[Lib.compactUpTo_succ];by_cases q:Lib.keeps l.toArray (j+1)=true;rw[q];simp;have e:l.toArray[j+1]! =l.toArray[j]! :=by
    have: ¬(j+1=0\/l.toArray[j+1]! ≠l.toArray[j+1-1]!):=by simpa[Lib.keeps]using q
    rw[Nat.add_sub_cancel]at this;exact Decidable.of_not_not λh=>this (.inr h)
   rw[e];exact List.mem_append_left _ (ih (by omega))
 have up: ∀m n,m<=n-> ∀z,z∈Lib.compactUpTo l.toArray m->z∈Lib.compactUpTo l.toArray n:=by
  intro m n r
  induction n with
  |zero=>intro z g;rw[show m=0 by omega]at g;exact g
  |succ n ih=>
   intro z g;rcases zQ3 n m with h|h;rw[show n+1=m by omega];exact g;rw[Lib.compactUpTo_succ];exact List.mem_append_left _ (ih h z g)
 obtain⟨j,k,rfl⟩:=List.getElem_of_mem h;have:=up (j+1) l.length k _ (o j k);rw[getElem!_pos l.toArray j (by simpa using k)]at this;simpa[Lib.compact]using this
theorem JIS{l:List α}{R:α->α->Prop}(h: ∀(i j:Nat) (hij:i<j) (hj:j<l.length),l[j]≠l[j-1]->R l[i] l[j]):(Lib.compact l).Pairwise R:=by
 have g: ∀k (n:k<l.length),l.toArray[k]! =l[k]:=λk n=>by rw[getElem!_pos _ _ (by simpa using n)];simp
 unfold Lib.compact Lib.compactUpTo;rw[List.pairwise_map];refine(List.pairwise_lt_range.filter _).imp_of_mem fun{i j} hi hj hij=>?_;obtain⟨h1,h2⟩:=List.mem_filter.1 hj;have h1:=List.mem_range.1 h1;have e:j=0\/l.toArray[j]! ≠l.toArray[j-1]! :=by simpa[Lib.keeps]using h2
 have e:=e.resolve_left (by omega);rw[g j h1,g (j-1) (by omega)]at e;rw[g i (by omega),g j h1];exact h i j hij h1 e
end
theorem Di(l:List aA):(cpL t_api_Entry l:List aA).Sublist l:= @JJj t_api_Entry.D (Jlc t_api_Entry) (JiI t_api_Entry) l
theorem Dc{l:List aA}{x:aA}(h:x∈l):x∈(cpL t_api_Entry l:List aA):= @JKc t_api_Entry.D (Jlc t_api_Entry) (JiI t_api_Entry) l x h
theorem JIZ{l:List aA}{R:aA->aA->Prop}(h: ∀(i j:Nat) (hij:i<j) (hj:j<l.length),l[j]≠l[j-1]->R l[i] l[j]):(cpL t_api_Entry l:List aA).Pairwise R:= @JIS t_api_Entry.D (Jlc t_api_Entry) (JiI t_api_Entry) l R h
def dQ(l:List aA):Prop:= ∀a∈l,∀b∈l,a.1=b.1->a=b
theorem od: ∀{l:List aA},(∀(j:Nat) (a b:aA),l[j]?=some a->l[j+1]?=some b->a.1<b.1)->l.Pairwise λx y=>x.1<y.1
 |[],_=>.nil
 |x::l,h=>by
  have ih:=od (l:=l) λj a b g n=>h (j+1) a b (by simpa using g) (by simpa using n);refine .cons (λy e=>?_) ih;cases l with
  |nil=>cases e
  |cons z l=>
   have k:=h 0 x z rfl rfl;rcases bX.1 e with rfl|e;exact k;have:=(List.pairwise_cons.1 ih).1 y e;omega
theorem JJz{t:List aA}(ht:t.Pairwise λx y=>x.1<=y.1)(hc:dQ t):(cpL t_api_Entry t:List aA).Pairwise λx y=>x.1<y.1:=by
 refine JIZ λi j hij e g=>?_;have h1:t[i].1<=t[j].1:=List.pairwise_iff_getElem.1 ht i j (by omega) e hij;have h2:t[j-1].1<=t[j].1:=List.pairwise_iff_getElem.1 ht (j-1) j (by omega) e (by omega);have k:t[i].1<=t[j-1].1:=by
  rcases zQ3 i (j-1)with h|h;exact List.pairwise_iff_getElem.1 ht i (j-1) (by omega) (by omega) h;have:i=j-1:=by omega
  subst this;exact aU _
 rcases Int.lt_or_le t[i].1 t[j].1 with h|h;exact h;exact absurd (hc _ (lO e) _ (lO (by omega)) (by omega)) g
def rV(s:List aA):Prop:= ∃(j:Nat) (a b:aA),s[j]?=some a/\s[j+1]?=some b/\a.1=b.1
theorem JFQ{t:List aA}(ht:t.Pairwise λx y=>x.1<=y.1)(hc: ¬dQ t):rV (cpL t_api_Entry t):=by
 have q:=ht.sublist (Di t);have n: ∀x∈t,x∈(cpL t_api_Entry t:List aA):=λx w=>Dc w;generalize (cpL t_api_Entry t:List aA)=C at q n;apply Classical.byContradiction;intro z;have o:=od (l:=C) λj a b k g=>by
  have h2:a.1≠b.1:=λe=>z ⟨j,a,b,k,g,e⟩;obtain⟨la,rfl⟩:=cC.1 k;obtain⟨v,rfl⟩:=cC.1 g;have h1:C[j].1<=C[j+1].1:=List.pairwise_iff_getElem.1 q j (j+1) la v (by omega);rcases Int.lt_or_eq_of_le h1 with h|h;exact h;exact absurd h h2
 apply hc;intro a k b g e;obtain⟨i,hi,rfl⟩:=List.getElem_of_mem (n a k);obtain⟨j,r,rfl⟩:=List.getElem_of_mem (n b g);rcases Nat.lt_trichotomy i j with h|h|h;have:=List.pairwise_iff_getElem.1 o i j hi r h;omega;subst h;rfl;have:=List.pairwise_iff_getElem.1 o j i r hi h;omega
theorem JFO{l:List aA}{e:aA}(hl:l.Pairwise ltE)(h:e∈l):dX l e=l:=by
 induction l with
 |nil=>cases h
 |cons x l ih=>
  obtain⟨h1,h2⟩:=List.pairwise_cons.1 hl;unfold dX;rcases bX.1 h with rfl|h;have:cmpE e e=0:=by unfold cmpE nX;simp
  rw[if_neg (by omega),if_pos this];have:=h1 e h;rw[if_pos (PE.2 this),ih h2 h]
theorem ZW{l:List aA}(hc:dQ l):(srt l).Pairwise ltE/\ ∀x,x∈srt l↔x∈l:=by
 have k: ∀{n:Nat} {l:List aA},l.length=n->dQ l->(srt l).Pairwise ltE/\ ∀x,x∈srt l↔x∈l:=by
  intro n
  induction n with
  |zero=>intro l h _;rw[List.length_eq_zero_iff.1 h];exact⟨.nil,by simp[srt]⟩
  |succ n ih=>
   intro l h hi;obtain⟨m,e,rfl⟩: ∃m e,l=m++[e]:=⟨l.dropLast,l.getLast (by intro r;rw[r]at h;simp at h),(List.dropLast_concat_getLast _).symm⟩;have w:m.length=n:=by simpa using h
   obtain⟨s1,g⟩:=ih w λa y b v=>hi a (by simp[y]) b (by simp[v]);rw[Dj];by_cases j:e∈m;rw[JFO s1 ((g e).2 j)];refine⟨s1,λx=>?_⟩;rw[g];constructor;intro h;simp[h];intro h;rcases zQ9.1 h with h|h;exact h;rw[hW.1 h];exact j;have hd: ∀x∈srt m,x.1≠e.1:=λx o q=>j (by
    have:=hi x (by simp[(g x).1 o]) e (by simp) q;rw[<-this];exact(g x).1 o)
   exact⟨JAI s1 hd,λx=>by rw[oj hd,g];simp⟩
 exact k rfl hc
end Go.Am
end
section
namespace Go.Am
set_option linter.unusedVariables false
set_option maxRecDepth 20000
set_option maxHeartbeats 1000000
theorem JHG{l:List aA}{f t lo hi lv:Int}(hn:jB (f,t,lo,hi,lv)=some false):vJ (l,f,t,lo,hi,lv)=some ((0,0,0,0,0,[]),1)/\lD (l,f,t,lo,hi,lv)=some ((0,0,0,0,0,[]),1):=by
 obtain⟨b,b1,b2⟩:=YE f t lo hi lv [];rw[hn]at b1;injection b1 with b1;subst b1;constructor;unfold vJ;dsimp only;rw[b2];rfl;unfold lD;dsimp only;rw[hn];rfl
theorem JKL{f t lo hi lv:Int}{es:List aA}{y:lT}(h:mkO f t lo hi lv es=some y):J0 (ent y.1)<=4096:=by
 unfold mkO at h;split at h;injection h with h;subst h;show J0 ([]:List aA)<=4096;decide;obtain⟨v,_,h⟩:=bF.1 h;split at h;injection h with h;subst h;show J0 es<=4096;omega;injection h with h;subst h;show J0 ([]:List aA)<=4096;decide
theorem JHd{x:aA}(h:Ty.fit 16384 9223372036854775807 t_api_Entry x): ∃b,Ju x=some b:=by obtain⟨b,e,_⟩:=pC (B:=16384) (S:=9223372036854775807) (X:=x) h;exact⟨b,e⟩
theorem Cj{l:List aA}(hf: ∀x∈l,Ty.fit 16384 9223372036854775807 t_api_Entry x)(hl:J0 l<=16384): ∃b,WY l=some b/\(b=false↔ ∀x∈l,Ju x=some true):=by
 have j:Tot (WX l) λy=>(0<=y/\ ¬∀x∈l,Ju x=some true)\/(y= -1/\ ∀x∈l,Ju x=some true):=by
  unfold WX;refine Jj (τ:=Int) (λq=>(l,J0 l,q)) (λi=>0<=i/\i<=J0 l/\tL (λx=>Ju x=some true) l i) (λi=>J0 l-i) ?_ 0 rfl ⟨aU _,Jc,XH⟩;rintro i ⟨k,h1,h2⟩;unfold Fz;dsimp only;have o:=Jm i 1;refine .lt (λc=>?_) λc=>.some (.inr ⟨rfl,dn h2 c⟩);obtain⟨a,e,q⟩:=gK k c;obtain⟨b,g⟩:=JHd (hf a (zQ5 q));have r:VL a=some (Jk b):=by unfold VL;rw[JMB,g];rfl
  refine .same e (.same r (.ite (λd=>.some (.inl ⟨k,λn=>?_⟩)) λd=>.some ⟨J1 .i64 i 1,rfl,⟨by omega,by omega,eg h2 e ?_ (by omega)⟩,by omega,by omega⟩));rw[n a (zQ5 q)]at g;injection g with g;subst g;cases d;cases b with
  |true=>exact g
  |false=>cases d
 obtain⟨y,e,h⟩:=j;unfold WY;rw[e];rcases h with⟨h1,h2⟩|⟨h1,h2⟩;exact⟨true,by simp only[JQ];rw[sG.2 h1],nofun,λh=>absurd h h2⟩;exact⟨false,by subst h1;rfl,λ_=>h2,λ_=>rfl⟩
theorem JKm{s E w1 g:List aA}{f t lo hi lv:Int}(hl:J0 s<=16384)
  (hs: ¬rV s->J0 E=J0 s/\LS s=some E/\ ∃v,hO (f,t,lo,hi,lv,E)=some v/\kE (f,t,lo,hi,lv,E)=some v):
  Tot (J4 gn (1,w1,0,0,0,0,0,g,[],f,t,lo,hi,lv,s)) λy=>(¬rV s->mkO f t lo hi lv E=some y)/\(rV s->y=((0,0,0,0,0,[]),41)):=by
 refine Jj (τ:=Int) (λq=>(q,w1,0,0,0,0,0,g,[],f,t,lo,hi,lv,s)) (λi=>1<=i/\i<=J0 s+1/\ ∀(j:Nat) (a b:aA),(j:Int)+1<i->s[j]?=some a->s[j+1]?=some b->a.1≠b.1) (λi=>J0 s-i) ?_ 1 rfl ⟨aU _,by have:=Jc (l:=s);omega,λj a b h=>by omega⟩;rintro i ⟨R,h1,h2⟩;unfold gn;dsimp only;have O:((s.length:Nat):Int)=J0 s:=rfl;have L:Js .i64 i 1=i-1:=by have:=bL i 1;omega
 refine .lt (λc=>?_) λc=>.map (P:=λy=>(¬rV s->mkO f t lo hi lv E=some y)/\(rV s->y=((0,0,0,0,0,[]),41))) ?_ λ_ h=>h;rw[L];obtain⟨a,Q,B⟩:=gK (l:=s) (i:=i) (by omega) c;obtain⟨b,N,z⟩:=gK (l:=s) (i:=i-1) (by omega) (by omega);have r:s[(i-1).toNat+1]?=some a:=by rw[show(i-1).toNat+1=i.toNat by omega];exact B
 have o:=Jm i 1;refine .same (w:=()) (by unfold aR;rw[if_pos (by omega)]) (.same z (.same (w:=()) (by unfold aR;rw[if_pos (by omega)]) (.same B (.eq (λd=>.some ⟨λh=>absurd ⟨_,b,a,z,r,d⟩ h,λ_=>rfl⟩) λd=>.some ⟨J1 .i64 i 1,rfl,⟨by omega,by omega,λj x y H n k=>?_⟩,by omega,by omega⟩))));by_cases A:(j:Int)+1<i;exact h2 j x y A n k;have H:j=(i-1).toNat:=by omega
 subst H;rw[z]at n;injection n with n;subst n;rw[r]at k;injection k with k;subst k;exact d;have C: ¬rV s:=fun⟨j,a,b,M,F,e⟩=>h2 j a b (by have:=(cC.1 F).1;omega) M F e;obtain⟨I,hs,v,J,K⟩:=hs C;refine .mono (P:=λy=>mkO f t lo hi lv E=some y) ?_ λy h=>⟨λ_=>h,λh=>absurd h C⟩;refine .gt (λc=>.some ?_) λc=>.same hs ?_;unfold mkO;rw[if_pos (by omega)];have D:pL (List.length E) (List.length s)=true:=by
  have:E.length=s.length:=by unfold J0 at I;omega
  rw[this];exact Nat.beq_refl _
 have G:mkO f t lo hi lv E=if v=true then some ((f,t,lo,hi,lv,E),0)else some ((0,0,0,0,0,[]),13):=by unfold mkO;rw[if_neg (by omega),K];rfl
 refine .ite (λ_=>.same J (.not (λd=>.some ?_) λd=>.some ?_)) λd=>by rw[D]at d;cases d
 rw[G,d];rfl;rw[G,d];rfl
theorem JFw{l:List aA}{f t lo hi lv:Int}(hv: ∀x∈l,Ju x=some true)(hf: ∀x∈l,Ty.fit 16384 9223372036854775807 t_api_Entry x)(hl:J0 l<=16384)(hn:jB (f,t,lo,hi,lv)=some true)
  (hr:nY (f,t,lo,hi,lv,[])):Tot (vJ (l,f,t,lo,hi,lv)) λy=>(dQ (l.filter (inB f t lo hi))->mkO f t lo hi lv (sel l f t lo hi)=some y)/\(¬dQ (l.filter (inB f t lo hi))->y=((0,0,0,0,0,[]),41)):=by
 have a6:=List.length_filter_le (inB f t lo hi) l;unfold J0 at hl;have L: ∀x∈l,J6X x=true:=λx g=>by have h1:=(hf x g).1;have h1:IntKind.i64.min<=x.1/\x.1<=IntKind.i64.max:=h1;unfold J6X;simp only[decide_eq_true_eq];have Y:IntKind.i64.min= -9223372036854775808:=rfl;have W:IntKind.i64.max=9223372036854775807:=rfl;omega
 unfold vJ;obtain⟨b,b1,b2⟩:=YE f t lo hi lv [];rw[hn]at b1;injection b1 with b1;subst b1;obtain⟨cb,N,M⟩:=Cj hf (show J0 l<=16384 from hl);have K:=M.2 hv;subst K;refine .same b2 (.ite (λ_=>.not (λc=>by cases c) λ_=>.same N (.ite (λc=>by cases c) λ_=>?_)) λc=>by cases c);refine Jj (τ:=Int×List aA) (λq=>(l,J0 l,q.1,[],0,0,0,0,0,q.2,[],f,t,lo,hi,lv)) (λq=>0<=q.1/\q.1<=J0 l/\q.2=(l.take q.1.toNat).filter (inB f t lo hi)) (λq=>J0 l-q.1) ?_ (0,[]) rfl ⟨aU _,Jc,rfl⟩;rintro⟨i,es⟩ ⟨V,h1,h2⟩;dsimp only at V h1 h2;unfold u0;dsimp only;have o:=Jm i 1;have ln:((l.length:Nat):Int)=J0 l:=rfl;have a5:es.length<=l.length:=by rw[h2];have:=List.length_filter_le (inB f t lo hi) (l.take i.toNat);rw[iJ]at this;omega
 have D: ∀{m:List aA},pL (List.length m) (List.length m)=true:=fun{m}=>Nat.beq_refl _;refine .lt (λc=>?_) λc=>.map (P:=λy=>(dQ (l.filter (inB f t lo hi))->mkO f t lo hi lv (sel l f t lo hi)=some y)/\(¬dQ (l.filter (inB f t lo hi))->y=((0,0,0,0,0,[]),41))) ?_ λ_ h=>h;obtain⟨x,e,q⟩:=gK V c;have Q:l.take (J1 .i64 i 1).toNat=l.take i.toNat++[x]:=by rw[show(J1 .i64 i 1).toNat=i.toNat+1 by omega,List.take_add_one,q];rfl
 refine .same e (.same (Zl f t lo hi lv x es) (.ite (λ_=>.ite (λd=>?_) λd=>.some ⟨(J1 .i64 i 1,es),rfl,⟨by first|omega|(dsimp only;omega),by first|omega|(dsimp only;omega),?_⟩,by first|omega|(dsimp only;omega),by first|omega|(dsimp only;omega)⟩) λd=>by rw[D]at d;cases d));have d:inB f t lo hi x=true:=d;refine .same (CJ (bytes:=128) (l:=es) (m:=[x]) (by unfold J0;simp;omega) (by decide)) (.some ⟨(J1 .i64 i 1,es++[x]),rfl,⟨by first|omega|(dsimp only;omega),by first|omega|(dsimp only;omega),?_⟩,by first|omega|(dsimp only;omega),by first|omega|(dsimp only;omega)⟩);dsimp only;rw[Q,List.filter_append,h2];simp[d];have d:inB f t lo hi x=false:=d;dsimp only;rw[Q,List.filter_append,h2];simp[d];have w:es=l.filter (inB f t lo hi):=by rw[h2,show i.toNat=l.length by omega,List.take_length]
 obtain⟨T,H⟩: ∃T:List aA,ST leL es=T:=⟨_,rfl⟩;have k:T.Perm es:=by rw[<-H];exact YX (le:=leL) es
 have Y:mr es=some T:=by rw[<-H];exact JLx (c:=vS) (le:=leL) (X:=es) By Bo JLa (by omega)
 have U: ∀x∈T,x∈l:=λx g=>by have:=k.mem_iff.1 g;rw[w]at this;exact(List.mem_filter.1 this).1
 have hlen:T.length=es.length:=k.length_eq;have I:T.Pairwise λx y=>x.1<=y.1:=by rw[<-H];exact(xL (le:=leL) By Bo es).imp λh=>by unfold leL at h;simpa using h
 clear H;obtain⟨C,z⟩: ∃C:List aA,cpL t_api_Entry T=C:=⟨_,rfl⟩;have W:mq T=some (T++([t_api_Entry.zero]:List aA),C):=by rw[<-z];show cpE t_api_Entry T=_;unfold cpE;exact if_pos (show T.length<=1099511627776 by omega)
 have sub:C.Sublist T:=by rw[<-z];exact Di T
 have O: ∀x,x∈C↔x∈es:=λx=>⟨λh=>k.mem_iff.1 (sub.subset h),λh=>by rw[<-z];exact Dc (k.mem_iff.2 h)⟩;have cons:dQ T↔dQ es:=⟨λh a G b F=>h a (k.mem_iff.2 G) b (k.mem_iff.2 F),λh a G b F=>h a (k.mem_iff.1 G) b (k.mem_iff.1 F)⟩;have Z:=sub.length_le;have J:dQ es->C.Pairwise λx y=>x.1<y.1:=λh=>by rw[<-z];exact JJz I (cons.2 h)
 have r: ¬dQ es->rV C:=λh=>by rw[<-z];exact JFQ I λh2=>h (cons.1 h2)
 clear z;have B:dQ es-> ¬rV C:=λh ⟨j,a,b,G,F,e⟩=>by obtain⟨la,rfl⟩:=cC.1 G;obtain⟨lb,rfl⟩:=cC.1 F;have:=List.pairwise_iff_getElem.1 (J h) j (j+1) la lb (by omega);omega
 refine .same Y (.ite (λ_=>.same W ?_) λd=>by rw[show pL (List.length T) (List.length es)=true by rw[hlen];exact D]at d;cases d);dsimp only;rw[<-w];refine(JKm (E:=sel l f t lo hi) (by unfold J0;omega) λnc=>?_).mono λy h=>⟨λhc=>h.1 (B hc),λhc=>h.2 (r hc)⟩;have hc:dQ es:=Classical.byContradiction λh=>nc (r h);obtain⟨s1,R⟩:=ZW hc;have n:sel l f t lo hi=srt es:=by unfold sel;rw[w]
 have A:LS C=some (sel l f t lo hi):=JKO (λx g=>L x (U x (sub.subset g))) (by unfold J0;omega) ((J hc).imp λh e=>by omega) (by rw[n];exact s1) λx=>by rw[n,R,O]
 have a4:(sel l f t lo hi).length=C.length:=(by have A:(if C.all J6X=true then iR J6f C else none)=some (sel l f t lo hi):=A;split at A;exact JGs A;cases A);have S:nY (f,t,lo,hi,lv,sel l f t lo hi):=⟨hr.1,hr.2.1,hr.2.2.1,hr.2.2.2.1,hr.2.2.2.2.1,by
  refine⟨?_,λx g=>hf x ?_⟩;show J0 (sel l f t lo hi)<=16384;unfold J0;omega;have g:x∈sel l f t lo hi:=g;rw[n]at g;have g:=(R x).1 g;rw[w]at g;exact(List.mem_filter.1 g).1⟩
 obtain⟨v,v1,v2,_⟩:=vv S;exact⟨by unfold J0;omega,A,v,v1,v2⟩
end Go.Am
end
section
namespace Go.Am
set_option linter.unusedVariables false
set_option maxRecDepth 20000
set_option maxHeartbeats 1000000
theorem JFB{l:List aA}{f t lo hi lv:Int}{y:lT}(hv: ∀x∈l,Ju x=some true)(hl:J0 l<=16384)(hn:jB (f,t,lo,hi,lv)=some true)
  (e:lD (l,f,t,lo,hi,lv)=some y):(dQ (l.filter (inB f t lo hi))->mkO f t lo hi lv (sel l f t lo hi)=some y)/\(¬dQ (l.filter (inB f t lo hi))->y=((0,0,0,0,0,[]),41)):=by
 have aa:Par (lD (l,f,t,lo,hi,lv)) λy=>(dQ (l.filter (inB f t lo hi))->mkO f t lo hi lv (sel l f t lo hi)=some y)/\(¬dQ (l.filter (inB f t lo hi))->y=((0,0,0,0,0,[]),41)):=by
  unfold lD;refine .bind λv E=>.not (λc=>?_) λ_=>.while (λz=>z.1=l/\z.2.1=f/\z.2.2.1=t/\z.2.2.2.1=lo/\z.2.2.2.2.1=hi/\z.2.2.2.2.2.1=lv) ⟨rfl,rfl,rfl,rfl,rfl,rfl⟩ ?_;rw[hn]at E;injection E with E;subst E;cases c;rintro⟨U,f',t',lo',hi',K,i,r0⟩ ⟨h1,h2,M,O,N,h6⟩;dsimp only at h1 h2 M O N h6;subst h1 h2 M O N h6;unfold g8;dsimp only;refine .lt (λ_=>.bind λx F=>.bind λv E=>.not (λc=>?_) λ_=>.some ⟨rfl,rfl,rfl,rfl,rfl,rfl⟩) λ_=>.map ?_;obtain⟨_,q⟩:=fQ F;rw[hv _ (zQ5 q)]at E;injection E with E;subst E;cases c;refine .while (fun(z:rB)=>z.1=U/\z.2.1=f'/\z.2.2.1=t'/\z.2.2.2.1=lo'/\z.2.2.2.2.1=hi'/\ ∃i:Nat,z.2.2.2.2.2.2.1=(i:Int)/\i<=U.length/\z.2.2.2.2.2.2.2.2=(f',t',lo',hi',K,srt ((U.take i).filter (inB f' t' lo' hi')))/\(z.2.2.2.2.2.1=true-> ¬dQ ((U.take i).filter (inB f' t' lo' hi')))/\(z.2.2.2.2.2.1=false->dQ ((U.take i).filter (inB f' t' lo' hi')))) ⟨rfl,rfl,rfl,rfl,rfl,0,rfl,zQ2 _,rfl,nofun,λ_ a I=>by simp at I⟩ ?_;rintro⟨w,r,A,n,g,S,i',r1,r2⟩ ⟨h1,h2,M,O,N,i,h7,h8,Q,D,B⟩;dsimp only at h1 h2 M O N h7 h8 Q D B;subst h1 h2 M O N h7 Q;unfold ie;dsimp only;have o:=Jm (i:Int) 1;have nx: ∀{x:aA},idx w (i:Int)=some x->w.take (i+1)=w.take i++[x]/\i+1<=w.length/\w[i]?=some x:=fun{x} F=>by obtain⟨_,q⟩:=fQ F;rw[Int.toNat_natCast]at q;exact⟨by rw[List.take_add_one,q];rfl,(cC.1 q).1,q⟩
  have skip: ∀{x:aA},idx w (i:Int)=some x->inB r A n g x=false-> ∃j:Nat,J1 .i64 (i:Int) 1=(j:Int)/\j<=w.length/\((r,A,n,g,K,srt ((w.take i).filter (inB r A n g))):Jt)=(r,A,n,g,K,srt ((w.take j).filter (inB r A n g)))/\(S=true-> ¬dQ ((w.take j).filter (inB r A n g)))/\(S=false->dQ ((w.take j).filter (inB r A n g))):=fun{x} F C=>by
   obtain⟨q1,q2,_⟩:=nx F;have R:(w.take (i+1)).filter (inB r A n g)=(w.take i).filter (inB r A n g):=by rw[q1,List.filter_append];simp[C]
   refine⟨i+1,?_,q2,by rw[R],by rw[R];exact D,by rw[R];exact B⟩;unfold J0 at hl;omega
  have Y: ∀{x:aA},¬((x.2.1=1\/x.2.1=2)/\(n<=bB x/\bB x<=g)/\r<=x.1/\x.1<=A)->inB r A n g x=false:=fun{x} F=>by simp only[inB,decide_eq_false_iff_not];exact F
  have a4: ∀{x:aA} {b:Bool},JF x=some b->(b=true↔x.2.1=1\/x.2.1=2):=fun{x b} h=>by
   have k:Par (JF x) λb=>(b=true↔x.2.1=1\/x.2.1=2):=by unfold JF;exact .eqf (λc=>.some ⟨λd=>.inr (jW.1 d),λd=>jW.2 (d.resolve_left c)⟩) λc=>.some ⟨λ_=>.inl c,λ_=>rfl⟩
   exact k _ h
  refine .lt (λci=>.bind λx F=>.bind λb C=>.nof (λcb=>.ltf (λc1=>.gtf (λT=>.ltf (λc3=>.gt (λc4=>.some ⟨rfl,rfl,rfl,rfl,rfl,skip F (Y λq=>by omega)⟩) λc4=>?_) λc3=>.some ⟨rfl,rfl,rfl,rfl,rfl,skip F (Y λq=>by omega)⟩) λT=>.some ⟨rfl,rfl,rfl,rfl,rfl,skip F (Y λq=>by unfold bB at q;omega)⟩) λc1=>.some ⟨rfl,rfl,rfl,rfl,rfl,skip F (Y λq=>by unfold bB at q;omega)⟩) λcb=>.some ⟨rfl,rfl,rfl,rfl,rfl,skip F (Y λq=>by rw[(a4 C).2 q.1]at cb;cases cb)⟩) λci=>.map ?_;obtain⟨q1,q2,q3⟩:=nx F;have ab:inB r A n g x=true:=Fo.2 ⟨(a4 C).1 cb,by unfold bB;omega,by omega,by omega⟩;have R:(w.take (i+1)).filter (inB r A n g)=(w.take i).filter (inB r A n g)++[x]:=by rw[q1,List.filter_append];simp[ab]
  have hlen:J0 (srt ((w.take i).filter (inB r A n g)))<=16384:=by have h1:=List.length_filter_le (inB r A n g) (w.take i);rw[iJ]at h1;have h2:=JIl ((w.take i).filter (inB r A n g)) [];have h2:(srt ((w.take i).filter (inB r A n g))).length<=_:=h2;rw[List.length_nil]at h2;unfold J0 at*;omega
  generalize hm:(w.take i).filter (inB r A n g)=m at*;refine .while (fun(z:wE)=>z.1=w/\z.2.1=r/\z.2.2.1=A/\z.2.2.2.1=n/\z.2.2.2.2.1=g/\z.2.2.2.2.2.2.1=(i:Int)/\z.2.2.2.2.2.2.2.2.2=((r,A,n,g,K,srt m),x)/\0<=z.2.2.2.2.2.2.2.1/\(z.2.2.2.2.2.1=true-> ¬dQ (m++[x]))/\(z.2.2.2.2.2.1=false->dQ m/\tL (λq=>q.1=x.1->q=x) (srt m) z.2.2.2.2.2.2.2.1)) ⟨rfl,rfl,rfl,rfl,rfl,rfl,rfl,aU _,λc hc=>D c λa I b C=>hc a (by simp[I]) b (by simp[C]),λc=>⟨B c,XH⟩⟩ ?_;rintro⟨l3,f3,t3,an,ap,S,i3,k,r3,r4,x3⟩ ⟨h1,h2,M,O,N,h7,Q,a8,D,B⟩;dsimp only at h1 h2 M O N h7 Q a8 D B;injection Q with Q Z;subst h1 h2 M O N h7 Q Z;unfold ig;dsimp only;have ok:=Jm k 1;have up: ∀{z:aA},k<J0 (srt m)->S=false->idx (srt m) k=some z->(z.1=x3.1->z=x3)->S=false->dQ m/\tL (λq=>q.1=x3.1->q=x3) (srt m) (J1 .i64 k 1):=fun{z} V c G a9 _=>⟨(B c).1,eg (B c).2 G a9 (by omega)⟩;have bad: ∀{z:aA},S=false->idx (srt m) k=some z->z.1=x3.1->z≠x3-> ¬dQ (m++[x3]):=fun{z} c G h1 h2 hc=>by have G:=zQ5 (fQ G).2;have G:=((ZW (B c).1).2 z).1 G;exact h2 (hc z (by simp[G]) x3 (by simp) h1)
  refine .lt (λV=>.itf (λW=>.bind λz G=>.eq (λc=>.bind λz2 H=>.some ⟨rfl,rfl,rfl,rfl,rfl,rfl,rfl,?_,?_,?_⟩) λc=>.some ⟨rfl,rfl,rfl,rfl,rfl,rfl,rfl,?_,nofun,λ_=>up V W G (λq=>absurd q c) W⟩) λct=>.some ⟨rfl,rfl,rfl,rfl,rfl,rfl,rfl,?_,λ_=>D ct,nofun⟩) λV=>.map (.bind λao Z=>.some ⟨rfl,rfl,rfl,rfl,rfl,i+1,?_,q2,?_,?_,?_⟩);dsimp only;omega;intro J;rw[G]at H;injection H with H;subst H;refine bad W G c λhe=>?_;have:eqT t_api_Entry z x3=true:=J0F.2 he;rw[this]at J;cases J;intro J;rw[G]at H;injection H with H;subst H;refine up V W G (λ_=>?_) W;cases hq:eqT t_api_Entry z x3 with
  |true=>exact J0F.1 hq
  |false=>rw[hq]at J;cases J
  dsimp only;omega;dsimp only;omega;unfold J0 at hl;dsimp only;omega;obtain⟨y',e',d'⟩:=JL0 (l:=srt m) (e:=x3) (by omega);rw[Z]at e';injection e' with e';subst e';dsimp only;rw[d',R,Dj];dsimp only;rw[R];exact D;dsimp only;rw[R];intro c;obtain⟨g1,g2⟩:=B c;have g2:=dn g2 V;have g3:=(ZW g1).2;intro a I b C L;rcases zQ9.1 I with I|I;rcases zQ9.1 C with C|C;exact g1 a I b C L;rw[hW.1 C]at L⊢;exact g2 a ((g3 a).2 I) L;rw[hW.1 I]at L⊢;rcases zQ9.1 C with C|C;exact(g2 b ((g3 b).2 C) L.symm).symm;exact(hW.1 C).symm;have hi':i=w.length:=by unfold J0 at ci;omega
  subst hi';rw[List.take_length]at D B⊢;refine .ite (λc=>.some ⟨λh=>absurd h (D c),λ_=>rfl⟩) λc=>?_;have hs:srt (w.filter (inB r A n g))=sel w r A n g:=rfl;dsimp only;rw[hs];refine .mono (P:=λy=>mkO r A n g K (sel w r A n g)=some y) ?_ λy h=>⟨λ_=>h,λh2=>absurd (B c) h2⟩;unfold mkO;refine .gt (λc=>.some (by rw[if_pos (by omega)])) λc=>.bind λv hv=>.not (λT=>.some ?_) λT=>.some ?_;rw[if_neg (by omega),hv,T];rfl;rw[if_neg (by omega),hv,T];rfl
 exact aa _ e
theorem JGB{l:List aA}{f t lo hi lv:Int}{y:lT}(hv: ¬∀x∈l,Ju x=some true)(hf: ∀x∈l,Ty.fit 16384 9223372036854775807 t_api_Entry x)(hl:J0 l<=16384)(hn:jB (f,t,lo,hi,lv)=some true)
  (e:lD (l,f,t,lo,hi,lv)=some y):y=((0,0,0,0,0,[]),12):=by
 have j:Par (lD (l,f,t,lo,hi,lv)) λy=>y=((0,0,0,0,0,[]),12):=(by unfold lD;refine .bind λv g=>.not (λc=>?_) λ_=>.while (λz=>z.1=l/\0<=z.2.2.2.2.2.2.1/\tL (λx=>Ju x=some true) l z.2.2.2.2.2.2.1) ⟨rfl,aU _,XH⟩ ?_;rw[hn]at g;injection g with g;subst g;cases c;rintro⟨w,r,t',lo',hi',q,i,A⟩ ⟨h1,h2,h⟩;dsimp only at h1 h2 h;subst h1;unfold g8;dsimp only;have o:=Jm i 1;refine .lt (λk=>.bind λx n=>.bind λv g=>.not (λc=>.some rfl) λc=>.some ⟨rfl,by dsimp only;omega,eg h n (by rw[g,c]) (show J1 .i64 i 1=i+1 by omega)⟩) λk=>absurd (dn h k) hv);exact j _ e
theorem JIf{l:List aA}{f t lo hi lv:Int}(hf: ∀x∈l,Ty.fit 16384 9223372036854775807 t_api_Entry x)(hl:J0 l<=16384)(hr:nY (f,t,lo,hi,lv,[])):
  ∃y,vJ (l,f,t,lo,hi,lv)=some y/\lD (l,f,t,lo,hi,lv)=some y/\mB (y.1,y.1)=some true:=by
 have z0:J0 (ent ((0,0,0,0,0,[]):Jt))<=4096:=by decide
 obtain⟨b,b1,b2⟩:=YE f t lo hi lv [];cases b with
 |false=>obtain⟨h1,h2⟩:=JHG (l:=l) b1;exact⟨_,h1,h2,OX z0⟩
 |true=>
  obtain⟨z,h,_⟩:=tx (B:=16384) (S:=9223372036854775807) (X:=(l,f,t,lo,hi,lv)) ⟨⟨hl,hf⟩,hr.1,hr.2.1,hr.2.2.1,hr.2.2.2.1,hr.2.2.2.2.1⟩;by_cases k: ∀x∈l,Ju x=some true;obtain⟨y,e,h1,h2⟩:=JFw k hf hl b1 hr;obtain⟨w,v⟩:=JFB k hl b1 h;by_cases hc:dQ (l.filter (inB f t lo hi));have g:=w hc;have j:=h1 hc;rw[j]at g;injection g with g;subst g;exact⟨y,e,h,OX (JKL j)⟩;have g:=v hc;have j:=h2 hc;subst g j;exact⟨_,e,h,OX z0⟩;have g:=JGB k hf hl b1 h;subst g;refine⟨_,?_,h,OX z0⟩;obtain⟨r,q,o⟩:=Cj hf hl;have n:r=true:=by
   cases r with
   |true=>rfl
   |false=>exact absurd (o.1 rfl) k
  subst n;unfold vJ;dsimp only;rw[b2];dsimp only[Option.bind_some];rw[if_pos (show pL (List.length ([]:List aA)) (List.length ([]:List aA))=true from rfl),if_neg (by decide),q];rfl
end Go.Am
end
section
namespace Go.Am
set_option linter.unusedVariables false
set_option maxRecDepth 20000
set_option maxHeartbeats 1000000
theorem JEg{σ ρ α:Type}{L:σ->Option (σ⊕ρ)}{z:σ}{o:Option α}{k:α->σ}(h:L z=o.bind λy=>some (.inl (k y))):J4 L z=o.bind λy=>J4 L (k y):=by
 cases o with
 |none=>exact JDQ h
 |some y=>exact hM h
theorem Yx(a b:Int):vat (bG (bG (Vector.replicate 2 0) 0 a) 1 b) (Int.toNat 0)=some a:=by simp[vat,bG]
theorem Zq(a b:Int):vat (bG (bG (Vector.replicate 2 0) 0 a) 1 b) (Int.toNat 1)=some b:=by simp[vat,bG]
theorem CQ{s:List UInt8}{vs:List (Vector Int 2)}{n i:Int}{r:Jt}{a b:Int}(hi:i<n)(hx:idx vs i=some (bG (bG (Vector.replicate 2 0) 0 a) 1 b)):
  J4 DW (s,vs,n,i,r)=(fA (s,a,b)).bind λy=>J4 DW (y,vs,n,J1 .i64 i 1,r):=by
 refine JEg ?_;unfold DW;dsimp only;rw[hE.2 hi,hx];simp only[if_true,JQ,Yx,Zq];rfl
theorem JHs(r:Jt):vL r=(fA ([80,77,82,78],r.1,8)).bind λa=>(fA (a,r.2.1,8)).bind λa=>(fA (a,r.2.2.1,4)).bind λa=>(fA (a,r.2.2.2.1,4)).bind λa=>
  (fA (a,r.2.2.2.2.1,1)).bind λa=>fA (a,J0 r.2.2.2.2.2,4):=by
 have e:vL r=J4 DW ([80,77,82,78],[bG (bG (Vector.replicate 2 0) 0 r.1) 1 8,bG (bG (Vector.replicate 2 0) 0 r.2.1) 1 8,bG (bG (Vector.replicate 2 0) 0 r.2.2.1) 1 4,bG (bG (Vector.replicate 2 0) 0 r.2.2.2.1) 1 4,bG (bG (Vector.replicate 2 0) 0 r.2.2.2.2.1) 1 1,bG (bG (Vector.replicate 2 0) 0 (J0 r.2.2.2.2.2)) 1 4],6,0,r):=rfl;rw[e];rw[CQ (show(0:Int)<6 by decide) rfl];refine congrArg (Option.bind _) (funext λa=>?_);rw[show J1 .i64 0 1=1 from rfl,CQ (show(1:Int)<6 by decide) rfl];refine congrArg (Option.bind _) (funext λa=>?_);rw[show J1 .i64 1 1=2 from rfl,CQ (show(2:Int)<6 by decide) rfl];refine congrArg (Option.bind _) (funext λa=>?_);rw[show J1 .i64 2 1=3 from rfl,CQ (show(3:Int)<6 by decide) rfl];refine congrArg (Option.bind _) (funext λa=>?_);rw[show J1 .i64 3 1=4 from rfl,CQ (show(4:Int)<6 by decide) rfl];refine congrArg (Option.bind _) (funext λa=>?_);rw[show J1 .i64 4 1=5 from rfl,CQ (show(5:Int)<6 by decide) rfl];cases fA (a,J0 r.2.2.2.2.2,4)with
 |none=>rfl
 |some y=>refine eO ?_;unfold DW;rfl
theorem wK{s:List UInt8}{a b:Int}(ha:Ty.fit 0 1073741824 (.i .i64) a)(hs:J0 s<=1000)(h1:1<=b)(h2:b<=8):Tot (fA (s,a,b)) λy=>J0 y=J0 s+b:=
 (si (B:=0) (S:=1073741824) (X:=(s,a,b)) ⟨by show J0 s<=1073741824;omega,ha,by show IntKind.i64.min<=b/\b<=IntKind.i64.max;have e:IntKind.i64.min= -9223372036854775808:=rfl;have g:IntKind.i64.max=9223372036854775807:=rfl;omega⟩).mono λy h=>h.2.2 h1 h2
theorem JDw{l:List UInt8}(hl:J0 l<=8392):Tot (mG l) λy=>J0 y=J0 l+8:=by
 unfold mG;have r:=Jc (l:=l);refine .gt (λc=>absurd c (by omega)) λ_=>.bind (wK (s:=[]) (by show IntKind.i64.min<=J0 l/\J0 l<=IntKind.i64.max;have n:IntKind.i64.min= -9223372036854775808:=rfl;have o:IntKind.i64.max=9223372036854775807:=rfl;omega) (by decide) (by decide) (by decide)) λa g=>?_;have g:J0 a=4:=g;obtain⟨c,e,hc⟩: ∃c,eJ a l=some c/\J0 c=J0 a+J0 l:=by refine⟨a++l,?_,by unfold J0;simp⟩;unfold eJ;unfold J0 at g hl;rw[if_pos (by omega)]
 refine .same e (.bind (JBm (B:=0) (S:=1073741824) (X:=c) (by show J0 c<=1073741824;omega)) λu k=>?_);have k:IntKind.u32.min<=u/\u<=IntKind.u32.max:=k;have n:IntKind.u32.min=0:=rfl;have o:IntKind.u32.max=4294967295:=rfl;have j:aY .i64 u=u:=by have:=FY u;omega
 refine .bind (P:=λy=>J0 y=J0 l+8) ?_ λy h=>.some h;exact(si (B:=0) (S:=1073741824) (X:=(c,aY .i64 u,4)) ⟨by show J0 c<=1073741824;omega,by rw[j];show IntKind.i64.min<=u/\u<=IntKind.i64.max;have v:IntKind.i64.min= -9223372036854775808:=rfl;have q:IntKind.i64.max=9223372036854775807:=rfl;omega,aH 4⟩).mono λy h=>by have:=h.2.2 (show(1:Int)<=4 by decide) (show(4:Int)<=8 by decide);show J0 y=J0 l+8;have this:J0 y=J0 c+4:=this;omega
theorem Cg:nD (1,1,0,0,0,[]):=
 ⟨⟨by decide,by decide,by decide,by decide,by decide,by decide,by decide,by decide⟩,by decide,λj e h=>by simp at h,λe h=>by simp at h,λj a b h=>by simp at h⟩
theorem JJT:UZ ()=some true:=by
 have g:Ty.fit 0 1073741824 (.i .i64) 0:=by show IntKind.i64.min<=0/\0<=IntKind.i64.max;decide
 have j:Ty.fit 0 1073741824 (.i .i64) 1:=by show IntKind.i64.min<=1/\1<=IntKind.i64.max;decide
 have n:Tot (vL (1,1,0,0,0,[])) λy=>J0 y=33:=by
  rw[JHs];have v:J0 ([80,77,82,78]:List UInt8)=4:=rfl;exact .bind (wK j (by omega) (by decide) (by decide)) λa z=>.bind (wK j (by omega) (by decide) (by decide)) λb q=>.bind (wK g (by omega) (by decide) (by decide)) λc hc=>.bind (wK g (by omega) (by decide) (by decide)) λd hd=>
   .bind (wK g (by omega) (by decide) (by decide)) λe w=>(wK g (by omega) (by decide) (by decide)).mono λf r=>by omega
 obtain⟨h,o,h1⟩:=n;obtain⟨f,k,h2⟩:=JDw (l:=h) (by omega);have en:DR (1,1,0,0,0,[])=some (f,0):=by show GW hO vL mG tD (λx=>x.2.2.2.2.2) ((1,1,0,0,0,[]):Jt)=some (f,0);unfold GW;rw[VU Cg];simp only[JQ,if_true];rw[o];simp only[JQ];rw[k];simp only[JQ];rw[if_pos (by unfold J0 at h2 h1;omega)];rfl
 unfold UZ;rw[en];simp only[JQ];rw[if_pos (by rfl),if_pos (by rw[h2,h1];rfl),VU Cg];rfl
end Go.Am
end
section
namespace Go.Am
set_option linter.unusedVariables false
set_option maxRecDepth 20000
set_option maxHeartbeats 1000000
theorem JIR(l m:List aA):WW (l,m)=kJ (l,m):=by
 unfold WW kJ;dsimp only;by_cases h:aM (J0 l) (J0 m)=true;rw[if_pos h,if_pos h];rw[if_neg h,if_neg h];refine JGg (fun(z:List aA×List aA×Int×Int) (w:List aA×List aA×Int)=>z.1=w.1/\z.2.1=w.2.1/\z.2.2.1=J0 z.1/\z.2.2.2=w.2.2) ?_ ⟨rfl,rfl,rfl,rfl⟩;rintro⟨a,b,n,i⟩ ⟨k,j,o⟩ ⟨h1,h2,g,e⟩;dsimp only at h1 h2 g e;subst h1 h2 g e;unfold Ft WP;dsimp only;by_cases c:aK i (J0 a)=true;rw[if_pos c,if_pos c];cases idx a i with
 |none=>exact .inl ⟨rfl,rfl⟩
 |some x=>
  dsimp only[Option.bind_some];cases idx b i with
  |none=>exact .inl ⟨rfl,rfl⟩
  |some y=>
   dsimp only[Option.bind_some];by_cases d:Jk (eqT t_api_Entry x y)=true;rw[if_pos d,if_pos d];exact .inr (.inl ⟨_,rfl,rfl⟩);rw[if_neg d,if_neg d];exact .inr (.inr ⟨_,_,rfl,rfl,rfl,rfl,rfl,rfl⟩)
 rw[if_neg c,if_neg c];exact .inr (.inl ⟨_,rfl,rfl⟩)
theorem ng(a b:Jt):DH (a,b)=mB (a,b):=by unfold DH mB;simp only[JIR]
theorem ds(l:List aA)(hl:J0 l<=16384):kJ (l,l)=some true:=by
 have g:Tot (kJ (l,l)) λy=>y=true:=by unfold kJ;refine .ne (λc=>absurd rfl c) λ_=>Jj (τ:=Int) (λq=>(l,l,q)) (λq=>0<=q/\q<=J0 l) (λq=>J0 l-q) ?_ 0 rfl ⟨aU _,Jc⟩;rintro i ⟨o,h1⟩;unfold WP;dsimp only;have v:=Jm i 1;refine .lt (λc=>?_) λ_=>.some rfl;obtain⟨e,j,_⟩:=gK o c;refine .bind (cI j) λr n=>.bind (cI j) λh k=>.not (λc=>?_) λ_=>.some ⟨J1 .i64 i 1,rfl,⟨by omega,by omega⟩,by omega,by omega⟩;subst n;subst k;have q:eqT t_api_Entry h h=true:=J0F.2 rfl;cases q.symm.trans c
 obtain⟨y,e,d⟩:=g;rw[e,d]
theorem Z6{r:Jt}(h:J0 (ent r)<=16384):DH (r,r)=some true:=by
 rw[ng];have g:Tot (mB (r,r)) λy=>y=true:=by unfold mB;exact .eq (λ_=>.eq (λ_=>.eq (λ_=>.eq (λ_=>.eq (λ_=>.bind (cI (ds (ent r) h)) λy d=>.some d) λc=>absurd rfl c) λc=>absurd rfl c) λc=>absurd rfl c) λc=>absurd rfl c) λc=>absurd rfl c
 obtain⟨y,e,d⟩:=g;rw[e,d]
theorem na{r:Jt}(h:nY r)(id:Int): ∃y,vZ (r,id)=some y/\vR (r,id)=some y/\kJ (y,y)=some true:=by
 obtain⟨v,j,g,hR⟩:=vv h;cases v with
 |true=>have R:=hR rfl;refine⟨_,JDV R id,JFY R id,ds _ ?_⟩;have:=List.length_filter_le (jF id) (ent r);have e:J0 (ent r)<=4096:=R.2.1;unfold J0 at e⊢;omega
 |false=>
  refine⟨[],?_,?_,ds _ (by decide)⟩;unfold vZ;rw[j];rfl;unfold vR;rw[g];rfl
theorem JJF{l:JM}{c:Jl}{y:EU}(hl:J0 l.2.1<=16384)(h:AA (l,c)=some y):J0 y.1.2.1=J0 l.2.1:=by
 have e:Par (AA (l,c)) λy=>J0 y.1.2.1=J0 l.2.1:=by
  unfold AA;refine .bind λg h2=>?_;rw[YA hl]at h2;injection h2 with h2;subst h2;have lp: ∀(i:Nat) (x:aA),J0 (aS l.2.1 i x)=J0 l.2.1:=λi x=>by unfold aS J0;rw[List.length_set]
  exact .itf (λ_=>.bind λ_ _=>.eq (λ_=>.bind λ_ _=>.bind λ_ _=>.some rfl) λ_=>.bind λ_ _=>.bind λ_ _=>.eq (λ_=>.bind λ_ _=>.some rfl) λ_=>.eq (λ_=>.bind λ_ _=>.bind λ_ _=>.bind λ_ _=>.bind λ_ _=>.bind λ_ _=>.some (lp _ _)) λ_=>
   .eq (λ_=>.bind λ_ _=>.bind λ_ _=>.bind λ_ _=>.bind λ_ _=>.bind λ_ _=>.some (lp _ _)) λ_=>.eq (λ_=>.bind λ_ _=>.bind λ_ _=>.bind λ_ _=>.bind λ_ _=>.bind λ_ _=>.some (lp _ _)) λ_=>.some rfl) λ_=>.bind λ_ _=>.bind λ_ _=>.some rfl
 exact e _ h
section
variable {page from_ to_ idx0:Int} {xs:List Jt} {raw x:Jt} {c:Jl} {log odd:JM}
theorem Z4(hx:nY x){j:Int}(hn:J0 xs<=100)(h0:0<=j):
  Tot (J4 mn (page,from_,to_,1,xs,J0 xs,j,raw,c,log,odd,x)) λy=>y=.inl (page,from_,to_,xs,J0 xs,J1 .i64 j 1,raw,c,log,odd):=by
 have w:J0 (ent x)<=16384:=hx.2.2.2.2.2.1;have n:=Jc (l:=ent x);refine Jj (τ:=Int) (λq=>(page,from_,to_,q,xs,J0 xs,j,raw,c,log,odd,x)) (λq=>1<=q/\q<=J0 (ent x)+1) (λq=>J0 (ent x)-q) ?_ 1 rfl ⟨aU _,by omega⟩;rintro i ⟨v,i1⟩;unfold mn;dsimp only;have o:=Jm i 1;have r:=bL i 1;refine .lt (λe=>?_) λ_=>.some rfl;have e:i<J0 (ent x):=e;have k:Js .i64 i 1=i-1:=by omega
 rw[k];obtain⟨a,h,_⟩:=gK (l:=ent x) (i:=i-1) (by omega) (by omega);obtain⟨b,g,_⟩:=gK (l:=ent x) (i:=i) (by omega) e;exact .same h (.same g (.same (Dn a b) (.same h (.same g (.same (YR a b) (.ne (λc=>absurd rfl c) λ_=>.some ⟨J1 .i64 i 1,rfl,by omega,by omega,by omega⟩))))))
theorem Yz(hx:nY x){j:Int}(hn:J0 xs<=100)(h0:0<=j):
  Tot (J4 mj (page,from_,to_,(-1),xs,J0 xs,j,raw,c,log,odd,x)) λy=>y=.inl (page,from_,to_,xs,J0 xs,J1 .i64 j 1,raw,c,log,odd):=by
 refine Jj (τ:=Int) (λq=>(page,from_,to_,q,xs,J0 xs,j,raw,c,log,odd,x)) (λq=> -1<=q/\q<=8) (λq=>8-q) ?_ (-1) rfl (by decide);rintro i ⟨n,i1⟩;unfold mj;dsimp only;have o:=Jm i 1;refine .lt (λr=>?_) λ_=>.map (P:=λy=>y=.inl (page,from_,to_,xs,J0 xs,J1 .i64 j 1,raw,c,log,odd)) (Z4 hx hn h0) λ_ h=>h;obtain⟨y,e,k,g⟩:=na hx i;exact .same e (.same k (.same g (.not (λc=>by cases c) λ_=>.some ⟨J1 .i64 i 1,rfl,by omega,by omega,by omega⟩)))
theorem Zw{g:List (List aA)}(j: ∀l∈g,J0 l<=16384/\ ∀e∈l,Ty.fit 16384 9223372036854775807 t_api_Entry e)(hn:J0 g<=100)(hf: -9223372036854775808<=from_/\from_<=9223372036854775807)(ht: -9223372036854775808<=to_/\to_<=9223372036854775807){h:List aA}:
  Tot (J4 ml (from_,to_,g,J0 g,0,raw,c,log,odd,h)) λy=>y=true:=by
 have k:=Jc (l:=g);refine Jj (τ:=Int) (λq=>(from_,to_,g,J0 g,q,raw,c,log,odd,h)) (λq=>0<=q/\q<=J0 g) (λq=>J0 g-q) ?_ 0 rfl ⟨aU _,k⟩;rintro i ⟨n,i1⟩;unfold ml;dsimp only;have o:=Jm i 1;refine .lt (λr=>?_) λ_=>.some rfl;obtain⟨l,e,q⟩:=gK n r;obtain⟨h1,h2⟩:=j l (zQ5 q);obtain⟨y,w,v,x⟩:=JIf (f:=from_) (t:=to_) (lo:=0) (hi:=5) (lv:=0) h2 h1 ⟨fk' hf,fk' ht,hY .i64 0,hY .i64 5,hY .i64 0,J8 (by decide)⟩;exact .same e (.same w (.same v (.nef (λ_=>.same x (.not (λc=>by cases c) λ_=>.some ⟨J1 .i64 i 1,rfl,by omega,by omega,by omega⟩)) λc=>absurd rfl c)))
end
theorem Wk{x0:List Int}{raw:Jt}{page from_ to_:Int}(w0:Ty.inR (.l (.i .u8)) x0)(w1:Ty.inR cK raw)(w2:Ty.inR (.i .i64) page)(w3:Ty.inR (.i .i64) from_)(V:Ty.inR (.i .i64) to_):WJ (x0,raw,page,from_,to_)=some true:=by
 have N:Tot (WJ (x0,raw,page,from_,to_)) λy=>y=true:=by
  unfold WJ;dsimp only;refine .bind (cI JJT) λy2 W=>.nof (λ_=>.gt (λc=>.some (uX.2 c)) λcr=>.bind (JFM w0) λZ T=>?_) λc=>by rw[W]at c;cases c
  refine .bind ((JEC (B:=16384) (S:=1073741824) (X:=(25,Z)) ⟨hY .i64 25,T.1⟩ T.2 (show(0:Int)<=25 by decide) (show(25:Int)<=1000 by decide)).eqn) λy4 I=>?_;obtain⟨U,log,c⟩:=y4;obtain⟨⟨⟨_,k,Q⟩,w⟩,I⟩:=I;have w:0<=c.2:=w;have F:J0 log.2.1<=4096:=(Is I).1;dsimp only;refine .bind (Xz (B:=16384) (S:=1073741824) (X:=(log,c)) ⟨k,Q⟩ w).eqn λy5 J=>?_;obtain⟨odd,c5⟩:=y5;obtain⟨⟨⟨E,H⟩,A⟩,J⟩:=J;have ad:J0 odd.2.1=J0 log.2.1:=JJF (by omega) J;dsimp only;have A:0<=c5.2:=A;refine .bind (oe F k H A) λG K=>.bind (oe F k K.2.1 K.2.2) λC g2=>?_;have r:nY raw:=JK0 w1 (by show J0 raw.2.2.2.2.2<=16384;omega);have D: ∀x∈[raw,G.1,C.1],nY x:=λx n=>by
   simp only[bX,List.not_mem_nil,or_false]at n;rcases n with rfl|rfl|rfl;exact r;exact K.1;exact g2.1
  have M:J0 [raw,G.1,C.1]=3:=rfl;generalize [raw,G.1,C.1]=xs at D M;refine Jj (τ:=Int) (λq=>(page,from_,to_,xs,J0 xs,q,raw,C.2,log,odd)) (λq=>0<=q/\q<=J0 xs) (λq=>J0 xs-q) ?_ 0 rfl ⟨aU _,Jc⟩;rintro j ⟨O,j1⟩;unfold ze;dsimp only;have o:=Jm j 1;refine .lt (λcj=>?_) λ_=>.map (P:=λy=>y=true) ?_ λ_ h=>h;obtain⟨x,Y,qx⟩:=gK O cj;have n:=D x (zQ5 qx);obtain⟨v,v1,v2,_⟩:=vv n;obtain⟨s,s1,_⟩:=H6 (B:=16384) (S:=9223372036854775807) (X:=(x,raw)) ⟨n,r⟩;obtain⟨y,e1,e2,e3⟩:=na n page;have L: ∀b:Bool,Jk (eqB b b)=false:=λb=>by cases b<;>rfl
  refine .same Y (.same v1 (.same v2 (.itf (λ_=>.same (Z6 n.2.2.2.2.2.1) (.nof (λ_=>.same (by rw[ng];exact s1) (.same s1 (.itf (λ_=>.same e1 (.same e2 (.same e3 (.not (λc=>by cases c) λ_=>?_)))) λc=>by rw[L]at c;cases c))) λc=>by cases c)) λc=>by rw[L]at c;cases c)));obtain⟨z,ez,dz⟩:=Yz (page:=page) (from_:=from_) (to_:=to_) (xs:=xs) (raw:=raw) (c:=C.2) (log:=log) (odd:=odd) n (j:=j) (by omega) O;rw[ez,dz];exact .some ⟨J1 .i64 j 1,rfl,by omega,by omega,by omega⟩;refine .same (YA (by omega)) (.same (CJ (by omega) (by decide)) ?_);have up: ∀{e:aA},Ty.fit 16384 1073741824 t_api_Entry e->Ty.fit 16384 9223372036854775807 t_api_Entry e:=λh=>Ty.fit.up (by decide) (by decide) h;refine Zw (λl R=>?_) (by show J0 [log.2.1,odd.2.1,log.2.1++odd.2.1,raw.2.2.2.2.2]<=100;exact(by decide:(4:Int)<=100)) w3 V;simp only[bX,List.not_mem_nil,or_false]at R;rcases R with rfl|rfl|rfl|rfl;exact⟨by omega,λe g=>up (k.2.1.2 e g)⟩;exact⟨by omega,λe g=>up (E.2.1.2 e g)⟩;refine⟨by rw[CZ];omega,λe g=>?_⟩;rcases zQ9.1 g with g|g;exact up (k.2.1.2 e g);exact up (E.2.1.2 e g);exact⟨by omega,r.2.2.2.2.2.2⟩
 obtain⟨y,e,rfl⟩:=N;exact e
end Go.Am
end
section
namespace Go.Am
set_option maxRecDepth 20000
def AH{α:Type}(f:FuncId):List (FuncId×α)->Option α|[]=>none|(g,a)::r=>if f=g then some a else AH f r
noncomputable def ld:List (FuncId×AFn):=[(21,aL mh),(35,aL Vr),(70,aL Wq),(69,aL Ym),(36,aL Yb),(26,aL Xs),(10,aL JDp),(88,aL Tf),(127,aL Xr),(126,aL Ss),(107,aL Rv),(106,aL Kq),(105,aL Wc),(108,aL V6),(109,aL Wd),(89,aL Pr),(52,aL Ox),(93,aL Ux),(59,aL Wn),(65,aL Ht),(30,aL R9),(51,aL Tt),(90,aL Tn),(53,aL Ov)]
noncomputable def k0:List (FuncId×AFn):=[(19,aL Ka),(39,aL JAe),(103,aL Xb),(73,aL JAa),(38,aL Ob),(74,aL Gr),(40,aL T4),(9,aL L4),(148,aL Xx),(125,aL Wx),(100,aL Yi),(138,aL Tl),(123,aL Gy),(137,aL Gn),(135,aL JB2),(136,aL JAr),(122,aL JAv),(98,aL JBe),(97,aL Sq),(134,aL Wl),(121,aL Mf),(96,aL L9),(63,aL Oe),(68,aL Il)]
noncomputable def me:List (FuncId×AFn):=[(67,aL Pt),(33,aL Oy),(34,aL Lo),(147,aL Sr),(238,aL Pd),(193,aL Oj),(194,aL Lq),(163,aL Pu),(181,aL Mq),(249,aL Wi),(264,aL Mr),(265,aL Kr),(266,aL I2),(223,aL M1),(252,aL O0),(251,aL Vd),(201,aL Nu),(169,aL Lz),(267,aL JB1),(224,aL P3),(225,aL Xf),(180,aL Oo),(159,aL M2),(151,aL M3)]
noncomputable def k8:List (FuncId×AFn):=[(139,aL O6),(24,aL Uq),(214,aL Ta),(215,aL JBh),(260,aL Gq),(217,aL Hj),(213,aL Ko),(257,aL T8),(258,aL JAF),(259,aL Tk),(216,aL K7),(170,aL Kk),(154,aL Ku),(167,aL Gj),(184,aL Ha),(176,aL JA9),(75,aL JAO),(212,aL R8),(256,aL Vo),(211,aL Sc),(210,aL Pb),(175,aL Sm),(209,aL O9),(174,aL JEJ)]
noncomputable def k9:List (FuncId×AFn):=[(156,aL La),(143,aL Xq),(168,aL Pf),(153,aL Ou),(76,aL JAf),(202,aL Qf),(203,aL L5),(171,aL Q8),(205,aL Iy),(254,aL Ts),(206,aL Nv),(287,aL Pj),(253,aL Nc),(204,aL Sh),(207,aL K2),(172,aL Md),(255,aL JB8),(208,aL N2),(173,aL Tx),(155,aL Mj),(142,aL Nz),(232,aL Gd),(274,aL G5),(275,aL I6)]
noncomputable def l7:List (FuncId×AFn):=[(231,aL Uc),(190,aL Tv),(189,aL Vk),(191,aL He),(234,aL Mc),(233,aL U3),(237,aL Gc),(276,aL Qr),(235,aL Gl),(277,aL JEm),(236,aL Uf),(192,aL G7),(162,aL Kz),(188,aL Ra),(161,aL Hb),(227,aL JBg),(183,aL Hr),(84,aL Gw),(291,aL Pq),(270,aL Rm),(271,aL JAi),(228,aL We),(185,aL Ml),(230,aL JAc)]
noncomputable def lj:List (FuncId×AFn):=[(187,aL Re),(273,aL Od),(295,aL Ow),(292,aL I8),(272,aL Mb),(229,aL Hu),(186,aL Ke),(269,aL Lt),(268,aL S3),(226,aL Im),(182,aL Hv),(160,aL Qh),(146,aL Ia),(144,aL T7),(198,aL Vy),(250,aL Ir),(199,aL JAt),(165,aL Vv),(282,aL Ph),(245,aL Vn),(284,aL T3),(285,aL g7),(247,aL Qb),(281,aL Ry)]
noncomputable def ls:List (FuncId×AFn):=[(243,aL K0),(242,aL K9),(286,aL Nj),(248,aL Gp),(283,aL JBj),(246,aL Tc),(240,aL Su),(279,aL Ql),(280,aL Tu),(241,aL Of),(244,aL G4),(278,aL Tb),(239,aL Us),(195,aL JDm),(196,aL Tq),(197,aL V5),(164,aL JEU),(200,aL I9),(166,aL G6),(152,aL JDj),(141,aL X2),(177,aL Hi),(42,aL Nf),(77,aL Ld)]
noncomputable def ma:List (FuncId×AFn):=[(44,aL Sz),(219,aL Ms),(218,aL If),(178,aL O7),(157,aL Nr),(48,aL Tm),(87,aL Yd),(85,aL Yg),(86,aL X5),(50,aL Qj),(220,aL Ki),(294,aL Li),(290,aL Kf),(263,aL Nx),(297,aL Sf),(298,aL Yt),(299,aL Xu),(296,aL Sd),(293,aL Qv),(288,aL Qs),(261,aL Pe),(289,aL L7),(262,aL F6),(221,aL Vg)]
noncomputable def ku:List (FuncId×AFn):=[(222,aL O5),(179,aL Lr),(158,aL Hd),(145,aL Yl),(140,aL Yr),(124,aL Yh),(99,aL JAP),(66,aL X4),(32,aL X6),(11,aL JDB),(31,aL U5),(64,aL Q7),(62,aL To),(27,aL Pw),(23,aL Lu),(12,aL JEq),(28,aL Xh),(18,aL G0),(29,aL T9),(56,aL Rg),(58,aL R7),(91,aL J7v),(55,aL J6M),(110,aL J7b)]
noncomputable def XS:List (FuncId×AFn):=[(149,aL J8v),(128,aL J9T),(111,aL mp),(92,aL Yw),(57,aL J6k),(22,aL JBo),(54,aL J98),(20,aL JBn),(25,aL Nl),(7,aL Wv)]
noncomputable def fns:List (FuncId×AFn):=ld++(k0++(me++(k8++(k9++(l7++(lj++(ls++(ma++(ku++(XS))))))))))
noncomputable def fks:List (FuncId×oF):=[]
noncomputable def fps:List (FuncId×Prm):=[(72,JDf),(60,cpP t_api_Entry),(61,Jkc 13 30 (Jfj t_api_Entry J6X) (cel t_api_Entry) J6f)]
abbrev PS:=FuncId->Option (List AV->List Blk->Option Res)
noncomputable def rP(p:PS):cW:=λf=>An (AH f fns) (AH f fks) (AH f fps) (p f)
def AE(l:List TE):Prop:= ∀p,rI (AF (rP p)) l
theorem ae0:AE []:=λ_=>trivial
theorem wD{i g S l f}(hf: ∀p,rP p i=some (.fn (aL f)))(A:AE l)(q: ∀x,onO (gG g x) (λy=>lH (TG.of l) f y.1 y.2 (gX g))=S x)(hs:CM g=true:=by rfl):AE (aG i g S::l):=λp=>⟨lg (hf p) (A p) hs q,A p⟩
end Go.Am
end
