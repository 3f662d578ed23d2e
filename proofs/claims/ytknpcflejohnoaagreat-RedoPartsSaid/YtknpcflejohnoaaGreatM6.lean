/-
  Parts of a proof.
-/
import Derived.Test.YtknpcflejohnoaaGreatM3
import Derived.Test.YtknpcflejohnoaaGreatM5
set_option linter.unusedSimpArgs false
set_option linter.unusedVariables false
section
namespace Go.Am
set_option linter.unusedVariables false
set_option maxRecDepth 20000
set_option maxHeartbeats 1000000
theorem JJN{e:J2}(h:Jm e=some true):0<=e.2.2.2.2.1/\e.2.2.2.2.1<e.1:=by
 have g:Par (Jm e) λy=>y=true->0<=e.2.2.2.2.1/\e.2.2.2.2.1<e.1:=by unfold Jm;refine .bind λa _=>.ite (λ_=>.ite (λ_=>.ge (λ_=>.le (λ_=>.bind λb1 _=>.ite (λ_=>.bind λb2 j=>.ite (λk=>.bind λb3 _=>.some λ_=>ux (x:=(e.2.2.2.2.1,e.1)) (k▸j)) λ_=>.some nofun) λ_=>.some nofun) λ_=>.some nofun) λ_=>.some nofun) λ_=>.some nofun) λ_=>.some nofun
 exact g _ h rfl
theorem PP{l:aE}(h:JC l=some true):(1<=l.1/\l.1<=1099511627776)/\J0 l.2.1<=4096/\ ∀(i:Nat) e,l.2.1[i]?=some e->e.1=l.1+i/\Jm e=some true:=by
 have w:Par (JC l) λy=>y=true->(1<=l.1/\l.1<=1099511627776)/\J0 l.2.1<=4096/\ ∀(i:Nat) e,l.2.1[i]?=some e->e.1=l.1+i/\Jm e=some true:=by
  unfold JC;refine .ltf (λc1=>.gtf (λC=>.gtf (λE=>.ltf (λM=>.bind λN _=>.gt (λ_=>.some nofun) λ_=>?_) λ_=>.some nofun) λ_=>.some nofun) λ_=>.some nofun) λ_=>.some nofun;have hL:J0 l.2.1=l.2.1.length:=rfl;refine .while (λz=>z.2=l/\0<=z.1/\z.1<=J0 l.2.1/\ ∀(i:Nat) e,(i:Int)<z.1->l.2.1[i]?=some e->e.1=l.1+i/\Jm e=some true) ⟨rfl,aU _,by show(0:Int)<=_;omega,λi e hi=>by omega⟩ ?_;rintro⟨i,l'⟩ ⟨rfl,h0,h1,h2⟩;have I:J0 l'.2.1=l'.2.1.length:=rfl;have G: ¬l'.1<1:=c1;have H: ¬(1099511627776:Int)<l'.1:=C;have J: ¬(4096:Int)<J0 l'.2.1:=E;unfold CO;refine .lt (λo=>.bind λx q=>.nef (λA=>.bind λK k=>.bind λL D=>.not (λ_=>.some nofun) λB=>.some ?_) λ_=>.some nofun) λo=>.some λ_=>⟨⟨by omega,by omega⟩,by omega,λj e n=>h2 j e (by have:j<l'.2.1.length:=(dJ.1 n).1;simp only at o h1⊢;omega) n⟩;simp only at h0 h1 h2 o A q k;have P:=Jk l'.1 i;have O:=Jk i 1;rw[q]at k;injection k with k;subst k;refine⟨rfl,by show 0<=J1 .i64 i 1;omega,by show J1 .i64 i 1<=J0 l'.2.1;omega,λj e F n=>?_⟩;by_cases r:(j:Int)<i;exact h2 j e r n;have v:(j:Int)=i:=(by have:(j:Int)<J1 .i64 i 1:=F;omega);have g:l'.2.1[j]?=some x:=by have:idx l'.2.1 i=some x:=q;unfold idx at this;rw[if_pos h0]at this;rw[<-this,<-v];rfl
  rw[n]at g;injection g with g;subst g B;exact⟨by show e.1=l'.1+j;omega,D⟩
 exact w _ h rfl
theorem l6{l:aE}(h:JC l=some true):OV l.1 l.2.1:=λi e g=>by obtain⟨_,_,h3⟩:=PP h;obtain⟨k,j⟩:=h3 i e g;have:=(JJN j).2;omega
end Go.Am
end
section
namespace Go.Am
set_option linter.unusedVariables false
set_option maxRecDepth 20000
set_option maxHeartbeats 1000000
theorem FV(e:J2):JB e=some (decide (e.2.1=1\/e.2.1=2)):=by
 unfold JB;by_cases h1:e.2.1=1;rw[if_neg (by rw[oI.2 h1];decide)];simp[h1];rw[if_pos (by simp[aK,h1])];simp[aK,h1]
theorem tp{l:aE}(hv:JC l=some true)(page above:Int)(h0:0<=above):
  ∀(k:Nat) (g:Int) (out:List J2),(g-above).toNat<k->g<9223372036854775808->out.length+(bL l.1 l.2.1 above k g).length<=1000000->
   Jd sS (page,above,out.reverse,g,l)=some (lP page above (bL l.1 l.2.1 above k g) g out)
 |0,g,out,hk,_,_=>by omega
 |k+1,g,out,hk,ha,hlen=>by
  obtain⟨y,x,_⟩:=PP hv;by_cases j:g>above;rcases JJF hv y x (n:=g) (by omega) ha with⟨v,e,h1,h2⟩|⟨v,e,h1,h2⟩;have q:bL l.1 l.2.1 above (k+1) g=[(g,pg0,14)]:=by rw[bL,if_pos j,if_pos v]
  rw[q];refine FW ?_;unfold sS;dsimp only;rw[if_pos (jZ.2 j),h1];simp only[JI];rw[if_pos (by rw[h2];decide)];rfl;have q:bL l.1 l.2.1 above (k+1) g=(g,e,0)::bL l.1 l.2.1 above k e.2.2.2.2.1:=by rw[bL,if_pos j,if_neg v,h1]
  rw[q]at hlen⊢;rw[vR]at hlen;have B:=l6 hv _ e h1;have A: ¬g<l.1:=λh=>v (.inl h);rw[lP,if_neg (by intro h;exact h rfl)];by_cases r:e.2.1=1\/e.2.1=2;by_cases w:e.2.2.2.2.2.2.1.1=page;rw[if_neg (λh=>h.elim (λh=>h r) (λh=>h w))];have ih:=tp hv page above h0 k e.2.2.2.2.1 (out++[e]) (by omega) (by omega) (by rw[dS,List.length_singleton];omega);rw[List.reverse_append]at ih;rw[<-ih];refine gr ?_;unfold sS;dsimp only;rw[if_pos (jZ.2 j),h2];simp only[JI,FV];rw[if_neg (by decide),if_pos (by simp[Jn,r]),if_neg (λh=>by simp[aO,w]at h)];have z:sK (e,out.reverse)=some ([e].reverse++out.reverse):=by unfold sK JL;rw[if_pos (dg (by simp;omega) (by decide))];rfl
  rw[z];rfl;rw[if_pos (.inr w)];refine FW ?_;unfold sS;dsimp only;rw[if_pos (jZ.2 j),h2];simp only[JI,FV];rw[if_neg (by decide),if_pos (by simp[Jn,r]),if_pos (by simp[aO,w])];rw[if_pos (.inl r)];refine FW ?_;unfold sS;dsimp only;rw[if_pos (jZ.2 j),h2];simp only[JI,FV];rw[if_neg (by decide),if_neg (by simp[Jn,r])];have q:bL l.1 l.2.1 above (k+1) g=[]:=by rw[bL,if_neg j]
  rw[q,lP];refine FW ?_;unfold sS;dsimp only;rw[if_neg (λh=>j (jZ.1 h))];by_cases o:g<above;rw[if_pos (gG.2 o),if_pos o];rfl;rw[if_neg (λh=>o (gG.1 h)),if_neg o];rfl
theorem El(x:OA)(hr:x.2.2.1<9223372036854775808):xP x=qI x:=by
 obtain⟨l,page,last,above⟩:=x;show KI (xZ l) (l,page,last,above)=_;unfold qI KI;rw[E2]
 (try dsimp only at hr⊢)
 cases hv:JC l with
 |none=>rfl
 |some b=>
  cases b with
  |false=>rfl
  |true=>
   simp only[JI];rw[if_neg (show¬(true=false) by decide),if_neg (show¬Jn true=true by decide)];obtain⟨k,n,_⟩:=PP hv;have hL:J0 l.2.1=l.2.1.length:=rfl;by_cases c1:page<0;rw[if_pos (.inl c1),if_neg (by rw[gG.2 c1];decide)];rw[if_pos (show aM page 0=false by simp[aM];omega)];by_cases g:page>=64;rw[if_pos (.inr (.inl g)),if_neg (by rw[rS.2 g];decide)];rw[if_pos (show aR page 64=false by simp[aR];omega)];by_cases j:last<0;rw[if_pos (.inr (.inr (.inl j))),if_neg (by rw[gG.2 j];decide)];rw[if_pos (show aM last 0=false by simp[aM];omega)];by_cases e:above<0;rw[if_pos (.inr (.inr (.inr e))),if_pos (gG.2 e)];rw[if_neg (λh=>h.elim c1 λh=>h.elim g λh=>h.elim j e),if_neg (λh=>e (gG.1 h)),if_pos ⟨k.1,by omega,hr,by omega,l6 hv⟩];have:=tp hv page above (by omega) ((last-above).toNat+1) last [] (by omega) hr (by have:=uu l.1 l.2.1 above (l6 hv) ((last-above).toNat+1) last (by omega);simp only[List.length_nil];omega);exact this.symm
end Go.Am
end
section
namespace Go.Am
set_option linter.unusedVariables false
set_option maxRecDepth 20000
set_option maxHeartbeats 1000000
def PF(p:Je):Prop:= ∃y,uV p=some y
theorem PF.check{p:Je}(h:PF p): ∃y,uV p=some y/\fW p=some y.2:=by obtain⟨y,e⟩:=h;exact⟨y,e,JHX p y e⟩
theorem dl(x:IM)(h:PF x.1):GN x=gP x:=by obtain⟨y,h1,h2⟩:=h.check;unfold GN gP;rw[C9,h1,h2,JIz];rfl
theorem JGw(x:lL)(h:PF x.2.1)(hr:x.2.2<9223372036854775808):NG x=oR x:=by obtain⟨y,h1,h2⟩:=h.check;unfold NG oR;rw[E2,h1,h2,El _ hr];rfl
theorem de{σ τ ρ e:Type}{f:σ->Option (σ⊕ρ)}{g:τ->Option (τ⊕e)}(R:σ->τ->Prop)(K:e->ρ)
  (h: ∀s t,R s t->(f s=none/\g t=none)\/(∃r,f s=some (.inr (K r))/\g t=some (.inr r))\/ ∃s' t',f s=some (.inl s')/\g t=some (.inl t')/\R s' t'):
  ∀(n:Nat) s t,R s t->cN f n s=(cN g n t).map K
 |0,s,t,_=>rfl
 |n+1,s,t,hR=>by
  rcases h s t hR with⟨h1,h2⟩|⟨r,h1,h2⟩|⟨s',t',h1,h2,h3⟩;simp only[cN,h1,h2];rfl;simp only[cN,h1,h2];rfl;simp only[cN,h1,h2];exact de R K h n s' t' h3
theorem JEn{σ τ ρ j:Type}{f:σ->Option (σ⊕ρ)}{g:τ->Option (τ⊕j)}(R:σ->τ->Prop)(K:j->ρ)
  (h: ∀s t,R s t->(f s=none/\g t=none)\/(∃r,f s=some (.inr (K r))/\g t=some (.inr r))\/ ∃s' t',f s=some (.inl s')/\g t=some (.inl t')/\R s' t') {s:σ} {t:τ} (hR:R s t):
  Jd f s=(Jd g t).map K:=by
 apply Option.ext;intro r;rw[gN];constructor;rintro⟨n,e⟩;rw[de R K h n s t hR]at e;obtain⟨r',h1,h2⟩:=gL.1 e;rw[gN.2 ⟨n,h1⟩];exact congrArg _ h2;intro k;obtain⟨r',h1,h2⟩:=gL.1 k;obtain⟨n,e⟩:=gN.1 h1;exact⟨n,by rw[de R K h n s t hR,e];exact congrArg some h2⟩
abbrev noP:Je:=(0,0,Vector.replicate 16 (false,[]))
theorem JD3(L:List J2)(l:aE)(p:Je)(I:Je->Prop)(j: ∀q,I q->PF q)(hp:I p)(hs: ∀q e r,I q->e∈L->gP (q,e)=some r->I r.1):
  NW (L,p)=(Jd sP (L,0,l,p,0,0,Vector.replicate 16 (false,[]))).map λy=>(y.1,y.2.2):=by
 unfold NW;refine JEn (λs t=> ∃i q,s=(L,J0 L,i,q,noP,noP)/\t=(L,i,l,q,noP)/\I q) _ ?_ ⟨0,p,rfl,rfl,hp⟩;rintro s t ⟨i,q,rfl,rfl,h⟩;unfold E5 sP;dsimp only;by_cases h1:aM i (J0 L)=true;rw[if_pos h1,if_pos h1];cases h2:idx L i with
 |none=>exact .inl ⟨rfl,rfl⟩
 |some e=>
  have k:e∈L:=(by unfold idx at h2;split at h2;exact zQ5 h2;cases h2);simp only[JI];rw[dl (q,e) (j q h)];cases h3:gP (q,e)with
  |none=>exact .inl ⟨rfl,rfl⟩
  |some r=>
   simp only[JI];by_cases g:aO r.2 0=true;rw[if_pos g,if_pos g];exact .inr (.inl ⟨_,rfl,rfl⟩);rw[if_neg g,if_neg g];exact .inr (.inr ⟨_,_,rfl,rfl,_,_,rfl,rfl,hs q e r h k h3⟩)
 rw[if_neg h1,if_neg h1];exact .inr (.inl ⟨_,rfl,rfl⟩)
end Go.Am
end
section
namespace Go.Am
set_option linter.unusedVariables false
set_option maxRecDepth 20000
set_option maxHeartbeats 1000000
theorem JEr(L:List J2)(l:aE)(p:Je):Par (Jd sP (L,0,l,p,0,0,Vector.replicate 16 (false,[]))) λy=>(¬y.2.2=0->y.2.1=0)/\(y.2.2=0->y.2.1=J0 L):=by refine .while (λz=>z.1=L) rfl ?_;rintro⟨L',i,l',q,z⟩ rfl;unfold sP;exact .lt (λ_=>.bind λe _=>.bind λg _=>.ne (λh=>.some ⟨λ_=>rfl,λk=>absurd k h⟩) λ_=>.some rfl) λ_=>.some ⟨λk=>absurd rfl k,λ_=>rfl⟩
theorem JEp(x:lL)(I:Je->Prop)(k: ∀q,I q->PF q)(hp:I x.2.1)(hr:x.2.2<9223372036854775808)
  (hs: ∀y,oR x=some y-> ∀q e r,I q->e∈y.1->gP (q,e)=some r->I r.1):uQ x=lE x/\GL x=CI x:=by
 obtain⟨l,p,n⟩:=x;have o:=JGw (l,p,n) (k _ hp) hr;unfold uQ GL lE CI mV
 (try dsimp only at o⊢)
 rw[o];cases h1:oR (l,p,n)with
 |none=>exact⟨rfl,rfl⟩
 |some y=>
  simp only[JI];by_cases h2:y.2=0;have h:aO y.2 0=false:=by simp[aO,h2]
  have j:aK y.2 0=true:=oI.2 h2;rw[h,j,JD3 y.1 l p I k hp (hs y h1)];simp only[eH,if_false,if_true];cases h3:Jd sP (y.1,0,l,p,0,0,Vector.replicate 16 (false,[]))with
  |none=>exact⟨rfl,rfl⟩
  |some r=>
   obtain⟨v,w⟩:=JEr y.1 l p r h3;refine⟨rfl,?_⟩;simp only[dK,JI];by_cases g:r.2.2=0;rw[if_neg (by simp[aO,g])];exact congrArg some (Prod.ext (w g).symm g.symm);rw[if_pos (by simp[aO,g])];exact congrArg some (Prod.ext (v g).symm rfl)
  have h:aO y.2 0=true:=by simp[aO,h2]
  have j:aK y.2 0=false:=by simp[aK,h2]
  rw[h,j];simp only[if_true,eH,if_false,h];exact⟨rfl,rfl⟩
end Go.Am
end
section
namespace Go.Am
set_option linter.unusedVariables false
set_option maxRecDepth 20000
set_option maxHeartbeats 1000000
theorem eo(p:Je)(h: ∀(i:Nat) (hi:i<16),hC p.2.2[i]=some true)(hl: ¬p.2.1=0\/ ∀(i:Nat) (hi:i<16),(p.2.2[i]).1=false):gO p=some true:=by
 have j:Tot (gO p) λy=>y=true:=by
  unfold gO;refine Ju (τ:=Int) (λi=>(i,p)) (λi=>0<=i/\i<=16) (λi=>16-i) ?_ 0 rfl ⟨aU _,by decide⟩;rintro i ⟨h0,h1⟩;unfold GW;refine .lt (λhi=>?_) λ_=>.some rfl;have k:i<16:=hi;have g:i.toNat<16:=by omega
  have e:=Jk i 1;have o:vat p.2.2 (Int.toNat i)=some p.2.2[i.toNat]:=Vector.getElem?_eq_getElem g;have n:bA 16 i=some ():=by unfold bA;rw[if_pos ⟨h0,k⟩]
  dsimp only;rw[n,o];simp only[JI];rw[h _ g];simp only[JI];rw[if_pos (show Jn true=false from rfl)];refine .eq (λq=>?_) λ_=>⟨_,rfl,J1 .i64 i 1,rfl,⟨by omega,by omega⟩,by omega,by omega⟩;rcases hl with hl|hl;exact absurd q hl;rw[hl _ g];exact⟨_,rfl,J1 .i64 i 1,rfl,⟨by omega,by omega⟩,by omega,by omega⟩
 obtain⟨y,e,d⟩:=j;rw[e,d]
theorem mq{B S:Int}{p:Je}(h:Ty.fit B S Jf p)(j:0<=B)(g:0<=S):PF p:=by obtain⟨y,e,_⟩:=Qa h;exact⟨y,e⟩
theorem JHN:VS ()=some true:=by
 have e:Ty.fit 0 8192 Jf noP:=⟨eY .i64 0,eY .i64 0,cJ (by decide) (by decide) (.ar 16 Jy)⟩;have c0:fW noP=some 0:=by unfold fW;rw[show iS noP=some true from rfl];simp only[JI];rw[if_neg (by decide),eo noP (λi hi=>by simp[noP];rfl) (.inr λi hi=>by simp[noP])];rfl
 have g:gP (noP,4,1,1,0,0,0,(0,2,(false,[]),true,[120]),[])=some ((0,4,(Vector.replicate 16 ((false,[]):JY)).set 2 (true,[120])),0):=by unfold gP;rw[show Jm (4,1,1,0,0,0,(0,2,(false,[]),true,[120]),[])=some true from rfl];simp only[JI];rw[if_pos (by decide),FV];simp only[JI];rw[if_neg (by decide),c0];rfl
 obtain⟨y,h1,h2⟩:=iv (B:=0) (S:=8192) (X:=(noP,4,1,1,0,0,0,(0,2,(false,[]),true,[120]),[])) ⟨e,eY .i64 4,eY .i64 1,eY .i64 1,eY .i64 0,eY .i64 0,eY .i64 0,⟨eY .i64 0,eY .i64 2,⟨trivial,(show J0 ([]:List UInt8)<=8192 by decide)⟩,trivial,(show J0 ([120]:List UInt8)<=8192 by decide)⟩,(show J0 ([]:List UInt8)<=8192 by decide)⟩;rw[g]at h1;injection h1 with h1;subst h1;have j:PF (0,4,(Vector.replicate 16 ((false,[]):JY)).set 2 (true,[120])):=mq (B:=0) (S:=8192) h2.1 (by decide) (by decide);have c1:fW (0,4,(Vector.replicate 16 ((false,[]):JY)).set 2 (true,[120]))=some 0:=by
  unfold fW;rw[show iS (0,4,(Vector.replicate 16 ((false,[]):JY)).set 2 (true,[120]))=some true from rfl];simp only[JI];rw[if_neg (by decide),eo _ (λi hi=>by
   by_cases h:i=2;subst h;rfl;simp only[Vector.getElem_set,Ne.symm h,if_false,Vector.getElem_replicate];rfl) (.inl (by decide))]
  rfl
 have k:gP ((0,4,(Vector.replicate 16 ((false,[]):JY)).set 2 (true,[120])),4,1,1,0,0,0,(0,2,(false,[]),true,[120]),[])=some (noP,13):=by unfold gP;rw[show Jm (4,1,1,0,0,0,(0,2,(false,[]),true,[120]),[])=some true from rfl];simp only[JI];rw[if_pos (by decide),FV];simp only[JI];rw[if_neg (by decide),c1];rfl
 unfold VS;rw[dl _ (mq (B:=0) (S:=8192) e (by decide) (by decide)),g];simp only[JI];rw[dl _ j,k];rfl
end Go.Am
end
section
namespace Go.Am
set_option linter.unusedVariables false
set_option maxRecDepth 20000
set_option maxHeartbeats 1000000
section
variable {E h:List J2} {id:Int}
def lsO:Option J2->Int|some e=>e.1|none=>0
def lsA(h:List J2):Nat->Int|0=>0|k+1=>lsO h[k]?
theorem zM{k:Nat}{e:J2}(he:h[k]?=some e):lsA h (k+1)=e.1:=by show lsO h[k]?=_;rw[he];rfl
theorem Ev{g:List J2}{k:Nat}(hk:k<=h.length):lsA (h++g) k=lsA h k:=by
 cases k with
 |zero=>rfl
 |succ k=>show lsO (h++g)[k]?=lsO h[k]?;rw[qX (by omega)]
def CE(E h:List J2)(id:Int)(k:Nat)(e:J2):Prop:=(1<=e.1/\e.1<=J0 E)/\E[(e.1-1).toNat]?=some e/\(e.2.1=1\/e.2.1=2)/\aV e=id/\e.2.2.2.2.1=lsA h k/\(0<=lsA h k/\lsA h k<e.1)/\Jm e=some true/\vat (cC (E.take (lsA h k).toNat) id) (slE e).toNat=some (bfE e)/\cC (E.take e.1.toNat) id=fX (cC (E.take (lsA h k).toNat) id) (slE e).toNat (afE e)
def Chn(E h:List J2)(id:Int):Prop:= ∀(k:Nat) e,h[k]?=some e->CE E h id k e
theorem JKE(o:cT E)(id:Int): ∃h,Chn E h id/\bW E id=lsA h h.length:=by
 have y: ∀n:Nat,n<=E.length-> ∃h,Chn E h id/\bW (E.take n) id=lsA h h.length:=by
  intro n
  induction n with
  |zero=>exact λ_=>⟨[],λk e j=>by simp at j,rfl⟩
  |succ n ih=>
   intro K;obtain⟨h,c1,w⟩:=ih (by omega);have H:n<E.length:=by omega
   have D:=zQ9 H;obtain⟨e,j⟩: ∃e,E[n]?=some e:=⟨_,D⟩;have v:E.take (n+1)=E.take n++[e]:=by rw[List.take_add_one,j];rfl
   obtain⟨I,J,F,_⟩:=o n e j;have z:J0 (E.take n)=n:=by unfold J0;rw[eD];omega
   rw[z]at I;by_cases C:(e.2.1=1\/e.2.1=2)/\aV e=id;obtain⟨q,rfl⟩:=C;obtain⟨B,G⟩:=F q;have b:=AK (o.take n) (aV e);rw[z]at b;refine⟨h++[e],λk x g=>?_,?_⟩;by_cases r:k<h.length;rw[qX r]at g;have:=c1 k x g;unfold CE at this⊢;rw[Ev (by omega)];exact this;rw[mI (by omega)]at g;have h0:k=h.length:=by have:=(dJ.1 g).1;simp at this;omega
   subst h0;simp at g;subst g;have A:=MI (o.take n) (aV e);rw[List.take_take,Nat.min_eq_left (by omega)]at A;have cp:=s5 o j q;unfold CE;rw[Ev (zQ0 _),<-w];refine⟨⟨by omega,by unfold J0;omega⟩,by rw[show(e.1-1).toNat=n by omega];exact j,q,rfl,B,⟨b.1,by omega⟩,J,by rw[A];exact G,by rw[cp,B]⟩;rw[v,uL,if_pos ⟨q,rfl⟩,dS];exact(zM (k:=h.length) (by simp)).symm;exact⟨h,c1,by rw[v,uR C];exact w⟩
 have:=y E.length (zQ0 _);rwa[List.take_length]at this
theorem Chn.lt(hc:Chn E h id){i j:Nat}(k:i<j)(hj:j<=h.length):lsA h i<lsA h j:=by
 induction j with
 |zero=>omega
 |succ j ih=>
  have g:=zQ9 (l:=h) (i:=j) (by omega);have c:=hc j _ g;rw[zM g];have q:=c.2.2.2.2.2.1.2;by_cases e:i=j;subst e;exact q;have:=ih (by omega) (by omega);omega
theorem Chn.nn(hc:Chn E h id){i:Nat}(hi:i<=h.length):0<=lsA h i/\lsA h i<=J0 E:=by
 cases i with
 |zero=>exact⟨aU _,Jc⟩
 |succ i=>have e:=zQ9 (l:=h) (i:=i) (by omega);have c:=(hc i _ e).1;rw[zM e];exact⟨by omega,c.2⟩
theorem Chn.le(hc:Chn E h id){i j:Nat}(e:lsA h i<lsA h j)(hi:i<=h.length):i<j:=by
 by_cases h1:i<j;exact h1;by_cases h2:j=i;subst h2;omega;have:=hc.lt (i:=j) (j:=i) (by omega) hi;omega
theorem Chn.bnd(hc:Chn E h id):(h.length:Int)<=J0 E:=by
 have e: ∀k:Nat,k<=h.length->(k:Int)<=lsA h k:=by
  intro k
  induction k with
  |zero=>exact λ_=>aU _
  |succ k ih=>intro g;have:=hc.lt (i:=k) (j:=k+1) (by omega) g;have:=ih (by omega);omega
 have:=e h.length (zQ0 _);have:=(hc.nn (zQ0 _)).2;omega
structure qZ(l:aE)(E:List J2):Prop where
 fst:1<=l.1
 le:l.1-1<=J0 E
 ent:l.2.1=E.drop (l.1-1).toNat
 val:Par (JC l) λy=>y=true
 len:J0 E<=4096
theorem qZ.all{l:aE}(hi:gU 0 l)(hc:cT l.2.1):qZ l l.2.1:=by have v:=ZF hi hc;obtain⟨i1,i2,i3,i4⟩:=hi;refine⟨by omega,by rw[i1];exact Jc,by rw[i1];rfl,v,i4⟩
theorem JHu{l:aE}{n:Int}(hl:qZ l E):Par (eC (l,n)) λy=>(l.1<=n->n<=J0 E-> ∃e,E[(n-1).toNat]?=some e/\y=(e,0))/\(n<l.1->y.2≠0):=by
 have x:=hl.fst;have A:=hl.le;have B:=hl.len;have C:l.1+J0 l.2.1-1=J0 E:=by rw[hl.ent];unfold J0 at*;rw[qU];omega
 have z:=Jc (l:=l.2.1);unfold eC;refine .bind λv w=>.not (λc=>by rw[hl.val v w]at c;cases c) λ_=>.ltf (λc=>.bind λm r=>.gt (λh=>.some ?_) λh=>.bind λk q=>.some ⟨λa b=>⟨k,?_,rfl⟩,λa=>?_⟩) λc=>.some ⟨λa _=>?_,λ_=>by decide⟩;have:=EU r (by dsimp only;omega) (by dsimp only;omega) (by dsimp only;omega);dsimp only at this h c;exact⟨λa b=>by omega,λa=>by omega⟩;obtain⟨j,g⟩:=cB q;dsimp only at j g;have o:=bE n l.1;rw[hl.ent,IG]at g;rw[<-g]
 congr 1
 omega;dsimp only at c;omega;dsimp only at c;omega
theorem p8{e:J2}(h:e.2.1=1\/e.2.1=2):Par (JB e) λy=>y=true:=λy g=>by
 cases y with
 |true=>rfl
 |false=>exact absurd h ((oE g).2 rfl)
theorem JIu{e:J2}{o y:List J2}(h:sK (e,o)=some y):y=e::o:=by
 have g:Par (sK (e,o)) λy=>y=e::o:=by unfold sK;exact .bind λy h=>.some (fU h)
 exact g _ h
theorem qw{l:aE}(hl:qZ l E)(hc:Chn E h id){i j:Nat}(B:i<=j)(hj:j<=h.length)(hf:l.1-1<=lsA h i)(h0:0<=id)(h1:id<64):Par (qI (l,id,lsA h j,lsA h i)) λy=>y=((h.take j).drop i,0):=by
 have W:=hc.nn hj;have R:=hc.nn (i:=i) (by omega);unfold qI;refine .bind λv O=>.not (λc=>by rw[hl.val v O]at c;cases c) λ_=>.ltf (λ_=>.gef (λ_=>.ltf (λ_=>.lt (λc=>by dsimp only at c;omega) λ_=>?_) λc=>by dsimp only at c;omega) λc=>by dsimp only at c;omega) λc=>by dsimp only at c;omega
 refine .while (λz=>z.1=id/\z.2.1=lsA h i/\z.2.2.2.2=l/\ ∃k,i<=k/\k<=j/\z.2.2.2.1=lsA h k/\z.2.2.1=(h.take j).drop k) ⟨rfl,rfl,rfl,j,B,zQ0 _,rfl,?_⟩ ?_;rw[List.drop_of_length_le (by rw[eD];omega)];rintro⟨p,a,o,n,l'⟩ ⟨I,H,F,k,Q,V,G,A⟩;dsimp only at I H F G A;subst I H F G A;unfold sS;dsimp only;refine .gt (λc=>.bind λU M=>?_) λc=>.map ?_;have P:=hc.le c (by omega);obtain⟨k,rfl⟩: ∃q,k=q+1:=⟨k-1,by omega⟩;have J:=zQ9 (l:=h) (i:=k) (by omega);obtain⟨e,r⟩: ∃e,h[k]?=some e:=⟨_,J⟩;have w:=hc k e r;have g:=(JHu hl _ M).1 (by omega) (by rw[zM r];exact w.1.2);rw[zM r]at g;obtain⟨e',x,L⟩:=g;rw[w.2.1]at x;injection x with x;subst x;subst L;refine .ne (λc=>absurd rfl c) λ_=>.bind λS N=>.nof (λ_=>.ne (λc=>absurd w.2.2.2.1 c) λ_=>.bind λT K=>.some ⟨rfl,rfl,rfl,k,by omega,by omega,w.2.2.2.2.1,?_⟩) λD=>by rw[p8 w.2.2.1 _ N]at D;cases D
 dsimp only;rw[JIu K];have C:k<(h.take j).length:=by rw[eD];omega
 rw[List.drop_eq_getElem_cons C,List.getElem_take];rw[zQ9 (by omega)]at r;injection r with r;rw[r];have:k=i:=(by by_cases q:k=i;exact q;have:=hc.lt (i:=i) (j:=k) (by omega) (by omega);omega);subst this;exact .lt (λc=>by omega) λ_=>.some rfl
end
end Go.Am
end
section
namespace Go.Am
set_option linter.unusedVariables false
set_option maxRecDepth 20000
set_option maxHeartbeats 1000000
section
variable {E h:List J2} {id:Int}
theorem l4{c:JY}(h:eS c):hC c=some true:=by
 obtain⟨h1,h2⟩:=h;unfold hC;rw[if_pos (iP.2 h1)];split;rename_i c1;rw[h2 c1];rfl;rfl
theorem o9(r:cT E)(p:Int): ∀n:Nat,n<=E.length-> ∀(i:Nat) (hi:i<16),eS (cC (E.take n) p)[i]:=by
 intro n
 induction n with
 |zero=>intro _ i hi;simp[cC];exact⟨show(0:Int)<=12 by decide,λ_=>rfl⟩
 |succ n ih=>
  intro y i hi;have k:=zQ9 (l:=E) (i:=n) (by omega);obtain⟨e,j⟩: ∃e,E[n]?=some e:=⟨_,k⟩;have x:E.take (n+1)=E.take n++[e]:=by rw[List.take_add_one,j];rfl
  have w:=EV.of (r n e j).2.1;have o:eS (afE e):=w.2.2.2.2.2.2.2.2.2.1;have q:=ih (by omega) i hi;have h:eS (cC (E.take n++[e]) p)[i]:=by
   by_cases c:(e.2.1=1\/e.2.1=2)/\aV e=p;have g:(cC (E.take n++[e]) p)[i]=(fX (cC (E.take n) p) (slE e).toNat (afE e))[i]:=by
    congr 1
    rw[FQ,if_pos c]
   rw[g];unfold fX;rw[Vector.getElem_setIfInBounds];split;exact o;exact q;have g:(cC (E.take n++[e]) p)[i]=(cC (E.take n) p)[i]:=by
    congr 1
    rw[RT c]
   rw[g];exact q
  have v:(cC (E.take (n+1)) p)[i]=(cC (E.take n++[e]) p)[i]:=by congr 2
  rw[v];exact h
def Qp(E h:List J2)(id:Int)(k:Nat):Je:=(id,lsA h k,cC (E.take (lsA h k).toNat) id)
theorem Dv(j:cT E)(hl:J0 E<=4096)(hc:Chn E h id)(h0:0<=id)(h1:id<64){k:Nat}(hk:k<=h.length):Par (fW (Qp E h id k)) λy=>y=0:=by
 have g:=hc.nn hk;have cs:gO (Qp E h id k)=some true:=by
  refine eo _ (λi hi=>l4 (o9 j id _ (by unfold J0 at g;omega) i hi)) ?_;by_cases z:lsA h k=0;right;intro i hi;have e:(Qp E h id k).2.2=Vector.replicate 16 (false,[]):=by show cC (E.take (lsA h k).toNat) id=_;rw[z];rfl
  simp[e];exact .inl z
 have n:iS (Qp E h id k)=some true:=by unfold iS Qp;dsimp only;rw[if_pos (rS.2 h0),if_pos (gG.2 h1),if_pos (rS.2 g.1)];exact congrArg some (iP.2 (by show lsA h k<=1099511627776;omega))
 unfold fW;rw[n];simp only[JI];rw[if_neg (by decide),cs];simp only[JI];rw[if_neg (by decide)];exact .some rfl
end
end Go.Am
end
section
namespace Go.Am
set_option linter.unusedVariables false
set_option maxRecDepth 20000
set_option maxHeartbeats 1000000
section
variable {E h:List J2} {id:Int}
theorem JL3{e:J2}(hv:Jm e=some true):kE e.2.2.2.2.2.2.1=some true:=by obtain⟨_,_,_,_,_,_,⟨k,n⟩,⟨o,j⟩,q,h,_⟩:=EV.of hv;unfold kE;rw[if_pos (rS.2 (show 0<=e.2.2.2.2.2.2.1.1 from k)),if_pos (gG.2 (show e.2.2.2.2.2.2.1.1<64 from n)),if_pos (rS.2 o),if_pos (gG.2 j),l4 q];show(if true=true then(hC e.2.2.2.2.2.2.1.2.2.2).bind λg=>some g else some false)=some true;rw[if_pos rfl,l4 h];rfl
theorem JL6{p:Je}{c:aL}(hv:kE c=some true)(hp:c.1=p.1)(hb:vat p.2.2 c.2.1.toNat=some c.2.2.1):Par (lB (p,c)) λy=>y=((p.1,p.2.1,fX p.2.2 c.2.1.toNat c.2.2.2),0):=by
 unfold lB;refine .bind λv e=>.not (λc=>?_) λ_=>.ne (λc=>absurd hp c) λ_=>.bind λ_ _=>.bind λj g=>.not (λh=>?_) λ_=>.bind λ_ _=>.bind λ_ _=>.some rfl;rw[hv]at e;injection e with e;subst e;cases c;dsimp only at g;rw[hb]at g;injection g with g;have:eqT Jy j c.2.2.1=true:=eB.2 g.symm;rw[this]at h;cases h
theorem JKX(q:cT E)(hl:J0 E<=4096)(hc:Chn E h id)(h0:0<=id)(h1:id<64){k:Nat}{e:J2}(he:h[k]?=some e):Par (gP (Qp E h id k,e)) λy=>y=(Qp E h id (k+1),0):=by
 have G:=(dJ.1 he).1;obtain⟨b1,b2,b3,j,n,B,g,r,o⟩:=hc k e he;unfold gP;refine .bind λv A=>.nof (λ_=>.bind λC h3=>.not (λc=>?_) λ_=>.bind λF w=>.ne (λc=>absurd (Dv q hl hc h0 h1 (by omega) _ w) c) λ_=>.ne (λc=>absurd j c) λ_=>.ne (λc=>absurd n c) λ_=>.bind λD x=>?_) λc=>?_;rw[p8 b3 _ h3]at c;cases c;have z:=JL6 (JL3 g) (j.trans rfl) r _ x;subst z;refine .ne (λc=>absurd rfl c) λ_=>.some ?_;show((id,e.1,fX (cC (E.take (lsA h k).toNat) id) (slE e).toNat (afE e)),(0:Int))=(Qp E h id (k+1),0);unfold Qp;rw[zM he,o];rw[show Jm e=some v from A]at g;injection g with g;subst g;cases c
theorem JHZ{l:aE}(g:cT E)(hl:qZ l E)(hc:Chn E h id)(h0:0<=id)(h1:id<64){i j:Nat}(e:i<=j)(hj:j<=h.length)(hf:l.1-1<=lsA h i):Par (oR (l,Qp E h id i,lsA h j)) λy=>y=((h.take j).drop i,0):=by
 have w:=hc.nn hj;unfold oR;refine .bind λv n=>.not (λc=>by rw[hl.val v n]at c;cases c) λ_=>.bind λo h3=>.ne (λc=>absurd (Dv g hl.len hc h0 h1 (by omega) _ h3) c) λ_=>.lt (λc=>by dsimp only at c;omega) λ_=>.ge (λc=>.some ?_) λ_=>.bind λr k=>.some ?_;have:i=j:=(by by_cases q:i=j;exact q;have:=hc.lt (i:=i) (j:=j) (by omega) hj;have c:lsA h j<=lsA h i:=c;omega);subst this;rw[List.drop_of_length_le (by rw[eD];omega)];rw[qw hl hc e hj hf h0 h1 _ k]
theorem D0{l:aE}(g:cT E)(hl:qZ l E)(hc:Chn E h id)(h0:0<=id)(h1:id<64){i j:Nat}(e:i<=j)(hj:j<=h.length)(hf:l.1-1<=lsA h i):Par (mV (l,Qp E h id i,lsA h j)) λy=>y=(Qp E h id j,(j:Int)-i,0):=by
 unfold mV;refine .bind λM h2=>?_;have D:=JHZ g hl hc h0 h1 e hj hf _ h2;subst D;have w:J0 ((h.take j).drop i)=(j:Int)-i:=by unfold J0;rw[qU,eD];omega
 refine .ne (λc=>absurd rfl c) λ_=>.while (λz=>z.1=(h.take j).drop i/\ ∃k,i<=k/\k<=j/\z.2.1=(k:Int)-i/\z.2.2.2.1=Qp E h id k) ⟨rfl,i,zQ0 _,e,(by show(0:Int)=(i:Int)-i;omega),rfl⟩ ?_;rintro⟨L,n,l',p,u⟩ ⟨x,k,F,I,r,v⟩;dsimp only at x r v;subst x r v;unfold sP;dsimp only;refine .lt (λc=>.bind λH B=>.bind λG C=>?_) λc=>.some ?_;rw[w]at c;obtain⟨_,q⟩:=cB B;rw[IG,show i+((k:Int)-i).toNat=k by omega,UM,if_pos (by omega)]at q;have A:=JKX g hl.len hc h0 h1 q _ C;subst A;have o:=Jk ((k:Int)-i) 1;have J:=(dJ.1 q).1;have len:=hl.len;exact .ne (λc=>absurd rfl c) λ_=>.some ⟨rfl,k+1,by omega,by omega,(by
  show J1 .i64 ((k:Int)-i) 1=((k+1:Nat):Int)-i;have K:h.length<=4096:=by have:=hc.bnd;omega
  omega),rfl⟩
 rw[w]at c⊢;have:k=j:=by omega
 subst this;rfl
theorem JIS{l:aE}(g:cT E)(hl:qZ l E)(hc:Chn E h id)(h0:0<=id)(h1:id<64){i j:Nat}(e:i<=j)(hj:j<=h.length)(hf:l.1-1<=lsA h i):Par (lE (l,Qp E h id i,lsA h j)) λy=>y=(Qp E h id j,0):=by unfold lE;refine .bind λk h2=>.some ?_;rw[D0 g hl hc h0 h1 e hj hf _ h2]
theorem JHB{l:aE}(g:cT E)(hl:qZ l E)(hc:Chn E h id)(h0:0<=id)(h1:id<64){i j:Nat}(e:i<=j)(hj:j<=h.length)(hf:l.1-1<=lsA h i):Par (CI (l,Qp E h id i,lsA h j)) λy=>y=((j:Int)-i,0):=by unfold CI;refine .bind λk h2=>.some ?_;rw[D0 g hl hc h0 h1 e hj hf _ h2]
theorem JHr{l:aE}{y:List Int}{p v:Int}(I:CF l=some y)(hl:Par (JC l) λy=>y=true)(hv:idx y p=some v):v=bW l.2.1 p:=by
 have A:Par (CF l) λy=> ∀p v,idx y p=some v->v=bW l.2.1 p:=by
  unfold CF;refine .bind λb C=>.not (λc=>by rw[hl b C]at c;cases c) λ_=>.bind λG h3=>?_;have z: ∀(p v:Int),idx G p=some v->v=0:=λp v hv=>by
   unfold mkS at h3;split at h3;injection h3 with h3;rw[<-h3]at hv;obtain⟨_,hv⟩:=cB hv;rw[List.getElem?_replicate]at hv;split at hv;injection hv with hv;exact hv.symm;cases hv;cases h3
  refine .while (λw:Int×aE×List Int=>w.2.1=l/\0<=w.1/\w.1<=J0 l.2.1/\ ∀(p v:Int),idx w.2.2 p=some v->v=bW (l.2.1.take w.1.toNat) p) ⟨rfl,aU _,Jc,λp v hv=>by rw[z p v hv];rfl⟩ ?_;rintro⟨i,l',o⟩ ⟨E,H,i1,ih⟩;dsimp only at E H i1 ih;subst E;unfold jv;dsimp only;have M:=Jk i 1;have st: ∀{e:J2},i<J0 l'.2.1->idx l'.2.1 i=some e->J1 .i64 i 1<=9223372036854775807->(J1 .i64 i 1=i+1->l'.2.1.take (J1 .i64 i 1).toNat=l'.2.1.take i.toNat++[e]):=fun{e} a b _ d=>by rw[d,show(i+1).toNat=i.toNat+1 by omega,List.take_add_one,(cB b).2];rfl
  have O:J0 l'.2.1<=4096:=by obtain⟨q,D⟩: ∃q,JC l'=some q:=⟨b,C⟩;have:=hl q D;exact(RR D this).2.2
  refine .lt (λc=>.bind λk x=>.bind λN B=>.ite (λr=>.bind λK j=>.bind λL n=>.bind λ_ h=>.bind λ_ _=>.some ⟨rfl,by dsimp only;omega,by dsimp only;omega,λp v hv=>?_⟩) λr=>.some ⟨rfl,by dsimp only;omega,by dsimp only;omega,λp v hv=>?_⟩) λc=>.some ?_;dsimp only at hv⊢;rw[x]at j n;injection j with j;injection n with n;subst j n;rw[st c x (by omega) (by omega),uL];have J:=(oE B).1 r;obtain⟨F,g⟩:=cB hv;have h:=PW h;have g:(o.set (aV k).toNat k.1)[p.toNat]?=some v:=g;have h:0<=aV k/\aV k<o.length:=h;rw[List.getElem?_set]at g;split at g;rename_i e;rw[if_pos (by omega)]at g;injection g with g;rw[if_pos ⟨J,by omega⟩,g];rename_i e;rw[if_neg (λq=>e (by rw[q.2]))];exact ih p v (by unfold idx;rw[if_pos F];exact g);dsimp only at hv⊢;rw[st c x (by omega) (by omega),uR (λq=>(oE B).2 r q.1)];exact ih p v hv;intro p v hv;have:=ih p v hv;rw[List.take_of_length_le (by unfold J0 at c;omega)]at this;exact this
 exact A _ I p v hv
end
end Go.Am
end
section
namespace Go.Am
set_option linter.unusedVariables false
set_option maxRecDepth 20000
set_option maxHeartbeats 1000000
theorem JJs{B S:Int}{e:J2}(h:Ty.fit B S J7 e)(hv:Jm e=some true)(j:0<=B)(g:0<=S):0<=e.2.2.2.2.2.2.1.1/\e.2.2.2.2.2.2.1.1<64:=by have:=(sM h hv rfl).1;omega
theorem JEu{l:aE}(hf:Ty.fit 16384 1073741824 JE l)(hv:JC l=some true):Tot (CF l) λy=>J0 y=64/\Ty.fit 64 0 (.l (.i .i64)) y:=by obtain⟨_,E,h⟩:=PP hv;unfold CF;refine .bind (mS hv) λK w=>.not (λc=>by rw[w]at c;cases c) λ_=>.bind (DZ (t:=.i .i64) (B:=64) (S:=0) (eY .i64 0)) λx h3=>Ju (τ:=Int×List Int) (λq=>(q.1,l,q.2)) (λq=>0<=q.1/\q.1<=J0 l.2.1/\J0 q.2=64/\Ty.fit 64 0 (.l (.i .i64)) q.2) (λq=>J0 l.2.1-q.1) ?_ (0,x) rfl ⟨aU _,Jc,h3.2,h3.1⟩;rintro⟨i,j⟩ ⟨h0,h1,h2,g⟩;dsimp only at h0 h1 h2 g;unfold jv;dsimp only;have o:=Jk i 1;refine .lt (λc=>?_) λ_=>.some ⟨h2,g⟩;obtain⟨e,k,v⟩:=Dm (l:=l.2.1) h0 c;have D:=h _ e v;have n:Ty.fit 16384 1073741824 J7 e:=hf.2.1.2 e (zQ5 v);have r:=JJs n D.2 (by decide) (by decide);refine .bind (mS k) λI A=>?_;subst A;refine .bind (mS (FV _)) λJ G=>.ite (λ_=>?_) λ_=>.some ⟨(J1 .i64 i 1,j),rfl,⟨om,om,h2,g⟩,om,om⟩;refine .bind (mS k) λF z=>.bind (mS k) λH C=>?_;subst z;subst C;refine .bind (iL r.1 (by omega)) λ_ _=>.bind (rI g r.1 (by show _<J0 j;omega)) λ_ _=>.some ⟨(J1 .i64 i 1,aZ j _ _),rfl,⟨om,om,qA.trans h2,oM g n.1⟩,om,om⟩
def kh(p:Je):Prop:=Ty.fit 16384 9223372036854775807 Jf p
def kb(l:aE):Prop:=Ty.fit 16384 1073741824 JE l
theorem JF8{m:aE}{y:Je}{n:Int}(hm:kb m)(hy:kh y)(hn:Ty.fit 0 0 (.i .i64) n):
  (∃r,uQ (m,y,n)=some r/\lE (m,y,n)=some r)/\ ∃r,GL (m,y,n)=some r/\CI (m,y,n)=some r:=by
 have g:Ty.fit 16384 9223372036854775807 HM (m,y,n):=⟨hm.up (by decide) (by decide),hy,hn⟩;have C:=J3.1 hn;obtain⟨b1,b2⟩:=JEp (m,y,n) kh (λq h=>mq h (by decide) (by decide)) hy (om) (λx w q e r h z A=>by have k:=(x5 (B:=16384) (S:=9223372036854775807) g).get w;have v:=(iv (B:=16384) (S:=9223372036854775807) (X:=(q,e)) ⟨h,(k.1.2 e z).up (by decide) (by decide)⟩).get A;exact v.1.up (by decide) (by decide));obtain⟨r,e,_⟩:=wg (B:=16384) (S:=9223372036854775807) g;obtain⟨o,j,_⟩:=Q5 (B:=16384) (S:=9223372036854775807) g;exact⟨⟨r,b1.trans e,e⟩,o,b2.trans j,j⟩
theorem JGe{l:List Int}{n:Int}(h0:0<=n){y:JP}(e:AO (l,n)=some y):y.2=0/\J0 y.1<=n:=by
 have g:Par (AO (l,n)) λy=>y.2=0/\J0 y.1<=n:=by unfold AO;exact .gt (λc=>.bind λr h=>.some ⟨rfl,by have:=(IB (l:=l) (k:=n) h0 (by dsimp only at c;omega)).get h;dsimp only;omega⟩) λc=>.some ⟨rfl,by dsimp only at*;omega⟩
 exact g _ e
end Go.Am
end
section
namespace Go.Am
set_option linter.unusedVariables false
set_option maxRecDepth 20000
set_option maxHeartbeats 1000000
theorem JKW{E h:List J2}{id:Int}(e:cT E)(hl:J0 E<=4096)(hc:Chn E h id)(h0:0<=id)(h1:id<64){k:Nat}(hk:k<=h.length):kh (Qp E h id k):=by have g:=hc.nn hk;refine⟨J3.2 ⟨by show -9223372036854775808<=id;omega,by show id<=9223372036854775807;omega⟩,J3.2 ⟨by show -9223372036854775808<=lsA h k;omega,by show lsA h k<=9223372036854775807;omega⟩,λi hi=>⟨trivial,?_⟩⟩;have c:=(o9 e id (lsA h k).toNat (by unfold J0 at g;omega) i hi).1;show J0 ((cC (E.take (lsA h k).toNat) id)[i]).2<=9223372036854775807;omega
theorem QO{l:aE}{E h:List J2}{id:Int}(o:kb l)(g:cT E)(hl:qZ l E)(hc:Chn E h id)(h0:0<=id)(h1:id<64){i j:Nat}(e:i<=j)(hj:j<=h.length)(hf:l.1-1<=lsA h i):
  uQ (l,Qp E h id i,lsA h j)=some (Qp E h id j,0)/\GL (l,Qp E h id i,lsA h j)=some ((j:Int)-i,0):=by
 have y:=hc.nn hj;have len:=hl.len;obtain⟨⟨r,x,w⟩,r',q,v⟩:=JF8 o (JKW g hl.len hc h0 h1 (k:=i) (by omega)) (n:=lsA h j) (J3.2 ⟨by omega,by omega⟩);have a:=JIS g hl hc h0 h1 e hj hf _ w;have b:=JHB g hl hc h0 h1 e hj hf _ v;rw[x,q,a,b];exact⟨rfl,rfl⟩
theorem JJw{x:List Int}(w:Ty.inR (.l (.i .u8)) x):Ty.fit (J0 x) 0 (.l (.i .u8)) x:=⟨aU _,λa e=>by have:=w.2 a e;rw[XT];simpa[Ty.inR,IntKind.min,IntKind.max,IntKind.signed,IntKind.bits]using this⟩
theorem Cr{x:Int}(w:Ty.inR (.i .u8) x):0<=x/\x<=255:=by simpa[Ty.inR,IntKind.min,IntKind.max,IntKind.signed,IntKind.bits]using w
theorem De{x n:Int}(h0:0<=x)(hn:0<n): ∃a:Nat,nR x n=some (a:Int)/\(a:Int)<n:=by
 refine⟨(x.tmod n).toNat,?_,?_⟩;unfold nR;rw[if_neg (by omega)];have:=Int.tmod_nonneg n h0;exact congrArg some (by omega);have:=Int.tmod_nonneg n h0;have:=Int.tmod_lt_of_pos x hn;omega
theorem Ci{h:List J2}{a:Nat}(ha:a<h.length): ∃e,idx h (a:Int)=some e/\e.1=lsA h (a+1):=by have g:=zQ9 ha;refine⟨h[a],?_,(zM g).symm⟩;unfold idx;rw[if_pos (by omega)];exact g
theorem Xz{C:List Int}{X D:Int}(w0:Ty.inR (.l (.i .u8)) C)(w1:Ty.inR (.i .u8) X)(w2:Ty.inR (.i .u8) D):XB (C,X,D)=some true:=by
 have T:Tot (XB (C,X,D)) λy=>y=true:=by
  have u1:=Cr w1;have u2:=Cr w2;have f0:=JJw w0;have ao:0<=J0 C:=Jc;unfold XB;dsimp only;refine .bind (mS JHN) λy2 d2=>.not (λc=>by rw[d2]at c;cases c) λ_=>.bind ((JAB (B:=J0 C) (S:=0) (X:=(C,500)) ⟨f0,eY .i64 500⟩ (by show(0:Int)<=500;decide)).eqn) λH h3=>?_;obtain⟨n1,n2⟩:=JGe (by decide) h3.2;have W:Ty.fit 16384 1073741824 Ja H:=⟨⟨by show J0 H.1<=16384;omega,λa ha=>h3.1.1.1.2 a ha⟩,h3.1.1.2⟩;refine .bind ((Yj (B:=16384) (S:=1073741824) (X:=(40,true,H)) ⟨eY .i64 40,trivial,W⟩ om (by show(0:Int)<=40;decide) (by show(40:Int)<=1000;decide)).eqn) λo F=>?_;have g:=JGq W (by omega) F.2;have z:kb o.1.2.2.1:=F.1.1.1.2.2.1;have E:=g.2.1;have w:=qZ.all g.1 g.2.1;obtain⟨v,hv,_⟩:=oP (B:=16384) (S:=1073741824) z;have lv:JC o.1.2.2.1=some true:=by rw[hv,w.val _ hv]
  refine .bind (Js (B:=16384) (S:=1073741824) (X:=(4,o.2)) ⟨eY .i64 4,F.1.1.2⟩ F.1.2) λA I=>?_;have O:=I.2.2.1 (by show(1:Int)<=4;decide);have k:=I.2.1;dsimp only at O k;obtain⟨id,rfl⟩: ∃id,id=A.1:=⟨_,rfl⟩;refine .bind ((JEu z lv).eqn) λy6 V=>?_;obtain⟨y7,K,_⟩:=Dm (l:=y6) k (by rw[V.1.1];omega);have hd:=JHr V.2 w.val K;obtain⟨h,q,hl⟩:=JKE E A.1;rw[hl]at hd;subst hd;refine .bind (mS K) λy7 d7=>?_;subst d7;have nn:=q.nn (zQ0 _);have len:=w.len;have fst:o.1.2.2.1.1=1:=g.1.1;have i64:A.1<64:=by omega
  have fp:Ty.fit 16384 1073741824 (.pr JE Jb) (o.1.2.2.1,A.1,lsA h h.length,0):=⟨z,I.1.1,J3.2 ⟨by show -9223372036854775808<=lsA h h.length;omega,by show lsA h h.length<=9223372036854775807;omega⟩,eY .i64 0⟩;have R:xP (o.1.2.2.1,A.1,lsA h h.length,0)=some (h,0):=by rw[El _ (by dsimp only;omega)];obtain⟨r,G,_⟩:=xd (B:=16384) (S:=1073741824) fp;have:=qw w q (zQ2 _) (zQ0 _) (by rw[fst];exact aU _) k i64 _ G;rw[this,List.take_length]at G;exact G
  refine .bind (mS R) λy8 d8=>?_;subst d8;dsimp only;refine .ne (λc=>absurd rfl c) λ_=>.eq (λ_=>.some rfl) λcn=>?_;have hn:0<J0 h:=by have:=Jc (l:=h);omega
  have hb:=q.bnd;have ap:J0 h=(h.length:Int):=rfl;have c1:=IS X;have c2:=IS D;obtain⟨a,ea,la⟩:=De (x:=bK .i64 X) (n:=J0 h) (by omega) hn;have os:=bE (J0 h) a;obtain⟨b,eb,lb⟩:=De (x:=bK .i64 D) (n:=JO .i64 (J0 h) a) (by omega) (by omega);have oa:=Jk (a:Int) b;have P:J1 .i64 (a:Int) b=((a+b:Nat):Int):=by omega
  have an:=bE ((a+b:Nat):Int) a;obtain⟨aq,J,Q⟩:=Ci (h:=h) (a:=a) (by omega);obtain⟨am,N,L⟩:=Ci (h:=h) (a:=a+b) (by omega);have q0:((A.1,0,Vector.replicate 16 (false,[])):Je)=Qp o.1.2.2.1.2.1 h A.1 0:=rfl;have Z:o.1.2.2.1.1-1<=lsA h 0:=by rw[fst];exact aU _
  have z1:o.1.2.2.1.1-1<=lsA h (a+1):=by rw[fst];exact(q.nn (by omega)).1
  have z2:o.1.2.2.1.1-1<=lsA h (a+b+1):=by rw[fst];exact(q.nn (by omega)).1
  have r1:=QO z E w q k i64 (i:=0) (j:=a+1) (zQ2 _) (by omega) Z;have U:=QO z E w q k i64 (i:=a+1) (j:=a+b+1) (by omega) (by omega) z1;have r3:=QO z E w q k i64 (i:=0) (j:=a+b+1) (zQ2 _) (by omega) Z;have r4:=QO z E w q k i64 (i:=a+b+1) (j:=a+b+1) (zQ0 _) (by omega) z2;refine .bind (mS ea) λy9 d9=>?_;subst d9;refine .bind (mS eb) λal Y=>?_;subst Y;rw[P,J,N,q0];simp only[JI];rw[Q,L,r1.1];simp only[JI];rw[U.1,U.2,r3.1];simp only[JI];rw[r4.1];simp only[JI];have M: ∀p:Je,eqT Jf p p=true:=λp=>eB.2 rfl;refine .eq (λ_=>.eq (λ_=>.eq (λ_=>.eq (λ_=>.eq (λ_=>.ite (λ_=>.ite (λ_=>.eq (λ_=>.some ?_) λc=>absurd rfl c) λc=>?_) λc=>?_) λc=>absurd rfl c) λc=>absurd rfl c) λc=>absurd rfl c) λc=>absurd rfl c) λc=>absurd rfl c;exact oI.2 (by omega);rw[M]at c;cases c;rw[M]at c;cases c
 obtain⟨y,e,d⟩:=T;rw[e,d]
end Go.Am
end
section
namespace Go.Am
set_option maxRecDepth 20000
def CY{α:Type}(f:FuncId):List (FuncId×α)->Option α|[]=>none|(g,a)::r=>if f=g then some a else CY f r
noncomputable def mn:List (FuncId×AFn):=[(54,aN Tz),(88,aN X7),(87,aN Ux),(62,aN Tf),(75,aN Ln),(74,aN Wx),(76,aN Xf),(77,aN Wy),(55,aN Pr),(41,aN Pn),(52,aN N6),(27,aN Vx),(9,aN nq),(39,aN Xy),(38,aN Xa),(104,aN Yi),(73,aN Xk),(51,aN Y9),(94,aN Ua),(71,aN Id),(93,aN H6),(91,aN Gq),(92,aN F5),(70,aN F2)]
noncomputable def mh:List (FuncId×AFn):=[(49,aN Fh),(64,aN Uv),(89,aN Xp),(67,aN Ni),(63,aN Nb),(44,aN Py),(36,aN Ks),(32,aN Qi),(13,aN Po),(14,aN My),(103,aN Uw),(198,aN R1),(155,aN P3),(156,aN M2),(126,aN Qj),(144,aN N7),(209,aN W7),(227,aN N8),(228,aN Lo),(229,aN Kz),(185,aN Nw),(66,aN Ro),(65,aN Vi),(163,aN Pe)]
noncomputable def nc:List (FuncId×AFn):=[(132,aN Oe),(230,aN Gr),(186,aN Ra),(187,aN X8),(143,aN Pi),(120,aN Nx),(112,aN Ny),(95,aN Ru),(33,aN Vc),(177,aN Tu),(110,aN Fe),(218,aN H8),(179,aN Iw),(176,aN L1),(215,aN Uf),(216,aN Fs),(217,aN T9),(178,aN Mj),(133,aN Lw),(115,aN L5),(130,aN Hz),(147,aN Io),(139,aN Hc),(164,aN G3)]
noncomputable def mi:List (FuncId×AFn):=[(175,aN S4),(214,aN V5),(174,aN S6),(173,aN Rz),(138,aN Ut),(172,aN Rx),(137,aN JCq),(117,aN M9),(99,aN X6),(131,aN Qv),(114,aN Pl),(166,aN G7),(45,aN Rn),(165,aN Ol),(134,aN Ts),(168,aN K5),(212,aN Vt),(169,aN Pf),(248,aN Qz),(211,aN Qe),(167,aN Un),(170,aN Mg),(135,aN Ng),(213,aN Gj)]
noncomputable def mj:List (FuncId×AFn):=[(171,aN Ov),(136,aN Vy),(116,aN Nl),(98,aN Oq),(193,aN Hq),(235,aN Ii),(236,aN K2),(192,aN U0),(152,aN Vv),(151,aN Wt),(153,aN Ir),(46,aN Nf),(194,aN Wn),(197,aN Hp),(237,aN Sa),(195,aN H4),(238,aN JC6),(196,aN U3),(154,aN Il),(123,aN Md),(150,aN Sy),(122,aN Ip),(189,aN Ff),(146,aN I3)]
noncomputable def m9:List (FuncId×AFn):=[(222,aN Ic),(256,aN Pq),(233,aN S3),(234,aN Gc),(190,aN Wz),(148,aN Np),(191,aN G9),(149,aN S0),(21,aN Px),(111,aN Pm),(90,aN Lj),(69,aN Nd),(48,aN I9),(23,aN Lr),(232,aN M5),(231,aN S9),(188,aN Kt),(145,aN Ka),(121,aN Q9),(102,aN I8),(100,aN Ue),(160,aN Wc),(210,aN Ky),(161,aN F4)]
noncomputable def mg:List (FuncId×AFn):=[(128,aN V8),(243,aN Qx),(205,aN Wu),(245,aN U8),(246,aN js),(207,aN Ri),(242,aN Ti),(203,aN Me),(202,aN M8),(247,aN O4),(208,aN H7),(244,aN Fc),(206,aN Tw),(200,aN T0),(240,aN R4),(241,aN Vu),(201,aN Pz),(204,aN Ih),(239,aN Tv),(199,aN V4),(157,aN JBb),(158,aN Vs),(159,aN Xe),(127,aN JCA)]
noncomputable def my:List (FuncId×AFn):=[(162,aN Ll),(129,aN Ht),(113,aN JB8),(97,aN Yn),(140,aN Iv),(219,aN Qg),(249,aN Mp),(220,aN T5),(181,aN N9),(180,aN Ld),(141,aN Rv),(118,aN Pb),(221,aN Vp),(252,aN Yv),(250,aN Yz),(251,aN Yt),(223,aN R2),(182,aN Lv),(258,aN Ml),(255,aN Ls),(226,aN N1),(260,aN Ul),(261,aN Y6),(262,aN Yg)]
noncomputable def mo:List (FuncId×AFn):=[(259,aN Ui),(257,aN Se),(253,aN Sb),(224,aN Qt),(254,aN On),(225,aN Hj),(183,aN V3),(184,aN Rt),(142,aN M3),(119,aN Kk),(101,aN Zc),(96,aN Y4),(72,aN Y8),(50,aN G2),(26,aN Yp),(8,aN Yu),(7,aN JBd),(43,aN Ub),(30,aN Vq),(86,aN X3),(61,aN Hb),(59,aN Yk),(57,aN K6),(78,aN K9)]
noncomputable def me:List (FuncId×AFn):=[(56,aN Pw),(42,aN O5),(20,aN M1),(6,aN O7),(34,aN Ph),(35,aN J9P),(12,aN Fy),(24,aN Mr),(11,aN O0),(5,aN Xx),(25,aN Qu)]
noncomputable def fns:List (FuncId×AFn):=mn++(mh++(nc++(mi++(mj++(m9++(mg++(my++(mo++(me)))))))))
noncomputable def fks:List (FuncId×oW):=[]
noncomputable def fps:List (FuncId×Prm):=[(58,JB3),(60,JBA)]
abbrev PS:=FuncId->Option (List AV->List Blk->Option Res)
noncomputable def yX(p:PS):eO:=λf=>Bo (CY f fns) (CY f fks) (CY f fps) (p f)
def AE(l:List TE):Prop:= ∀p,zB (AF (yX p)) l
theorem ae0:AE []:=λ_=>trivial
theorem n9{i g S l f}(hf: ∀p,yX p i=some (.fn (aN f)))(A:AE l)(q: ∀x,onO (nN g x) (λy=>vQ (TG.of l) f y.1 y.2 (pH g))=S x)(hs:EX g=true:=by rfl):AE (aG i g S::l):=λp=>⟨mt (hf p) (A p) hs q,A p⟩
end Go.Am
end
