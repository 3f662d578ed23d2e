/-
  Parts of a proof.
-/
import Derived.Test.YtknpcflejohnoaaGreatM3
import Derived.Test.YtknpcflejohnoaaGreatM5
set_option linter.unusedSimpArgs false
set_option linter.unusedVariables false
section
namespace Go.Am
set_option linter.unusedVariables false
set_option maxRecDepth 20000
set_option maxHeartbeats 1000000
theorem JJQ{e:J2}(h:Jm e=some true):0<=e.2.2.2.2.1/\e.2.2.2.2.1<e.1:=by
 have g:Par (Jm e) λy=>y=true->0<=e.2.2.2.2.1/\e.2.2.2.2.1<e.1:=by unfold Jm;refine .bind λa _=>.ite (λ_=>.ite (λ_=>.ge (λ_=>.le (λ_=>.bind λb1 _=>.ite (λ_=>.bind λb2 j=>.ite (λk=>.bind λb3 _=>.some λ_=>ve (x:=(e.2.2.2.2.1,e.1)) (k▸j)) λ_=>.some nofun) λ_=>.some nofun) λ_=>.some nofun) λ_=>.some nofun) λ_=>.some nofun) λ_=>.some nofun
 exact g _ h rfl
theorem LI{l:aD}(h:Jw l=some true):(1<=l.1/\l.1<=1099511627776)/\J0 l.2.1<=4096/\ ∀(i:Nat) e,l.2.1[i]?=some e->e.1=l.1+i/\Jm e=some true:=by
 have w:Par (Jw l) λy=>y=true->(1<=l.1/\l.1<=1099511627776)/\J0 l.2.1<=4096/\ ∀(i:Nat) e,l.2.1[i]?=some e->e.1=l.1+i/\Jm e=some true:=by
  unfold Jw;refine .ltf (λc1=>.gtf (λC=>.gtf (λE=>.ltf (λM=>.bind λN _=>.gt (λ_=>.some nofun) λ_=>?_) λ_=>.some nofun) λ_=>.some nofun) λ_=>.some nofun) λ_=>.some nofun;have hL:J0 l.2.1=l.2.1.length:=rfl;refine .while (λz=>z.2=l/\0<=z.1/\z.1<=J0 l.2.1/\ ∀(i:Nat) e,(i:Int)<z.1->l.2.1[i]?=some e->e.1=l.1+i/\Jm e=some true) ⟨rfl,aU _,by show(0:Int)<=_;omega,λi e hi=>by omega⟩ ?_;rintro⟨i,l'⟩ ⟨rfl,h0,h1,h2⟩;have I:J0 l'.2.1=l'.2.1.length:=rfl;have G: ¬l'.1<1:=c1;have H: ¬(1099511627776:Int)<l'.1:=C;have J: ¬(4096:Int)<J0 l'.2.1:=E;unfold yB;refine .lt (λo=>.bind λx q=>.nef (λA=>.bind λK k=>.bind λL D=>.not (λ_=>.some nofun) λB=>.some ?_) λ_=>.some nofun) λo=>.some λ_=>⟨⟨by omega,by omega⟩,by omega,λj e n=>h2 j e (by have:j<l'.2.1.length:=(dK.1 n).1;simp only at o h1⊢;omega) n⟩;simp only at h0 h1 h2 o A q k;have P:=Ji l'.1 i;have O:=Ji i 1;rw[q]at k;injection k with k;subst k;refine⟨rfl,by show 0<=J1 .i64 i 1;omega,by show J1 .i64 i 1<=J0 l'.2.1;omega,λj e F n=>?_⟩;by_cases r:(j:Int)<i;exact h2 j e r n;have v:(j:Int)=i:=(by have:(j:Int)<J1 .i64 i 1:=F;omega);have g:l'.2.1[j]?=some x:=by have:idx l'.2.1 i=some x:=q;unfold idx at this;rw[if_pos h0]at this;rw[<-this,<-v];rfl
  rw[n]at g;injection g with g;subst g B;exact⟨by show e.1=l'.1+j;omega,D⟩
 exact w _ h rfl
theorem mb{l:aD}(h:Jw l=some true):OV l.1 l.2.1:=λi e g=>by obtain⟨_,_,h3⟩:=LI h;obtain⟨k,j⟩:=h3 i e g;have:=(JJQ j).2;omega
end Go.Am
end
section
namespace Go.Am
set_option linter.unusedVariables false
set_option maxRecDepth 20000
set_option maxHeartbeats 1000000
theorem FX(e:J2):JC e=some (decide (e.2.1=1\/e.2.1=2)):=by
 unfold JC;by_cases h1:e.2.1=1;rw[if_neg (by rw[qE.2 h1];decide)];simp[h1];rw[if_pos (by simp[aK,h1])];simp[aK,h1]
theorem tw{l:aD}(hv:Jw l=some true)(page above:Int)(h0:0<=above):
  ∀(k:Nat) (g:Int) (out:List J2),(g-above).toNat<k->g<9223372036854775808->out.length+(bK l.1 l.2.1 above k g).length<=1000000->
   Jd sW (page,above,out.reverse,g,l)=some (lQ page above (bK l.1 l.2.1 above k g) g out)
 |0,g,out,hk,_,_=>by omega
 |k+1,g,out,hk,ha,hlen=>by
  obtain⟨y,x,_⟩:=LI hv;by_cases j:g>above;rcases JJI hv y x (n:=g) (by omega) ha with⟨v,e,h1,h2⟩|⟨v,e,h1,h2⟩;have q:bK l.1 l.2.1 above (k+1) g=[(g,pg0,14)]:=by rw[bK,if_pos j,if_pos v]
  rw[q];refine FY ?_;unfold sW;dsimp only;rw[if_pos (kE.2 j),h1];simp only[JI];rw[if_pos (by rw[h2];decide)];rfl;have q:bK l.1 l.2.1 above (k+1) g=(g,e,0)::bK l.1 l.2.1 above k e.2.2.2.2.1:=by rw[bK,if_pos j,if_neg v,h1]
  rw[q]at hlen⊢;rw[vQ]at hlen;have B:=mb hv _ e h1;have A: ¬g<l.1:=λh=>v (.inl h);rw[lQ,if_neg (by intro h;exact h rfl)];by_cases r:e.2.1=1\/e.2.1=2;by_cases w:e.2.2.2.2.2.2.1.1=page;rw[if_neg (λh=>h.elim (λh=>h r) (λh=>h w))];have ih:=tw hv page above h0 k e.2.2.2.2.1 (out++[e]) (by omega) (by omega) (by rw[dS,List.length_singleton];omega);rw[List.reverse_append]at ih;rw[<-ih];refine gz ?_;unfold sW;dsimp only;rw[if_pos (kE.2 j),h2];simp only[JI,FX];rw[if_neg (by decide),if_pos (by simp[Jn,r]),if_neg (λh=>by simp[aO,w]at h)];have z:sP (e,out.reverse)=some ([e].reverse++out.reverse):=by unfold sP JM;rw[if_pos (dj (by simp;omega) (by decide))];rfl
  rw[z];rfl;rw[if_pos (.inr w)];refine FY ?_;unfold sW;dsimp only;rw[if_pos (kE.2 j),h2];simp only[JI,FX];rw[if_neg (by decide),if_pos (by simp[Jn,r]),if_pos (by simp[aO,w])];rw[if_pos (.inl r)];refine FY ?_;unfold sW;dsimp only;rw[if_pos (kE.2 j),h2];simp only[JI,FX];rw[if_neg (by decide),if_neg (by simp[Jn,r])];have q:bK l.1 l.2.1 above (k+1) g=[]:=by rw[bK,if_neg j]
  rw[q,lQ];refine FY ?_;unfold sW;dsimp only;rw[if_neg (λh=>j (kE.1 h))];by_cases o:g<above;rw[if_pos (fU.2 o),if_pos o];rfl;rw[if_neg (λh=>o (fU.1 h)),if_neg o];rfl
theorem Eo(x:NY)(hr:x.2.2.1<9223372036854775808):xR x=mF x:=by
 obtain⟨l,page,last,above⟩:=x;show KF (yC l) (l,page,last,above)=_;unfold mF KF;rw[E5]
 (try dsimp only at hr⊢)
 cases hv:Jw l with
 |none=>rfl
 |some b=>
  cases b with
  |false=>rfl
  |true=>
   simp only[JI];rw[if_neg (show¬(true=false) by decide),if_neg (show¬Jn true=true by decide)];obtain⟨k,n,_⟩:=LI hv;have hL:J0 l.2.1=l.2.1.length:=rfl;by_cases c1:page<0;rw[if_pos (.inl c1),if_neg (by rw[fU.2 c1];decide)];rw[if_pos (show aM page 0=false by simp[aM];omega)];by_cases g:page>=64;rw[if_pos (.inr (.inl g)),if_neg (by rw[oO.2 g];decide)];rw[if_pos (show aR page 64=false by simp[aR];omega)];by_cases j:last<0;rw[if_pos (.inr (.inr (.inl j))),if_neg (by rw[fU.2 j];decide)];rw[if_pos (show aM last 0=false by simp[aM];omega)];by_cases e:above<0;rw[if_pos (.inr (.inr (.inr e))),if_pos (fU.2 e)];rw[if_neg (λh=>h.elim c1 λh=>h.elim g λh=>h.elim j e),if_neg (λh=>e (fU.1 h)),if_pos ⟨k.1,by omega,hr,by omega,mb hv⟩];have:=tw hv page above (by omega) ((last-above).toNat+1) last [] (by omega) hr (by have:=vc l.1 l.2.1 above (mb hv) ((last-above).toNat+1) last (by omega);simp only[List.length_nil];omega);exact this.symm
end Go.Am
end
section
namespace Go.Am
set_option linter.unusedVariables false
set_option maxRecDepth 20000
set_option maxHeartbeats 1000000
def PF(p:Je):Prop:= ∃y,uW p=some y
theorem PF.check{p:Je}(h:PF p): ∃y,uW p=some y/\fC p=some y.2:=by obtain⟨y,e⟩:=h;exact⟨y,e,JHZ p y e⟩
theorem eo(x:IM)(h:PF x.1):GO x=gQ x:=by obtain⟨y,h1,h2⟩:=h.check;unfold GO gQ;rw[De,h1,h2,JIB];rfl
theorem JGx(x:nQ)(h:PF x.2.1)(hr:x.2.2<9223372036854775808):VX x=lD x:=by obtain⟨y,h1,h2⟩:=h.check;unfold VX lD;rw[E5,h1,h2,Eo _ hr];rfl
theorem cu{σ τ ρ e:Type}{f:σ->Option (σ⊕ρ)}{g:τ->Option (τ⊕e)}(R:σ->τ->Prop)(K:e->ρ)
  (h: ∀s t,R s t->(f s=none/\g t=none)\/(∃r,f s=some (.inr (K r))/\g t=some (.inr r))\/ ∃s' t',f s=some (.inl s')/\g t=some (.inl t')/\R s' t'):
  ∀(n:Nat) s t,R s t->cN f n s=(cN g n t).map K
 |0,s,t,_=>rfl
 |n+1,s,t,hR=>by
  rcases h s t hR with⟨h1,h2⟩|⟨r,h1,h2⟩|⟨s',t',h1,h2,h3⟩;simp only[cN,h1,h2];rfl;simp only[cN,h1,h2];rfl;simp only[cN,h1,h2];exact cu R K h n s' t' h3
theorem JEo{σ τ ρ j:Type}{f:σ->Option (σ⊕ρ)}{g:τ->Option (τ⊕j)}(R:σ->τ->Prop)(K:j->ρ)
  (h: ∀s t,R s t->(f s=none/\g t=none)\/(∃r,f s=some (.inr (K r))/\g t=some (.inr r))\/ ∃s' t',f s=some (.inl s')/\g t=some (.inl t')/\R s' t') {s:σ} {t:τ} (hR:R s t):
  Jd f s=(Jd g t).map K:=by
 apply Option.ext;intro r;rw[gP];constructor;rintro⟨n,e⟩;rw[cu R K h n s t hR]at e;obtain⟨r',h1,h2⟩:=gM.1 e;rw[gP.2 ⟨n,h1⟩];exact congrArg _ h2;intro k;obtain⟨r',h1,h2⟩:=gM.1 k;obtain⟨n,e⟩:=gP.1 h1;exact⟨n,by rw[cu R K h n s t hR,e];exact congrArg some h2⟩
abbrev noP:Je:=(0,0,Vector.replicate 16 (false,[]))
theorem JD5(L:List J2)(l:aD)(p:Je)(I:Je->Prop)(j: ∀q,I q->PF q)(hp:I p)(hs: ∀q e r,I q->e∈L->gQ (q,e)=some r->I r.1):
  XJ (L,p)=(Jd yD (L,0,l,p,0,0,Vector.replicate 16 (false,[]))).map λy=>(y.1,y.2.2):=by
 unfold XJ;refine JEo (λs t=> ∃i q,s=(L,J0 L,i,q,noP,noP)/\t=(L,i,l,q,noP)/\I q) _ ?_ ⟨0,p,rfl,rfl,hp⟩;rintro s t ⟨i,q,rfl,rfl,h⟩;unfold E9 yD;dsimp only;by_cases h1:aM i (J0 L)=true;rw[if_pos h1,if_pos h1];cases h2:idx L i with
 |none=>exact .inl ⟨rfl,rfl⟩
 |some e=>
  have k:e∈L:=(by unfold idx at h2;split at h2;exact zQ5 h2;cases h2);simp only[JI];rw[eo (q,e) (j q h)];cases h3:gQ (q,e)with
  |none=>exact .inl ⟨rfl,rfl⟩
  |some r=>
   simp only[JI];by_cases g:aO r.2 0=true;rw[if_pos g,if_pos g];exact .inr (.inl ⟨_,rfl,rfl⟩);rw[if_neg g,if_neg g];exact .inr (.inr ⟨_,_,rfl,rfl,_,_,rfl,rfl,hs q e r h k h3⟩)
 rw[if_neg h1,if_neg h1];exact .inr (.inl ⟨_,rfl,rfl⟩)
end Go.Am
end
section
namespace Go.Am
set_option linter.unusedVariables false
set_option maxRecDepth 20000
set_option maxHeartbeats 1000000
end Go.Am
end
section
namespace Go.Am
set_option linter.unusedVariables false
set_option maxRecDepth 20000
set_option maxHeartbeats 1000000
theorem QW(p:Je)(h: ∀(i:Nat) (hi:i<16),hM p.2.2[i]=some true)(hl: ¬p.2.1=0\/ ∀(i:Nat) (hi:i<16),(p.2.2[i]).1=false):gL p=some true:=by
 have j:Tot (gL p) λy=>y=true:=by
  unfold gL;refine Ju (τ:=Int) (λi=>(i,p)) (λi=>0<=i/\i<=16) (λi=>16-i) ?_ 0 rfl ⟨aU _,by decide⟩;rintro i ⟨h0,h1⟩;unfold GW;refine .lt (λhi=>?_) λ_=>.some rfl;have k:i<16:=hi;have g:i.toNat<16:=by omega
  have e:=Ji i 1;have o:vat p.2.2 (Int.toNat i)=some p.2.2[i.toNat]:=Vector.getElem?_eq_getElem g;have n:bA 16 i=some ():=by unfold bA;rw[if_pos ⟨h0,k⟩]
  dsimp only;rw[n,o];simp only[JI];rw[h _ g];simp only[JI];rw[if_pos (show Jn true=false from rfl)];refine .eq (λq=>?_) λ_=>⟨_,rfl,J1 .i64 i 1,rfl,⟨by omega,by omega⟩,by omega,by omega⟩;rcases hl with hl|hl;exact absurd q hl;rw[hl _ g];exact⟨_,rfl,J1 .i64 i 1,rfl,⟨by omega,by omega⟩,by omega,by omega⟩
 obtain⟨y,e,d⟩:=j;rw[e,d]
theorem mz{B S:Int}{p:Je}(h:Ty.fit B S Jf p)(j:0<=B)(g:0<=S):PF p:=by obtain⟨y,e,_⟩:=Qg h;exact⟨y,e⟩
theorem JHP:VV ()=some true:=by
 have e:Ty.fit 0 8192 Jf noP:=⟨fA .i64 0,fA .i64 0,cI (by decide) (by decide) (.ar 16 Jz)⟩;have c0:fC noP=some 0:=by unfold fC;rw[show hI noP=some true from rfl];simp only[JI];rw[if_neg (by decide),QW noP (λi hi=>by simp[noP];rfl) (.inr λi hi=>by simp[noP])];rfl
 have g:gQ (noP,4,1,1,0,0,0,(0,2,(false,[]),true,[120]),[])=some ((0,4,(Vector.replicate 16 ((false,[]):JY)).set 2 (true,[120])),0):=by unfold gQ;rw[show Jm (4,1,1,0,0,0,(0,2,(false,[]),true,[120]),[])=some true from rfl];simp only[JI];rw[if_pos (by decide),FX];simp only[JI];rw[if_neg (by decide),c0];rfl
 obtain⟨y,h1,h2⟩:=i7 (B:=0) (S:=8192) (X:=(noP,4,1,1,0,0,0,(0,2,(false,[]),true,[120]),[])) ⟨e,fA .i64 4,fA .i64 1,fA .i64 1,fA .i64 0,fA .i64 0,fA .i64 0,⟨fA .i64 0,fA .i64 2,⟨trivial,(show J0 ([]:List UInt8)<=8192 by decide)⟩,trivial,(show J0 ([120]:List UInt8)<=8192 by decide)⟩,(show J0 ([]:List UInt8)<=8192 by decide)⟩;rw[g]at h1;injection h1 with h1;subst h1;have j:PF (0,4,(Vector.replicate 16 ((false,[]):JY)).set 2 (true,[120])):=mz (B:=0) (S:=8192) h2.1 (by decide) (by decide);have c1:fC (0,4,(Vector.replicate 16 ((false,[]):JY)).set 2 (true,[120]))=some 0:=by
  unfold fC;rw[show hI (0,4,(Vector.replicate 16 ((false,[]):JY)).set 2 (true,[120]))=some true from rfl];simp only[JI];rw[if_neg (by decide),QW _ (λi hi=>by
   by_cases h:i=2;subst h;rfl;simp only[Vector.getElem_set,Ne.symm h,if_false,Vector.getElem_replicate];rfl) (.inl (by decide))]
  rfl
 have k:gQ ((0,4,(Vector.replicate 16 ((false,[]):JY)).set 2 (true,[120])),4,1,1,0,0,0,(0,2,(false,[]),true,[120]),[])=some (noP,13):=by unfold gQ;rw[show Jm (4,1,1,0,0,0,(0,2,(false,[]),true,[120]),[])=some true from rfl];simp only[JI];rw[if_pos (by decide),FX];simp only[JI];rw[if_neg (by decide),c1];rfl
 unfold VV;rw[eo _ (mz (B:=0) (S:=8192) e (by decide) (by decide)),g];simp only[JI];rw[eo _ j,k];rfl
end Go.Am
end
section
namespace Go.Am
set_option linter.unusedVariables false
set_option maxRecDepth 20000
set_option maxHeartbeats 1000000
section
variable {E h:List J2} {id:Int}
def lsO:Option J2->Int|some e=>e.1|none=>0
def lsA(h:List J2):Nat->Int|0=>0|k+1=>lsO h[k]?
theorem zQ{k:Nat}{e:J2}(he:h[k]?=some e):lsA h (k+1)=e.1:=by show lsO h[k]?=_;rw[he];rfl
theorem Ey{g:List J2}{k:Nat}(hk:k<=h.length):lsA (h++g) k=lsA h k:=by
 cases k with
 |zero=>rfl
 |succ k=>show lsO (h++g)[k]?=lsO h[k]?;rw[rD (by omega)]
def CE(E h:List J2)(id:Int)(k:Nat)(e:J2):Prop:=(1<=e.1/\e.1<=J0 E)/\E[(e.1-1).toNat]?=some e/\(e.2.1=1\/e.2.1=2)/\aV e=id/\e.2.2.2.2.1=lsA h k/\(0<=lsA h k/\lsA h k<e.1)/\Jm e=some true/\vat (cC (E.take (lsA h k).toNat) id) (slE e).toNat=some (bfE e)/\cC (E.take e.1.toNat) id=fY (cC (E.take (lsA h k).toNat) id) (slE e).toNat (afE e)
def Chn(E h:List J2)(id:Int):Prop:= ∀(k:Nat) e,h[k]?=some e->CE E h id k e
theorem JKJ(o:cQ E)(id:Int): ∃h,Chn E h id/\bW E id=lsA h h.length:=by
 have y: ∀n:Nat,n<=E.length-> ∃h,Chn E h id/\bW (E.take n) id=lsA h h.length:=by
  intro n
  induction n with
  |zero=>exact λ_=>⟨[],λk e j=>by simp at j,rfl⟩
  |succ n ih=>
   intro K;obtain⟨h,c1,w⟩:=ih (by omega);have H:n<E.length:=by omega
   have D:=zQ9 H;obtain⟨e,j⟩: ∃e,E[n]?=some e:=⟨_,D⟩;have v:E.take (n+1)=E.take n++[e]:=by rw[List.take_add_one,j];rfl
   obtain⟨I,J,F,_⟩:=o n e j;have z:J0 (E.take n)=n:=by unfold J0;rw[eD];omega
   rw[z]at I;by_cases C:(e.2.1=1\/e.2.1=2)/\aV e=id;obtain⟨q,rfl⟩:=C;obtain⟨B,G⟩:=F q;have b:=AN (o.take n) (aV e);rw[z]at b;refine⟨h++[e],λk x g=>?_,?_⟩;by_cases r:k<h.length;rw[rD r]at g;have:=c1 k x g;unfold CE at this⊢;rw[Ey (by omega)];exact this;rw[mM (by omega)]at g;have h0:k=h.length:=by have:=(dK.1 g).1;simp at this;omega
   subst h0;simp at g;subst g;have A:=MG (o.take n) (aV e);rw[List.take_take,Nat.min_eq_left (by omega)]at A;have cp:=tc o j q;unfold CE;rw[Ey (zQ0 _),<-w];refine⟨⟨by omega,by unfold J0;omega⟩,by rw[show(e.1-1).toNat=n by omega];exact j,q,rfl,B,⟨b.1,by omega⟩,J,by rw[A];exact G,by rw[cp,B]⟩;rw[v,uO,if_pos ⟨q,rfl⟩,dS];exact(zQ (k:=h.length) (by simp)).symm;exact⟨h,c1,by rw[v,uS C];exact w⟩
 have:=y E.length (zQ0 _);rwa[List.take_length]at this
theorem Chn.lt(hc:Chn E h id){i j:Nat}(k:i<j)(hj:j<=h.length):lsA h i<lsA h j:=by
 induction j with
 |zero=>omega
 |succ j ih=>
  have g:=zQ9 (l:=h) (i:=j) (by omega);have c:=hc j _ g;rw[zQ g];have q:=c.2.2.2.2.2.1.2;by_cases e:i=j;subst e;exact q;have:=ih (by omega) (by omega);omega
theorem Chn.nn(hc:Chn E h id){i:Nat}(hi:i<=h.length):0<=lsA h i/\lsA h i<=J0 E:=by
 cases i with
 |zero=>exact⟨aU _,Jc⟩
 |succ i=>have e:=zQ9 (l:=h) (i:=i) (by omega);have c:=(hc i _ e).1;rw[zQ e];exact⟨by omega,c.2⟩
theorem Chn.le(hc:Chn E h id){i j:Nat}(e:lsA h i<lsA h j)(hi:i<=h.length):i<j:=by
 by_cases h1:i<j;exact h1;by_cases h2:j=i;subst h2;omega;have:=hc.lt (i:=j) (j:=i) (by omega) hi;omega
theorem Chn.bnd(hc:Chn E h id):(h.length:Int)<=J0 E:=by
 have e: ∀k:Nat,k<=h.length->(k:Int)<=lsA h k:=by
  intro k
  induction k with
  |zero=>exact λ_=>aU _
  |succ k ih=>intro g;have:=hc.lt (i:=k) (j:=k+1) (by omega) g;have:=ih (by omega);omega
 have:=e h.length (zQ0 _);have:=(hc.nn (zQ0 _)).2;omega
structure kP(l:aD)(E:List J2):Prop where
 fst:1<=l.1
 le:l.1-1<=J0 E
 ent:l.2.1=E.drop (l.1-1).toNat
 val:Par (Jw l) λy=>y=true
 len:J0 E<=4096
theorem kP.all{l:aD}(hi:gE 0 l)(hc:cQ l.2.1):kP l l.2.1:=by have v:=LM hi hc;obtain⟨i1,i2,i3,i4⟩:=hi;refine⟨by omega,by rw[i1];exact Jc,by rw[i1];rfl,v,i4⟩
theorem pa{l:aD}{n:Int}(hl:kP l E):Par (eC (l,n)) λy=>(l.1<=n->n<=J0 E-> ∃e,E[(n-1).toNat]?=some e/\y=(e,0))/\(n<l.1->y.2≠0):=by
 have x:=hl.fst;have A:=hl.le;have B:=hl.len;have C:l.1+J0 l.2.1-1=J0 E:=by rw[hl.ent];unfold J0 at*;rw[rA];omega
 have z:=Jc (l:=l.2.1);unfold eC;refine .bind λv w=>.not (λc=>by rw[hl.val v w]at c;cases c) λ_=>.ltf (λc=>.bind λm r=>.gt (λh=>.some ?_) λh=>.bind λk q=>.some ⟨λa b=>⟨k,?_,rfl⟩,λa=>?_⟩) λc=>.some ⟨λa _=>?_,λ_=>by decide⟩;have:=rR r (by dsimp only;omega) (by dsimp only;omega) (by dsimp only;omega);dsimp only at this h c;exact⟨λa b=>by omega,λa=>by omega⟩;obtain⟨j,g⟩:=cB q;dsimp only at j g;have o:=bC n l.1;rw[hl.ent,EC]at g;rw[<-g]
 congr 1
 omega;dsimp only at c;omega;dsimp only at c;omega
theorem qg{e:J2}(h:e.2.1=1\/e.2.1=2):Par (JC e) λy=>y=true:=λy g=>by
 cases y with
 |true=>rfl
 |false=>exact absurd h ((oJ g).2 rfl)
theorem JIw{e:J2}{o y:List J2}(h:sP (e,o)=some y):y=e::o:=by
 have g:Par (sP (e,o)) λy=>y=e::o:=by unfold sP;exact .bind λy h=>.some (fW h)
 exact g _ h
theorem fg{l:aD}{a:Int}{Q:List J2×Int->Prop}(hl:kP l E)(hc:Chn E h id){i j:Nat}(F:i<=j)(hj:j<=h.length)(ha:0<=a)(h0:0<=id)(h1:id<64)
  (go: ∀k,i<=k->k<=j->a<lsA h k->(lsA h k<l.1->Q ([],14))/\(l.1<=lsA h k->i<k)) (st: ∀k,i<=k->k<=j-> ¬a<lsA h k->(lsA h k<a->Q ([],13))/\(¬lsA h k<a->Q ((h.take j).drop k,0))):Par (mF (l,id,lsA h j,a)) Q:=by
 have W:=hc.nn hj;unfold mF;refine .bind λv R=>.not (λc=>by rw[hl.val v R]at c;cases c) λ_=>.ltf (λ_=>.gef (λ_=>.ltf (λ_=>.lt (λc=>by dsimp only at c;omega) λ_=>?_) λc=>by dsimp only at c;omega) λc=>by dsimp only at c;omega) λc=>by dsimp only at c;omega
 refine .while (λz=>z.1=id/\z.2.1=a/\z.2.2.2.2=l/\ ∃k,i<=k/\k<=j/\z.2.2.2.1=lsA h k/\z.2.2.1=(h.take j).drop k) ⟨rfl,rfl,rfl,j,F,zQ0 _,rfl,?_⟩ ?_;rw[List.drop_of_length_le (by rw[eD];omega)];rintro⟨p,a,o,n,l'⟩ ⟨M,L,I,k,A,B,J,D⟩;dsimp only at M L I J D;subst M L I J D;unfold sW;dsimp only;refine .gt (λc=>.bind λV K=>?_) λc=>.map (.lt (λd=>.some ((st k A B c).1 d)) λd=>.some ((st k A B c).2 d));obtain⟨w,C⟩:=go k A B c;by_cases y:lsA h k<l'.1;exact .ne (λ_=>.some (w y)) λd=>absurd d ((pa hl _ K).2 y);have S:=C (by omega);obtain⟨k,rfl⟩: ∃q,k=q+1:=⟨k-1,by omega⟩;have N:=zQ9 (l:=h) (i:=k) (by omega);obtain⟨e,r⟩: ∃e,h[k]?=some e:=⟨_,N⟩;have x:=hc k e r;have g:=(pa hl _ K).1 (by omega) (by rw[zQ r];exact x.1.2);rw[zQ r]at g;obtain⟨e',w,C⟩:=g;rw[x.2.1]at w;injection w with w;subst w;subst C;refine .ne (λc=>absurd rfl c) λ_=>.bind λT P=>.nof (λ_=>.ne (λc=>absurd x.2.2.2.1 c) λ_=>.bind λU O=>.some ⟨rfl,rfl,rfl,k,by omega,by omega,x.2.2.2.2.1,?_⟩) λH=>by rw[qg x.2.2.1 _ P]at H;cases H
 dsimp only;rw[JIw O];have G:k<(h.take j).length:=by rw[eD];omega
 rw[List.drop_eq_getElem_cons G,List.getElem_take];rw[zQ9 (by omega)]at r;injection r with r;rw[r]
theorem Chn.mono(hc:Chn E h id){i j:Nat}(e:i<=j)(hj:j<=h.length):lsA h i<=lsA h j/\(¬lsA h i<lsA h j->j=i):=by
 by_cases q:i=j;subst q;exact⟨aU _,λ_=>rfl⟩;have:=hc.lt (i:=i) (j:=j) (by omega) hj;exact⟨by omega,λh=>absurd this h⟩
theorem ri{l:aD}(hl:kP l E)(hc:Chn E h id){i j:Nat}(e:i<=j)(hj:j<=h.length)(hf:l.1-1<=lsA h i)(h0:0<=id)(h1:id<64):Par (mF (l,id,lsA h j,lsA h i)) λy=>y=((h.take j).drop i,0):=
 fg hl hc e hj (hc.nn (by omega)).1 h0 h1 (λk a b c=>⟨λd=>by omega,λ_=>hc.le c (by omega)⟩) λk a b c=>by obtain⟨n,g⟩:=hc.mono a (zQ1 b hj);exact⟨λd=>by omega,λ_=>by rw[g c]⟩
end
end Go.Am
end
section
namespace Go.Am
set_option linter.unusedVariables false
set_option maxRecDepth 20000
set_option maxHeartbeats 1000000
section
variable {E h:List J2} {id:Int}
theorem JFi{l:aD}(hl:kP l E)(hc:Chn E h id){i j:Nat}{a:Int}(e:i<j)(hj:j<=h.length)(hf:l.1-1<=lsA h i)(ha:lsA h i<a)(hb:a<lsA h (i+1))(h0:0<=id)(h1:id<64):Par (mF (l,id,lsA h j,a)) λy=>y=([],13):=by
 have g:=hc.nn (i:=i) (by omega);refine fg hl hc (i:=i) (by omega) hj (by omega) h0 h1 (λk p b c=>⟨λd=>by omega,λ_=>hc.le (by omega) (by omega)⟩) λk p b c=>⟨λ_=>rfl,λd=>?_⟩;by_cases q:k=i;subst q;omega;have:=(hc.mono (i:=i+1) (j:=k) (by omega) (by omega)).1;omega
theorem JEh{l:aD}(hl:kP l E)(hc:Chn E h id){i j:Nat}(hi:0<i)(e:i<=j)(hj:j<=h.length)(hf:l.1-1=lsA h i)(h0:0<=id)(h1:id<64):Par (mF (l,id,lsA h j,0)) λy=>y=([],14):=by have g:=hc.lt (i:=0) (j:=i) hi (by omega);have n:lsA h 0=0:=rfl;refine fg hl hc (i:=i) e hj (aU _) h0 h1 (λk p b c=>⟨λ_=>rfl,λd=>hc.le (by omega) (by omega)⟩) λk p b c=>?_;have:=(hc.mono p (by omega)).1;omega
theorem OF{c:JY}(h:eS c):hM c=some true:=by
 obtain⟨h1,h2⟩:=h;unfold hM;rw[if_pos (iC.2 h1)];split;rename_i c1;rw[h2 c1];rfl;rfl
theorem pj(r:cQ E)(p:Int): ∀n:Nat,n<=E.length-> ∀(i:Nat) (hi:i<16),eS (cC (E.take n) p)[i]:=by
 intro n
 induction n with
 |zero=>intro _ i hi;simp[cC];exact⟨show(0:Int)<=12 by decide,λ_=>rfl⟩
 |succ n ih=>
  intro y i hi;have k:=zQ9 (l:=E) (i:=n) (by omega);obtain⟨e,j⟩: ∃e,E[n]?=some e:=⟨_,k⟩;have x:E.take (n+1)=E.take n++[e]:=by rw[List.take_add_one,j];rfl
  have w:=EV.of (r n e j).2.1;have o:eS (afE e):=w.2.2.2.2.2.2.2.2.2.1;have q:=ih (by omega) i hi;have h:eS (cC (E.take n++[e]) p)[i]:=by
   by_cases c:(e.2.1=1\/e.2.1=2)/\aV e=p;have g:(cC (E.take n++[e]) p)[i]=(fY (cC (E.take n) p) (slE e).toNat (afE e))[i]:=by
    congr 1
    rw[FS,if_pos c]
   rw[g];unfold fY;rw[Vector.getElem_setIfInBounds];split;exact o;exact q;have g:(cC (E.take n++[e]) p)[i]=(cC (E.take n) p)[i]:=by
    congr 1
    rw[SA c]
   rw[g];exact q
  have v:(cC (E.take (n+1)) p)[i]=(cC (E.take n++[e]) p)[i]:=by congr 2
  rw[v];exact h
def Qp(E h:List J2)(id:Int)(k:Nat):Je:=(id,lsA h k,cC (E.take (lsA h k).toNat) id)
theorem XS(j:cQ E)(hl:J0 E<=4096)(hc:Chn E h id)(h0:0<=id)(h1:id<64){k:Nat}(hk:k<=h.length):Par (fC (Qp E h id k)) λy=>y=0:=by
 have g:=hc.nn hk;have cs:gL (Qp E h id k)=some true:=by
  refine QW _ (λi hi=>OF (pj j id _ (by unfold J0 at g;omega) i hi)) ?_;by_cases z:lsA h k=0;right;intro i hi;have e:(Qp E h id k).2.2=Vector.replicate 16 (false,[]):=by show cC (E.take (lsA h k).toNat) id=_;rw[z];rfl
  simp[e];exact .inl z
 have n:hI (Qp E h id k)=some true:=by unfold hI Qp;dsimp only;rw[if_pos (oO.2 h0),if_pos (fU.2 h1),if_pos (oO.2 g.1)];exact congrArg some (iC.2 (by show lsA h k<=1099511627776;omega))
 unfold fC;rw[n];simp only[JI];rw[if_neg (by decide),cs];simp only[JI];rw[if_neg (by decide)];exact .some rfl
end
end Go.Am
end
section
namespace Go.Am
set_option linter.unusedVariables false
set_option maxRecDepth 20000
set_option maxHeartbeats 1000000
section
variable {E h:List J2} {id:Int}
theorem JL8{e:J2}(hv:Jm e=some true):kG e.2.2.2.2.2.2.1=some true:=by obtain⟨_,_,_,_,_,_,⟨k,n⟩,⟨o,j⟩,q,h,_⟩:=EV.of hv;unfold kG;rw[if_pos (oO.2 (show 0<=e.2.2.2.2.2.2.1.1 from k)),if_pos (fU.2 (show e.2.2.2.2.2.2.1.1<64 from n)),if_pos (oO.2 o),if_pos (fU.2 j),OF q];show(if true=true then(hM e.2.2.2.2.2.2.1.2.2.2).bind λg=>some g else some false)=some true;rw[if_pos rfl,OF h];rfl
theorem JLb{p:Je}{c:aL}(hv:kG c=some true)(hp:c.1=p.1)(hb:vat p.2.2 c.2.1.toNat=some c.2.2.1):Par (lI (p,c)) λy=>y=((p.1,p.2.1,fY p.2.2 c.2.1.toNat c.2.2.2),0):=by
 unfold lI;refine .bind λv e=>.not (λc=>?_) λ_=>.ne (λc=>absurd hp c) λ_=>.bind λ_ _=>.bind λj g=>.not (λh=>?_) λ_=>.bind λ_ _=>.bind λ_ _=>.some rfl;rw[hv]at e;injection e with e;subst e;cases c;dsimp only at g;rw[hb]at g;injection g with g;have:eqT Jz j c.2.2.1=true:=eB.2 g.symm;rw[this]at h;cases h
theorem JL2(q:cQ E)(hl:J0 E<=4096)(hc:Chn E h id)(h0:0<=id)(h1:id<64){k:Nat}{e:J2}(he:h[k]?=some e):Par (gQ (Qp E h id k,e)) λy=>y=(Qp E h id (k+1),0):=by
 have G:=(dK.1 he).1;obtain⟨b1,b2,b3,j,n,B,g,r,o⟩:=hc k e he;unfold gQ;refine .bind λv A=>.nof (λ_=>.bind λC h3=>.not (λc=>?_) λ_=>.bind λF w=>.ne (λc=>absurd (XS q hl hc h0 h1 (by omega) _ w) c) λ_=>.ne (λc=>absurd j c) λ_=>.ne (λc=>absurd n c) λ_=>.bind λD x=>?_) λc=>?_;rw[qg b3 _ h3]at c;cases c;have z:=JLb (JL8 g) (j.trans rfl) r _ x;subst z;refine .ne (λc=>absurd rfl c) λ_=>.some ?_;show((id,e.1,fY (cC (E.take (lsA h k).toNat) id) (slE e).toNat (afE e)),(0:Int))=(Qp E h id (k+1),0);unfold Qp;rw[zQ he,o];rw[show Jm e=some v from A]at g;injection g with g;subst g;cases c
theorem JI1{l:aD}(g:cQ E)(hl:kP l E)(hc:Chn E h id)(h0:0<=id)(h1:id<64){i j:Nat}(e:i<=j)(hj:j<=h.length)(hf:l.1-1<=lsA h i):Par (lD (l,Qp E h id i,lsA h j)) λy=>y=((h.take j).drop i,0):=by
 have w:=hc.nn hj;unfold lD;refine .bind λv n=>.not (λc=>by rw[hl.val v n]at c;cases c) λ_=>.bind λo h3=>.ne (λc=>absurd (XS g hl.len hc h0 h1 (by omega) _ h3) c) λ_=>.lt (λc=>by dsimp only at c;omega) λ_=>.ge (λc=>.some ?_) λ_=>.bind λr k=>.some ?_;have:i=j:=(by by_cases q:i=j;exact q;have:=hc.lt (i:=i) (j:=j) (by omega) hj;have c:lsA h j<=lsA h i:=c;omega);subst this;rw[List.drop_of_length_le (by rw[eD];omega)];rw[ri hl hc e hj hf h0 h1 _ k]
theorem JJ3{l:aD}(g:cQ E)(hl:kP l E)(hc:Chn E h id)(h0:0<=id)(h1:id<64){i j:Nat}(e:i<=j)(hj:j<=h.length)(hf:l.1-1<=lsA h i):Par (mC (l,Qp E h id i,lsA h j)) λy=>y=(Qp E h id j,(j:Int)-i,0):=by
 unfold mC;refine .bind λM h2=>?_;have D:=JI1 g hl hc h0 h1 e hj hf _ h2;subst D;have w:J0 ((h.take j).drop i)=(j:Int)-i:=by unfold J0;rw[rA,eD];omega
 refine .ne (λc=>absurd rfl c) λ_=>.while (λz=>z.1=(h.take j).drop i/\ ∃k,i<=k/\k<=j/\z.2.1=(k:Int)-i/\z.2.2.2.1=Qp E h id k) ⟨rfl,i,zQ0 _,e,(by show(0:Int)=(i:Int)-i;omega),rfl⟩ ?_;rintro⟨L,n,l',p,u⟩ ⟨x,k,F,I,r,v⟩;dsimp only at x r v;subst x r v;unfold yD;dsimp only;refine .lt (λc=>.bind λH B=>.bind λG C=>?_) λc=>.some ?_;rw[w]at c;obtain⟨_,q⟩:=cB B;rw[EC,show i+((k:Int)-i).toNat=k by omega,UM,if_pos (by omega)]at q;have A:=JL2 g hl.len hc h0 h1 q _ C;subst A;have o:=Ji ((k:Int)-i) 1;have J:=(dK.1 q).1;have len:=hl.len;exact .ne (λc=>absurd rfl c) λ_=>.some ⟨rfl,k+1,by omega,by omega,(by
  show J1 .i64 ((k:Int)-i) 1=((k+1:Nat):Int)-i;have K:h.length<=4096:=by have:=hc.bnd;omega
  omega),rfl⟩
 rw[w]at c⊢;have:k=j:=by omega
 subst this;rfl
theorem JIU{l:aD}(g:cQ E)(hl:kP l E)(hc:Chn E h id)(h0:0<=id)(h1:id<64){i j:Nat}(e:i<=j)(hj:j<=h.length)(hf:l.1-1<=lsA h i):Par (jE (l,Qp E h id i,lsA h j)) λy=>y=(Qp E h id j,0):=by unfold jE;refine .bind λk h2=>.some ?_;rw[JJ3 g hl hc h0 h1 e hj hf _ h2]
theorem JHv{l:aD}{y:List Int}{p v:Int}(I:CJ l=some y)(hl:Par (Jw l) λy=>y=true)(hv:idx y p=some v):v=bW l.2.1 p:=by
 have A:Par (CJ l) λy=> ∀p v,idx y p=some v->v=bW l.2.1 p:=by
  unfold CJ;refine .bind λb C=>.not (λc=>by rw[hl b C]at c;cases c) λ_=>.bind λG h3=>?_;have z: ∀(p v:Int),idx G p=some v->v=0:=λp v hv=>by
   unfold mkS at h3;split at h3;injection h3 with h3;rw[<-h3]at hv;obtain⟨_,hv⟩:=cB hv;rw[List.getElem?_replicate]at hv;split at hv;injection hv with hv;exact hv.symm;cases hv;cases h3
  refine .while (λw:Int×aD×List Int=>w.2.1=l/\0<=w.1/\w.1<=J0 l.2.1/\ ∀(p v:Int),idx w.2.2 p=some v->v=bW (l.2.1.take w.1.toNat) p) ⟨rfl,aU _,Jc,λp v hv=>by rw[z p v hv];rfl⟩ ?_;rintro⟨i,l',o⟩ ⟨E,H,i1,ih⟩;dsimp only at E H i1 ih;subst E;unfold jv;dsimp only;have M:=Ji i 1;have st: ∀{e:J2},i<J0 l'.2.1->idx l'.2.1 i=some e->J1 .i64 i 1<=9223372036854775807->(J1 .i64 i 1=i+1->l'.2.1.take (J1 .i64 i 1).toNat=l'.2.1.take i.toNat++[e]):=fun{e} a b _ d=>by rw[d,show(i+1).toNat=i.toNat+1 by omega,List.take_add_one,(cB b).2];rfl
  have O:J0 l'.2.1<=4096:=by obtain⟨q,D⟩: ∃q,Jw l'=some q:=⟨b,C⟩;have:=hl q D;exact(RR D this).2.2
  refine .lt (λc=>.bind λk x=>.bind λN B=>.ite (λr=>.bind λK j=>.bind λL n=>.bind λ_ h=>.bind λ_ _=>.some ⟨rfl,by dsimp only;omega,by dsimp only;omega,λp v hv=>?_⟩) λr=>.some ⟨rfl,by dsimp only;omega,by dsimp only;omega,λp v hv=>?_⟩) λc=>.some ?_;dsimp only at hv⊢;rw[x]at j n;injection j with j;injection n with n;subst j n;rw[st c x (by omega) (by omega),uO];have J:=(oJ B).1 r;obtain⟨F,g⟩:=cB hv;have h:=PT h;have g:(o.set (aV k).toNat k.1)[p.toNat]?=some v:=g;have h:0<=aV k/\aV k<o.length:=h;rw[List.getElem?_set]at g;split at g;rename_i e;rw[if_pos (by omega)]at g;injection g with g;rw[if_pos ⟨J,by omega⟩,g];rename_i e;rw[if_neg (λq=>e (by rw[q.2]))];exact ih p v (by unfold idx;rw[if_pos F];exact g);dsimp only at hv⊢;rw[st c x (by omega) (by omega),uS (λq=>(oJ B).2 r q.1)];exact ih p v hv;intro p v hv;have:=ih p v hv;rw[List.take_of_length_le (by unfold J0 at c;omega)]at this;exact this
 exact A _ I p v hv
end
end Go.Am
end
section
namespace Go.Am
set_option linter.unusedVariables false
set_option maxRecDepth 20000
set_option maxHeartbeats 1000000
theorem JJv{B S:Int}{e:J2}(h:Ty.fit B S J7 e)(hv:Jm e=some true)(j:0<=B)(g:0<=S):0<=e.2.2.2.2.2.2.1.1/\e.2.2.2.2.2.2.1.1<64:=by have:=(sR h hv rfl).1;omega
theorem JEt{l:aD}(hf:Ty.fit 16384 1073741824 JE l)(hv:Jw l=some true):Tot (CJ l) λy=>J0 y=64/\Ty.fit 64 0 (.l (.i .i64)) y:=by obtain⟨_,E,h⟩:=LI hv;unfold CJ;refine .bind (oK hv) λK w=>.not (λc=>by rw[w]at c;cases c) λ_=>.bind (EB (t:=.i .i64) (B:=64) (S:=0) (fA .i64 0)) λx h3=>Ju (τ:=Int×List Int) (λq=>(q.1,l,q.2)) (λq=>0<=q.1/\q.1<=J0 l.2.1/\J0 q.2=64/\Ty.fit 64 0 (.l (.i .i64)) q.2) (λq=>J0 l.2.1-q.1) ?_ (0,x) rfl ⟨aU _,Jc,h3.2,h3.1⟩;rintro⟨i,j⟩ ⟨h0,h1,h2,g⟩;dsimp only at h0 h1 h2 g;unfold jv;dsimp only;have o:=Ji i 1;refine .lt (λc=>?_) λ_=>.some ⟨h2,g⟩;obtain⟨e,k,v⟩:=Dp (l:=l.2.1) h0 c;have D:=h _ e v;have n:Ty.fit 16384 1073741824 J7 e:=hf.2.1.2 e (zQ5 v);have r:=JJv n D.2 (by decide) (by decide);refine .bind (oK k) λI A=>?_;subst A;refine .bind (oK (FX _)) λJ G=>.ite (λ_=>?_) λ_=>.some ⟨(J1 .i64 i 1,j),rfl,⟨om,om,h2,g⟩,om,om⟩;refine .bind (oK k) λF z=>.bind (oK k) λH C=>?_;subst z;subst C;refine .bind (iP r.1 (by omega)) λ_ _=>.bind (rN g r.1 (by show _<J0 j;omega)) λ_ _=>.some ⟨(J1 .i64 i 1,aZ j _ _),rfl,⟨om,om,qH.trans h2,oS g n.1⟩,om,om⟩
theorem JGN{l:aD}(h1:1<=l.1)(h2:l.1<=1099511627776)(h3:J0 l.2.1<=4096)(h4:l.1-1<=l.2.2)(h5:l.2.2<=l.1+J0 l.2.1-1)(he: ∀(i:Nat) e,l.2.1[i]?=some e->e.1=l.1+i/\Jm e=some true):Par (Jw l) λy=>y=true:=by
 unfold Jw;have o:=bC l.1 1;have v:0<=J0 l.2.1:=Jc;refine .ltf (λ_=>.gtf (λ_=>.gtf (λ_=>.ltf (λ_=>.bind λE r=>?_) λc=>by omega) λc=>by omega) λc=>by omega) λc=>by omega
 have F:=rR r h1 h2 h3;refine .gt (λc=>by omega) λ_=>.while (λz=>z.2=l/\0<=z.1/\z.1<=J0 l.2.1) ⟨rfl,aU _,v⟩ ?_;rintro⟨i,l'⟩ ⟨rfl,h0,D⟩;dsimp only at*;have A:=Ji l'.1 i;have w:=Ji i 1;unfold yB;have g: ∀{e},idx l'.2.1 i=some e->e.1=l'.1+i/\Jm e=some true:=fun{e} h=>by unfold idx at h;rw[if_pos h0]at h;have k:=he _ e h;exact⟨by have:=k.1;omega,k.2⟩
 refine .lt (λc=>.bind λC n=>.nef (λ_=>.bind λx q=>.bind λB j=>.not (λd=>?_) λ_=>.some ⟨rfl,om,by dsimp only at*;omega⟩) λd=>?_) λ_=>.some rfl;have:=(g q).2;rw[j]at this;cases this;cases d;have:=(g n).1;exact absurd this (by dsimp only at d;omega)
theorem JKE{l:aD}{n:Int}(hv:Par (Jw l) λv=>v=true)(h1:l.1=1)(h2:l.2.2<=J0 l.2.1)(h3:J0 l.2.1<=4096)(hn:1<=n)(E:n<=l.2.2+1):Par (sL (l,n)) λy=>Par (Jw y.1) λv=>v=true:=by
 unfold sL;refine .bind λv h=>?_;have e:=hv _ h;subst e;dsimp only at h;obtain⟨_,F,j⟩:=LI h;have G:=bC n l.1;refine .not (λc=>by cases c) λ_=>.ltf (λ_=>.bind λr D=>?_) λc=>by dsimp only at c;omega
 have C:=rR D (om) (om) h3;dsimp only at C;have H:=Ji r 1;have I:=Ji l.2.2 1;refine .gtf (λ_=>.gt (λc=>by dsimp only at c;omega) λ_=>.gt (λc=>by dsimp only at c;omega) λ_=>.bind λz x=>.bind λw g=>.some ?_) λc=>by dsimp only at c;omega
 have B:=(LJ (l:=l.2.1) (k:=JL .i64 n l.1) (by omega) (by omega)).get x;have q:w=z:=(by unfold dA at g;split at g;injection g with g;exact g.symm;cases g);subst q;refine JGN hn (om) (om) (om) (om) λi e hi=>?_;dsimp only at hi⊢;rw[B.1,EC]at hi;obtain⟨o,A⟩:=j _ e hi;exact⟨by rw[o];omega,A⟩
def kp(p:Je):Prop:=Ty.fit 16384 9223372036854775807 Jf p
def HT(l:aD):Prop:=Ty.fit 16384 1073741824 JE l
theorem JGh{l:List Int}{n:Int}(h0:0<=n){y:JO}(e:AR (l,n)=some y):y.2=0/\J0 y.1<=n:=by
 have g:Par (AR (l,n)) λy=>y.2=0/\J0 y.1<=n:=by unfold AR;exact .gt (λc=>.bind λr h=>.some ⟨rfl,by have:=(IB (l:=l) (k:=n) h0 (by dsimp only at c;omega)).get h;dsimp only;omega⟩) λc=>.some ⟨rfl,by dsimp only at*;omega⟩
 exact g _ e
end Go.Am
end
section
namespace Go.Am
set_option linter.unusedVariables false
set_option maxRecDepth 20000
set_option maxHeartbeats 1000000
theorem C5{E h:List J2}{id:Int}(e:cQ E)(hl:J0 E<=4096)(hc:Chn E h id)(h0:0<=id)(h1:id<64){k:Nat}(hk:k<=h.length):kp (Qp E h id k):=by have g:=hc.nn hk;refine⟨J3.2 ⟨by show -9223372036854775808<=id;omega,by show id<=9223372036854775807;omega⟩,J3.2 ⟨by show -9223372036854775808<=lsA h k;omega,by show lsA h k<=9223372036854775807;omega⟩,λi hi=>⟨trivial,?_⟩⟩;have c:=(pj e id (lsA h k).toNat (by unfold J0 at g;omega) i hi).1;show J0 ((cC (E.take (lsA h k).toNat) id)[i]).2<=9223372036854775807;omega
theorem JJz{x:List Int}(w:Ty.inR (.l (.i .u8)) x):Ty.fit (J0 x) 0 (.l (.i .u8)) x:=⟨aU _,λa e=>by have:=w.2 a e;rw[YE];simpa[Ty.inR,IntKind.min,IntKind.max,IntKind.signed,IntKind.bits]using this⟩
theorem Zz{x:Int}(w:Ty.inR (.i .u8) x):0<=x/\x<=255:=by simpa[Ty.inR,IntKind.min,IntKind.max,IntKind.signed,IntKind.bits]using w
theorem JKo{x n:Int}(h0:0<=x)(hn:0<n): ∃a:Nat,pD x n=some (a:Int)/\(a:Int)<n:=by
 refine⟨(x.tmod n).toNat,?_,?_⟩;unfold pD;rw[if_neg (by omega)];have:=Int.tmod_nonneg n h0;exact congrArg some (by omega);have:=Int.tmod_nonneg n h0;have:=Int.tmod_lt_of_pos x hn;omega
theorem l8{h:List J2}{a:Nat}(ha:a<h.length): ∃e,idx h (a:Int)=some e/\e.1=lsA h (a+1):=by have g:=zQ9 ha;refine⟨h[a],?_,(zQ g).symm⟩;unfold idx;rw[if_pos (by omega)];exact g
end Go.Am
end
section
namespace Go.Am
set_option linter.unusedVariables false
set_option maxRecDepth 20000
set_option maxHeartbeats 1000000
theorem JFn(x:nQ)(I:Je->Prop)(h: ∀q,I q->PF q)(hp:I x.2.1)(hr:x.2.2<9223372036854775808)
  (hs: ∀y,lD x=some y-> ∀q e r,I q->e∈y.1->gQ (q,e)=some r->I r.1):mB x=jE x:=by
 obtain⟨l,p,n⟩:=x;have j:=JGx (l,p,n) (h _ hp) hr;unfold mB jE mC;dsimp only at j⊢;rw[j];cases h1:lD (l,p,n)with
 |none=>rfl
 |some y=>
  simp only[JI];by_cases h2:y.2=0;have g:aO y.2 0=false:=by simp[aO,h2]
  rw[g,JD5 y.1 l p I h hp (hs y h1)];simp only[eL,if_false];cases h3:Jd yD (y.1,0,l,p,0,0,Vector.replicate 16 (false,[]))with
  |none=>rfl
  |some r=>rfl
  have g:aO y.2 0=true:=by simp[aO,h2]
  rw[g];rfl
theorem gk{m:aD}{y:Je}{n:Int}(hm:HT m)(hy:kp y)(hn:Ty.fit 0 0 (.i .i64) n):
  ∃r,mB (m,y,n)=some r/\jE (m,y,n)=some r:=by
 have h:Ty.fit 16384 9223372036854775807 TL (m,y,n):=⟨hm.up (by decide) (by decide),hy,hn⟩;have z:=J3.1 hn;have b1:=JFn (m,y,n) kp (λq g=>mz g (by decide) (by decide)) hy (om) (λx o q e r g v w=>by have k:=(x7 (B:=16384) (S:=9223372036854775807) h).get o;have j:=(i7 (B:=16384) (S:=9223372036854775807) (X:=(q,e)) ⟨g,(k.1.2 e v).up (by decide) (by decide)⟩).get w;exact j.1.up (by decide) (by decide));obtain⟨r,e,_⟩:=wn (B:=16384) (S:=9223372036854775807) h;exact⟨r,b1.trans e,e⟩
theorem ew{l:aD}{E h:List J2}{id:Int}(o:HT l)(g:cQ E)(hl:kP l E)(hc:Chn E h id)(h0:0<=id)(h1:id<64){i j:Nat}(e:i<=j)(hj:j<=h.length)(hf:l.1-1<=lsA h i):
  mB (l,Qp E h id i,lsA h j)=some (Qp E h id j,0):=by
 have w:=hc.nn hj;have len:=hl.len;obtain⟨r,v,q⟩:=gk o (C5 g hl.len hc h0 h1 (k:=i) (by omega)) (n:=lsA h j) (J3.2 ⟨by omega,by omega⟩);rw[v,JIU g hl hc h0 h1 e hj hf _ q]
theorem qr{x:nQ}{n:Int}(hn: ¬n=0)(h:Par (lD (x.1,x.2.1,x.2.2)) λy=>y=([],n)):Par (jE x) λy=>y.2=n:=by
 unfold jE;refine .bind λg h2=>.some ?_;have k:Par (mC (x.1,x.2.1,x.2.2)) λy=>y.2.2=n:=by unfold mC;refine .bind λe h3=>?_;rw[h _ h3];exact .ne (λ_=>.some rfl) λc=>absurd c hn
 exact k _ h2
theorem JHm{id m:Int}(h0:0<=id)(h1:id<64)(e:0<=m)(m1:m<=1099511627776):Par (fC (id,m,Vector.replicate 16 (false,[]))) λy=>y=0:=by
 have cs:gL (id,m,Vector.replicate 16 (false,[]))=some true:=QW _ (λi hi=>by simp;exact OF ⟨show(0:Int)<=12 by decide,λ_=>rfl⟩) (.inr λi hi=>by simp);have g:hI (id,m,Vector.replicate 16 (false,[]))=some true:=by unfold hI;dsimp only;rw[if_pos (oO.2 h0),if_pos (fU.2 h1),if_pos (oO.2 e)];exact congrArg some (iC.2 m1)
 unfold fC;rw[g];simp only[JI];rw[if_neg (by decide),cs];simp only[JI];rw[if_neg (by decide)];exact .some rfl
theorem JIR{l:aD}(hi:gE 0 l)(hc:cQ l.2.1):Par (mY l) λy=>y=J0 l.2.1:=by unfold mY;refine .bind λv g=>.not (λc=>by rw[LM hi hc _ g]at c;cases c) λ_=>.bind λm e=>.some ?_;obtain⟨i1,i2,i3,i4⟩:=hi;have:=rR e (by omega) (by omega) i4;omega
theorem JL1{l:aD}{n:Int}(hi:gE 0 l)(hc:cQ l.2.1)(hd:l.2.2=J0 l.2.1)(h1:1<=n)(h2:n<=J0 l.2.1+1):Par (sL (l,n)) λy=>y.2=0/\y.1.1=n/\kP y.1 l.2.1:=by
 have v:=LM hi hc;obtain⟨i1,i2,i3,i4⟩:=hi;have val:=JKE v i1 i3 i4 h1 (by omega);have k:Par (sL (l,n)) λy=>y.2=0/\y.1.1=n/\y.1.2.1=l.2.1.drop (n-1).toNat:=by
  unfold sL;have o:=bC n l.1;have j:=Jc (l:=l.2.1);refine .bind λb r=>.not (λc=>by rw[v b r]at c;cases c) λ_=>.ltf (λ_=>.bind λm z=>?_) λc=>by dsimp only at c;omega
  have q:=rR z (by dsimp only;omega) (by dsimp only;omega) i4;dsimp only at q;have B:=Ji m 1;have D:=Ji l.2.2 1;refine .gtf (λ_=>.gt (λc=>by dsimp only at c;omega) λ_=>.gt (λc=>by dsimp only at c;omega) λ_=>.bind λE e=>.bind λC w=>.some ⟨rfl,rfl,?_⟩) λc=>by dsimp only at c;omega
  dsimp only at e⊢;rw[wX w,(RE e).2]
  congr 1
  omega
 intro y g;obtain⟨A,h,x⟩:=k y g;have j:=Jc (l:=l.2.1);exact⟨A,h,by omega,by omega,by rw[h];exact x,val y g,i4⟩
theorem X3{J:List Int}{X:Int}(w0:Ty.inR (.l (.i .u8)) J)(w1:Ty.inR (.i .u8) X):WS (J,X)=some true:=by
 have ao:Tot (WS (J,X)) λy=>y=true:=by
  have u1:=Zz w1;have f0:=JJz w0;have bo:0<=J0 J:=Jc;unfold WS;dsimp only;refine .bind (oK JHP) λy2 d2=>.not (λc=>by rw[d2]at c;cases c) λ_=>.bind ((JAC (B:=J0 J) (S:=0) (X:=(J,500)) ⟨f0,fA .i64 500⟩ (by show(0:Int)<=500;decide)).eqn) λO h3=>?_;obtain⟨n1,n2⟩:=JGh (by decide) h3.2;have f3:Ty.fit 16384 1073741824 Ja O:=⟨⟨by show J0 O.1<=16384;omega,λa ha=>h3.1.1.1.2 a ha⟩,h3.1.1.2⟩;refine .bind ((Yn (B:=16384) (S:=1073741824) (X:=(40,true,O)) ⟨fA .i64 40,trivial,f3⟩ om (by show(0:Int)<=40;decide) (by show(40:Int)<=1000;decide)).eqn) λA F=>?_;have g:=JGr f3 (by omega) F.2;have K:HT A.1.2.2.1:=F.1.1.1.2.2.1;have D:=g.2.1;have M:=kP.all g.1 g.2.1;obtain⟨v,N,_⟩:=nE (B:=16384) (S:=1073741824) K;have lv:Jw A.1.2.2.1=some true:=by rw[N,M.val _ N]
  refine .bind (Js (B:=16384) (S:=1073741824) (X:=(4,A.2)) ⟨fA .i64 4,F.1.1.2⟩ F.1.2) λE Q=>?_;have ah:=Q.2.2.1 (by show(1:Int)<=4;decide);have w:=Q.2.1;dsimp only at ah w;refine .bind ((JEt K lv).eqn) λy6 h6=>?_;obtain⟨y7,e7,_⟩:=Dp (l:=y6) w (by rw[h6.1.1];omega);have hd:=JHv h6.2 M.val e7;obtain⟨h,z,hl⟩:=JKJ D E.1;rw[hl]at hd;subst hd;refine .bind (oK e7) λy7 d7=>?_;subst d7;have nn:=z.nn (zQ0 _);have len:=M.len;have fst:A.1.2.2.1.1=1:=g.1.1;have i64:E.1<64:=by omega
  have fp:Ty.fit 16384 1073741824 (.pr JE Jb) (A.1.2.2.1,E.1,lsA h h.length,0):=⟨K,Q.1.1,J3.2 ⟨by show -9223372036854775808<=lsA h h.length;omega,by show lsA h h.length<=9223372036854775807;omega⟩,fA .i64 0⟩;have am:xR (A.1.2.2.1,E.1,lsA h h.length,0)=some (h,0):=by rw[Eo _ (by dsimp only;omega)];obtain⟨r,er,_⟩:=xh (B:=16384) (S:=1073741824) fp;have:=ri M z (zQ2 _) (zQ0 _) (by rw[fst];exact aU _) w i64 _ er;rw[this,List.take_length]at er;exact er
  refine .bind (oK am) λy8 d8=>?_;subst d8;dsimp only;refine .ne (λc=>absurd rfl c) λ_=>.lt (λ_=>.some rfl) λcn=>?_;have hb:=z.bnd;have bp:J0 h=(h.length:Int):=rfl;have c1:=VF X;have os:=bC (J0 h) 1;obtain⟨a,ea,la⟩:=JKo (x:=bN .i64 X) (n:=JL .i64 (J0 h) 1) (by omega) (by omega);have oa:=Ji (a:Int) 1;have aj:J1 .i64 (a:Int) 1=((a+1:Nat):Int):=by omega
  have af:JL .i64 (J0 h) 1=((h.length-1:Nat):Int):=by omega
  obtain⟨bq,ad,R⟩:=l8 (h:=h) (a:=h.length-1) (by omega);obtain⟨bt,a5,ak⟩:=l8 (h:=h) (a:=a+1) (by omega);obtain⟨bs,au,al⟩:=l8 (h:=h) (a:=a) (by omega);rw[show h.length-1+1=h.length by omega]at R;have q0:((E.1,0,Vector.replicate 16 (false,[])):Je)=Qp A.1.2.2.1.2.1 h E.1 0:=rfl;have na:=z.nn (i:=a+1) (by omega);have bm:=z.lt (i:=0) (j:=a+1) (by omega) (by omega);have bj:lsA h 0=0:=rfl;have bu:=z.lt (i:=a+1) (j:=a+2) (by omega) (by omega);have bn:=z.lt (i:=a+1) (j:=h.length) (by omega) (zQ0 _);have n2:=z.nn (i:=a+2) (by omega);have o2:=bC (lsA h (a+2)) (lsA h (a+1));have o3:=Ji (lsA h (a+1)) 1;have a9:J1 .i64 (lsA h (a+1)) 1=lsA h (a+1)+1:=by omega
  obtain⟨m,hm,_⟩:=MR (B:=16384) (S:=1073741824) K;have em:=JIR g.1 D _ hm;subst em;have fm:Ty.fit 16384 1073741824 (.i .i64) (J0 A.1.2.2.1.2.1):=J3.2 ⟨by omega,by omega⟩;obtain⟨C,G,a4⟩:=VS (B:=16384) (S:=1073741824) (X:=(A.1.2.2.1,J0 A.1.2.2.1.2.1)) ⟨K,fm⟩;have U:=cw g.1 D (aU _) _ G;obtain⟨L,I⟩:=RP G U;have I:=I g.1;have p3:=Cs G U;have p4:=I.2.2.1;have P:HT C.1:=a4.1.1.up (by decide) (by decide);have Y:cQ C.1.2.1:=by rw[L];exact D
  rw[L]at p4;have W:kP C.1 A.1.2.2.1.2.1:=by have:=kP.all I Y;rw[L]at this;exact this
  obtain⟨V,Z,ae⟩:=H5 (B:=16384) (S:=1073741824) (X:=(C.1,lsA h (a+1)+1)) ⟨P,J3.2 ⟨by show -9223372036854775808<=lsA h (a+1)+1;omega,by show lsA h (a+1)+1<=9223372036854775807;omega⟩⟩;obtain⟨a6,bx,H⟩:=JL1 I Y (by rw[L];omega) (n:=lsA h (a+1)+1) (by omega) (by rw[L];omega) _ Z;rw[L]at H;have T:HT V.1:=ae.1.up (by decide) (by decide);have a3:C.1.1=1:=I.1;have z0:C.1.1-1<=lsA h 0:=by rw[a3];exact aU _
  have r1:=ew P D W z w i64 (i:=0) (j:=a+1) (zQ2 _) (by omega) z0;have r2:=ew T D H z w i64 (i:=a+1) (j:=h.length) (by omega) (zQ0 _) (by omega);have r3:=ew P D W z w i64 (i:=0) (j:=h.length) (zQ2 _) (zQ0 _) z0;obtain⟨a0,ai,ag⟩:=gk T (C5 D len z w i64 (k:=0) (zQ2 _)) (n:=lsA h h.length) (J3.2 ⟨by omega,by omega⟩);have ab:a0.2=14:=(by refine qr (by decide) ?_ _ ag;unfold lD;refine .bind λv N=>.not (λc=>by rw[H.val v N]at c;cases c) λ_=>.bind λO h3=>.ne (λc=>absurd (XS D len z w i64 (zQ2 _) _ h3) c) λ_=>.lt (λc=>by dsimp only at c;omega) λ_=>.ge (λc=>?_) λ_=>.bind λA F=>.some ?_;have c:lsA h h.length<=lsA h 0:=c;omega;rw[JEh H z (i:=a+1) (j:=h.length) (by omega) (by omega) (zQ0 _) (by omega) w i64 _ F]);have et: ∀p:Je,eqT Jf p p=true:=λp=>eB.2 rfl;refine .bind (oK ea) λy9 d9=>?_;subst d9;rw[af,aj,ad,a5,au];simp only[JI];rw[R,ak,al,a9,q0,hm];simp only[JI];rw[G];simp only[JI];rw[Z,r1];simp only[JI];rw[r2,r3,ai];simp only[JI];have fin: ∀{o:Option Bool},o=(if aK V.2 0=true then if aK ((0:Int)) 0=true then if aK (0:Int) 0=true then if aK (0:Int) 0=true then if eqT Jf (Qp A.1.2.2.1.2.1 h E.1 h.length) (Qp A.1.2.2.1.2.1 h E.1 h.length)=true then some (aK a0.2 14)else some false else some false else some false else some false else some false)->Tot o λy=>y=true:=λho=>by rw[ho];refine .eq (λ_=>.eq (λ_=>.eq (λ_=>.eq (λ_=>.ite (λ_=>.some (qE.2 ab)) λc=>by rw[et]at c;cases c) λc=>absurd rfl c) λc=>absurd rfl c) λc=>absurd rfl c) λc=>absurd a6 c
  refine .gt (λcg=>?_) λ_=>fin rfl;have cg:1<JL .i64 (lsA h (a+2)) (lsA h (a+1)):=cg;obtain⟨aa,a2,a8⟩:=gk (y:=(E.1,lsA h (a+1)+1,Vector.replicate 16 (false,[]))) K ⟨Q.1.1.up (by decide) (by decide),J3.2 ⟨by show -9223372036854775808<=lsA h (a+1)+1;omega,by show lsA h (a+1)+1<=9223372036854775807;omega⟩,cI (by decide) (by decide) (.ar 16 Jz)⟩ (n:=lsA h h.length) (J3.2 ⟨by omega,by omega⟩);have ac:aa.2=13:=(by refine qr (by decide) ?_ _ a8;unfold lD;have bw:lsA h (a+2)<=lsA h h.length:=(by by_cases q:a+2=h.length;rw[q];exact aU _;exact Int.le_of_lt (z.lt (by omega) (zQ0 _)));refine .bind λv N=>.not (λc=>by rw[M.val v N]at c;cases c) λ_=>.bind λO h3=>.ne (λc=>absurd (JHm w i64 (by omega) (by omega) _ h3) c) λ_=>.lt (λc=>by dsimp only at c;omega) λ_=>.ge (λc=>by dsimp only at c;omega) λ_=>.bind λA F=>.some ?_;rw[JFi M z (i:=a+1) (j:=h.length) (a:=lsA h (a+1)+1) (by omega) (zQ0 _) (by rw[fst];omega) (by omega) (by show lsA h (a+1)+1<lsA h (a+2);omega) w i64 _ F]);rw[a2];simp only[JI];exact .ne (λc=>absurd ac c) λ_=>fin rfl
 obtain⟨y,e,d⟩:=ao;rw[e,d]
end Go.Am
end
section
namespace Go.Am
set_option maxRecDepth 20000
def DA{α:Type}(f:FuncId):List (FuncId×α)->Option α|[]=>none|(g,a)::r=>if f=g then some a else DA f r
noncomputable def mt:List (FuncId×AFn):=[(54,aN T3),(88,aN X9),(87,aN U1),(62,aN Tj),(75,aN Mb),(74,aN W4),(76,aN Xl),(77,aN W7),(55,aN Qn),(41,aN Pt),(52,aN Oc),(27,aN V0),(9,aN ny),(39,aN X4),(38,aN Xg),(104,aN Ym),(73,aN Xr),(51,aN Zd),(94,aN Ue),(71,aN Im),(93,aN If),(91,aN Gu),(92,aN Gb),(70,aN F8)]
noncomputable def mi:List (FuncId×AFn):=[(49,aN Fm),(64,aN Uz),(89,aN Xw),(67,aN Nr),(63,aN Nk),(44,aN P4),(36,aN K1),(32,aN Qo),(13,aN Pu),(14,aN M5),(103,aN U0),(198,aN Qy),(155,aN P9),(156,aN M9),(126,aN Qq),(144,aN Od),(209,aN Xc),(227,aN Oe),(228,aN Mc),(229,aN Ll),(185,aN N4),(66,aN Ru),(65,aN Vn),(163,aN Pk)]
noncomputable def nm:List (FuncId×AFn):=[(132,aN Ol),(230,aN Gv),(186,aN Ri),(187,aN Ya),(143,aN Po),(120,aN N5),(112,aN N6),(95,aN R0),(33,aN Vg),(177,aN Th),(110,aN Fi),(218,aN Ih),(179,aN I2),(176,aN L8),(215,aN Uj),(216,aN Fy),(217,aN Ud),(178,aN Mq),(133,aN L3),(115,aN Me),(130,aN Ib),(147,aN Iu),(139,aN Hy),(164,aN Fo)]
noncomputable def mq:List (FuncId×AFn):=[(175,aN S7),(214,aN Wy),(174,aN S9),(173,aN R5),(138,aN Ux),(172,aN R3),(137,aN JCr),(117,aN Nh),(99,aN Yj),(131,aN Q0),(114,aN Pr),(166,aN Hd),(45,aN Rt),(165,aN Ou),(134,aN Tw),(168,aN Lc),(212,aN Vw),(169,aN Pl),(248,aN Q4),(211,aN Qk),(167,aN Us),(170,aN Lu),(135,aN Np),(213,aN Gn)]
noncomputable def mr:List (FuncId×AFn):=[(171,aN O1),(136,aN V1),(116,aN Nu),(98,aN Oy),(193,aN Hv),(235,aN Hj),(236,aN Lo),(192,aN U4),(152,aN Vy),(151,aN Ww),(153,aN Ix),(46,aN Nn),(194,aN Wq),(197,aN Hu),(237,aN Se),(195,aN Id),(238,aN JC7),(196,aN U7),(154,aN Ir),(123,aN Mm),(150,aN Tz),(122,aN Iv),(189,aN Fj),(146,aN I9)]
noncomputable def ni:List (FuncId×AFn):=[(222,aN Il),(256,aN Qm),(233,aN S6),(234,aN Ha),(190,aN W8),(148,aN Nx),(191,aN Hf),(149,aN S3),(21,aN P3),(111,aN Ps),(90,aN Lr),(69,aN Nm),(48,aN Ke),(23,aN Ly),(232,aN Nc),(231,aN Tc),(188,aN K2),(145,aN Kf),(121,aN Rf),(102,aN Kr),(100,aN Ui),(160,aN We),(210,aN K7),(161,aN Ga)]
noncomputable def mo:List (FuncId×AFn):=[(128,aN Wa),(243,aN Q2),(205,aN Wx),(245,aN Vc),(246,aN jx),(207,aN Ro),(242,aN Tm),(203,aN Mn),(202,aN Ng),(247,aN Pa),(208,aN Ig),(244,aN Fg),(206,aN T1),(200,aN U2),(240,aN R8),(241,aN Vx),(201,aN P5),(204,aN Hi),(239,aN T0),(199,aN V8),(157,aN JBd),(158,aN Vv),(159,aN Xk),(127,aN JCC)]
noncomputable def m9:List (FuncId×AFn):=[(162,aN Lt),(129,aN Iq),(113,aN JBa),(97,aN Yu),(140,aN I1),(219,aN O6),(249,aN Mw),(220,aN T9),(181,aN Of),(180,aN Kt),(141,aN R1),(118,aN Ph),(221,aN Vs),(252,aN Yz),(250,aN Y3),(251,aN Ys),(223,aN R6),(182,aN L2),(258,aN Ms),(255,aN Lz),(226,aN Ow),(260,aN Uq),(261,aN Za),(262,aN Yk)]
noncomputable def mw:List (FuncId×AFn):=[(259,aN Um),(257,aN Si),(253,aN Sf),(224,aN Qz),(254,aN Ni),(225,aN Ho),(183,aN V7),(184,aN Rz),(142,aN Na),(119,aN Iw),(101,aN Zg),(96,aN Y8),(72,aN Zc),(50,aN G7),(26,aN Yw),(8,aN Yt),(7,aN JBf),(43,aN Uf),(30,aN Vt),(86,aN X7),(61,aN Hh),(59,aN Yo),(57,aN Le),(78,aN Li)]
noncomputable def ml:List (FuncId×AFn):=[(56,aN P2),(42,aN Pb),(20,aN M8),(6,aN Pd),(34,aN Pn),(35,aN J9S),(12,aN F3),(15,aN Gy),(11,aN Pw),(3,aN W3)]
noncomputable def fns:List (FuncId×AFn):=mt++(mi++(nm++(mq++(mr++(ni++(mo++(m9++(mw++(ml)))))))))
noncomputable def fks:List (FuncId×pA):=[]
noncomputable def fps:List (FuncId×Prm):=[(58,JB5),(60,JBB)]
abbrev PS:=FuncId->Option (List AV->List Blk->Option Res)
noncomputable def zB(p:PS):eO:=λf=>Bs (DA f fns) (DA f fks) (DA f fps) (p f)
def AE(l:List TE):Prop:= ∀p,zF (AF (zB p)) l
theorem ae0:AE []:=λ_=>trivial
theorem oh{i g S l f}(hf: ∀p,zB p i=some (.fn (aN f)))(A:AE l)(q: ∀x,onO (nT g x) (λy=>vP (TG.of l) f y.1 y.2 (pT g))=S x)(hs:EZ g=true:=by rfl):AE (aG i g S::l):=λp=>⟨m6 (hf p) (A p) hs q,A p⟩
end Go.Am
end
