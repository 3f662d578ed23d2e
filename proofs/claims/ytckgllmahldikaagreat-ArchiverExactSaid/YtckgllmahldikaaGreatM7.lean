/-
  Parts of a proof.
-/
import Derived.Test.YtckgllmahldikaaGreatM3
import Derived.Test.YtckgllmahldikaaGreatM6
set_option linter.unusedSimpArgs false
set_option linter.unusedVariables false
set_option linter.unusedSectionVars false
set_option maxRecDepth 20000
set_option maxHeartbeats 1000000
open Option renaming some → Z,none → Y
open Bool renaming true → O,false → J
open Go.IntKind renaming i64 → I
open Int renaming toNat → _G
open List renaming length → _H,mem_cons_self → _I,replicate → _J,pairwise_cons → _K,pairwise_append → _L,filter_append → _M,length_filter_le → _N,pairwise_iff_getElem → _O,filter_cons → _R,not_mem_nil → _S,mem_filter → _V,pairwise_singleton → _X,take_add_one → _Y
open Option renaming bind_some → _Q
open Bool renaming not_eq_true → _W
section
namespace Go.Am
section
variable {α:Type} (κ:α->Int)
def leK(x y:α):Bool:=decide (κ x<=κ y)
def fI(i:Int)(z:α):Bool:=decide (κ z=i)
theorem So(i:Int)(x:α): ∀l:List α,(kI (leK κ) x l).filter (fI κ i)=if κ x=i then x::l.filter (fI κ i)else l.filter (fI κ i)
 |[]=>by unfold kI;by_cases c:κ x=i<;>simp[fI,c]
 |y::l=>by
  have ih:=So i x l;unfold kI;by_cases h:leK κ x y=O;rw[if_pos h];by_cases c:κ x=i;rw[if_pos c,_R,if_pos (by simp[fI,c])];rw[if_neg c,_R,if_neg (by simp[fI,c])];rw[if_neg h,_R,ih,_R];have h: ¬κ x<=κ y:=by simpa[leK]using h
  by_cases c:κ x=i;have d: ¬κ y=i:=by omega
  simp[fI,c,d];simp only[if_neg c]
theorem Mv(i:Int): ∀l:List α,(ST (leK κ) l).filter (fI κ i)=l.filter (fI κ i)|[]=>rfl|x::l=>by show(kI (leK κ) x (ST (leK κ) l)).filter (fI κ i)=_;rw[So,Mv i l,_R];by_cases c:κ x=i<;>simp[fI,c]
def lL:α->List α->List α|_,[]=>[]|p,y::l=>if κ y=κ p then lL y l else y::lL y l
def rH:List α->List α|[]=>[]|x::l=>x::lL κ x l
def gV(l:List α)(x:α):Prop:=(l.filter (fI κ (κ x))).head?=Z x
theorem zr: ∀{l:List α} {p:α},(p::l).Pairwise (λa b=>κ a<=κ b)->(lL κ p l).Pairwise (λa b=>κ a<κ b)/\(∀x∈lL κ p l,κ p<κ x)/\ ∀x,x∈lL κ p l↔κ x≠κ p/\gV κ l x
 |[],p,_=>⟨List.Pairwise.nil,nofun,λx=>⟨nofun,λh=>by have:=h.2;unfold gV at this;simp at this⟩⟩
 |y::l,p,h=>by
  obtain⟨h1,h2⟩:=_K.1 h;obtain⟨i1,i2,i3⟩:=zr (l:=l) (p:=y) h2;have o:=h1 y _I;have n:=(_K.1 h2).1;have fs: ∀x,κ x≠κ y->(gV κ (y::l) x↔gV κ l x):=λx g=>by unfold gV;rw[_R,if_neg (by simp[fI];exact λk=>g k.symm)]
  unfold lL;by_cases c:κ y=κ p;rw[if_pos c];refine⟨i1,λx g=>by have:=i2 x g;omega,λx=>?_⟩;rw[i3];constructor;rintro⟨j,e⟩;exact⟨by omega,(fs x j).2 e⟩;rintro⟨j,e⟩;have j:κ x≠κ y:=by omega
  exact⟨j,(fs x j).1 e⟩;rw[if_neg c];refine⟨_K.2 ⟨i2,i1⟩,λx g=>?_,λx=>?_⟩;rcases bS.1 g with rfl|g;omega;have:=i2 x g;omega;rw[bS,i3];constructor;rintro(rfl|⟨j,e⟩);refine⟨c,?_⟩;unfold gV;rw[_R,if_pos (by simp[fI])];rfl;refine⟨?_,(fs x j).2 e⟩;have g:x∈l:=(_V.1 (List.mem_of_mem_head? e)).1;have:=n x g;omega;rintro⟨j,e⟩;by_cases d:κ x=κ y;left;unfold gV at e;rw[_R,if_pos (by simp[fI,d])]at e;simpa using e.symm;exact .inr ⟨d,(fs x d).1 e⟩
theorem JN6{l:List α}(h:l.Pairwise λa b=>κ a<=κ b):(rH κ l).Pairwise (λa b=>κ a<κ b)/\ ∀x,x∈rH κ l↔gV κ l x:=by
 cases l with
 |nil=>exact⟨List.Pairwise.nil,λx=>⟨nofun,λk=>by unfold gV at k;simp at k⟩⟩
 |cons p l=>
  obtain⟨h1,h2,e⟩:=zr κ h;refine⟨_K.2 ⟨h2,h1⟩,λx=>?_⟩;unfold rH;rw[bS,e];unfold gV;rw[_R];by_cases c:κ p=κ x;rw[if_pos (by simp[fI,c])];constructor;rintro(rfl|⟨k,_⟩);rfl;exact absurd c.symm k;intro k;left;simpa using k.symm;rw[if_neg (by simpa[fI]using c)];constructor;rintro(rfl|⟨_,k⟩);exact absurd rfl c;exact k;exact λk=>.inr ⟨λd=>c d.symm,k⟩
def eC(f:α):List α->List α|[]=>[f]|y::l=>if κ y<κ f then y::eC f l else if κ y=κ f then y::l else f::y::l
theorem VE(f:α): ∀{l:List α},l.Pairwise (λa b=>κ a<κ b)->(eC κ f l).Pairwise (λa b=>κ a<κ b)/\ ∀x,x∈eC κ f l↔x∈l\/(x=f/\ ∀y∈l,κ y≠κ f)
 |[],_=>⟨_X _ _,λx=>by simp[eC]⟩
 |y::l,h=>by
  obtain⟨h1,h2⟩:=_K.1 h;obtain⟨i1,i2⟩:=VE f h2;unfold eC;by_cases c:κ y<κ f;rw[if_pos c];refine⟨_K.2 ⟨λx g=>?_,i1⟩,λx=>?_⟩;rcases(i2 x).1 g with k|⟨rfl,_⟩;exact h1 x k;exact c;rw[bS,bS,i2];constructor;rintro(k|k|⟨j,n⟩);exact .inl (.inl k);exact .inl (.inr k);refine .inr ⟨j,λz e=>?_⟩;rcases bS.1 e with rfl|e;omega;exact n z e;rintro((k|k)|⟨j,n⟩);exact .inl k;exact .inr (.inl k);exact .inr (.inr ⟨j,λz e=>n z (gF _ e)⟩);rw[if_neg c];by_cases d:κ y=κ f;rw[if_pos d];exact⟨h,λx=>⟨.inl,λk=>k.elim id λk=>absurd d (k.2 y _I)⟩⟩;rw[if_neg d];refine⟨_K.2 ⟨λx g=>?_,h⟩,λx=>?_⟩;rcases bS.1 g with rfl|g;omega;have:=h1 x g;omega;rw[bS];constructor;rintro(k|k);refine .inr ⟨k,λz e=>?_⟩;rcases bS.1 e with rfl|e;exact d;have:=h1 z e;omega;exact .inl k;rintro(k|⟨k,_⟩);exact .inr k;exact .inl k
theorem Ax(L:List α):(L.foldl (λl f=>eC κ f l) []).Pairwise (λa b=>κ a<κ b)/\ ∀x,x∈L.foldl (λl f=>eC κ f l) []↔gV κ L x:=by
 have go: ∀(t pre acc:List α),(acc.Pairwise (λa b=>κ a<κ b)/\ ∀x,x∈acc↔gV κ pre x)->(t.foldl (λl f=>eC κ f l) acc).Pairwise (λa b=>κ a<κ b)/\ ∀x,x∈t.foldl (λl f=>eC κ f l) acc↔gV κ (pre++t) x:=by
  intro t
  induction t with
  |nil=>intro pre acc h;simpa using h
  |cons f t ih=>
   rintro pre acc ⟨h1,h2⟩;have e:pre++f::t=(pre++[f])++t:=by simp
   rw[List.foldl_cons,e];refine ih (pre++[f]) _ ⟨(VE κ f h1).1,λx=>?_⟩;rw[(VE κ f h1).2,h2];unfold gV;rw[_M];have n:(∃y∈acc,κ y=κ f)↔pre.filter (fI κ (κ f))≠[]:=by
    constructor;rintro⟨y,g,e⟩ k;have:=(h2 y).1 g;unfold gV at this;rw[e,k]at this;cases this;intro k;cases q:pre.filter (fI κ (κ f))with
    |nil=>exact absurd q k
    |cons y r=>
     have g:y∈pre.filter (fI κ (κ f)):=by rw[q];exact _I
     have e:κ y=κ f:=by simpa[fI]using(_V.1 g).2
     exact⟨y,(h2 y).2 (by unfold gV;rw[e,q];rfl),e⟩
   cases q:pre.filter (fI κ (κ x))with
   |cons y r=>
    simp only[nP,List.head?_cons,Option.some.injEq];constructor;rintro(k|⟨o,v⟩);exact k;subst o;obtain⟨w,g,e⟩:=n.2 (by rw[q];exact List.cons_ne_nil _ _);exact absurd e (v w g);exact .inl
   |nil=>
    simp only[rD,List.head?_nil];constructor;rintro(k|⟨o,v⟩);cases k;subst o;simp[fI];intro k;have j:x∈[f].filter (fI κ (κ x)):=List.mem_of_mem_head? k;have j:=(_V.1 j).1;rw[fR]at j;subst j;exact .inr ⟨rfl,λy g e=>(n.1 ⟨y,g,e⟩) q⟩
 have:=go L [] [] ⟨List.Pairwise.nil,λx=>⟨nofun,λk=>by unfold gV at k;simp at k⟩⟩;simpa using this
theorem JRh(l:List α)(x:α):gV κ (ST (leK κ) l) x↔gV κ l x:=by unfold gV;rw[Mv]
end
section
def kF(f:aB):Int:=f.2.1
theorem Aa{α:Type}(κ:α->Int): ∀{l:List α} {p z y:α},(p::l).getLast?=Z z->lL κ p (l++[y])=if κ y=κ z then lL κ p l else lL κ p l++[y]
 |[],p,z,y,h=>by simp at h;subst h;simp[lL]
 |x::l,p,z,y,h=>by
  have e:(x::l).getLast?=Z z:=by simpa[List.getLast?_cons_cons]using h
  have ih:=Aa κ (l:=l) (p:=x) (y:=y) e;rw[nP];unfold lL;rw[ih];split<;>split<;>simp_all
theorem R6{α:Type}(κ:α->Int){l:List α}{z y:α}(h:l.getLast?=Z z):rH κ (l++[y])=if κ y=κ z then rH κ l else rH κ l++[y]:=by
 cases l with
 |nil=>cases h
 |cons p l=>
  rw[nP];show p::lL κ p (l++[y])=if κ y=κ z then p::lL κ p l else p::lL κ p l++[y]
  rw[Aa κ h];split<;>rfl
theorem VP{α:Type}{l:List α}{j:Nat}{x:α}(h:l[j]?=Z x):l.take (j+1)=l.take j++[x]:=by rw[_Y,h];rfl
theorem Ak{α:Type}{l:List α}{j:Nat}{x:α}(h:l[j]?=Z x):(l.take (j+1)).getLast?=Z x:=by rw[VP h,List.getLast?_concat]
theorem JUH{l:List aB}(hl:l.length<=65536):_n (jg l) λy=>y.2=rH kF l:=by
 unfold jg;have B:J0 l=(l.length:Int):=rfl;refine .l (λc=>.s ?_) λc=>?_
 match l,c,B with
 |[],_,_=>rfl
 |[x],_,_=>rfl
 |x::y::t,c,B=>simp only[rC]at B;omega
 have get: ∀{j:Nat},j<l.length-> ∃x,l[j]?=Z x:=λh=>⟨_,aZ h⟩;refine Jn (τ:=Nat) (λk=>((k:Int),l)) (λk=>1<=k/\k<=l.length/\rH kF (l.take k)=l.take k) (λk=>(l.length:Int)-k) ?_ 1 rfl ⟨zQ0 _,by omega,by
  match l,c,B with
  |[],c,B=>simp at B;omega
  |x::t,_,_=>rfl⟩
 rintro k ⟨h1,h2,H⟩;unfold To;dsimp only;refine .l (λC=>?_) λC=>.s ?_;have C:k<l.length:=by omega
 obtain⟨x,A⟩:=get C;obtain⟨z,D⟩:=get (j:=k-1) oo;have _e:Jm I (k:Int) 1=((k-1:Nat):Int):=by have o:=bF (k:Int) 1;omega
 have n:=R6 kF (y:=x) (show(l.take k).getLast?=Z z by have:=Ak D;rwa[show k-1+1=k by omega]at this);rw[<-VP A,H]at n;rw[_e];refine .w (vJ C) (.w (w:=x) (by simpa[aV]using A) (.w (vJ (show k-1<l.length by omega)) (.w (w:=z) (by simpa[aV]using D) ?_)));refine .w (w:=aL x.2.1 z.2.1) rfl (.e (λd=>.w (Pq C) ?_) λd=>.s ⟨k+1,by rw[xV oo],⟨by omega,by omega,?_⟩,by omega,by omega⟩);rw[if_pos (show kF x=kF z from d)]at n;show _n (J5 yn (((k:Nat):Int),((k:Nat):Int),((1:Nat):Int),l)) _;refine Jn (τ:=Nat×Nat×List aB) (λq=>((q.1:Int),((k:Nat):Int),(q.2.1:Int),q.2.2)) (λq=>q.2.2.length=l.length/\1<=q.2.1/\k+q.2.1<=l.length/\q.1<k+q.2.1/\q.2.2.drop (k+q.2.1-1)=l.drop (k+q.2.1-1)/\q.2.2.take q.1=rH kF (l.take (k+q.2.1))) (λq=>(l.length:Int)-q.2.1) ?_ (k,1,l) rfl ⟨rfl,zQ0 _,by show k+1<=l.length;omega,by show k<k+1;omega,rfl,n.symm⟩;rintro⟨m,j,g⟩ ⟨G,P,_c,N,F,E⟩;dsimp only at G P _c N F E;unfold yn;dsimp only;rw[show(((k:Nat):Int)).toNat=k from rfl,show(((j:Nat):Int)).toNat=j from rfl,show Nat.sub (_H g) k=g.length-k from rfl];refine .l (λv=>?_) λv=>?_;have v:j<g.length-k:=(by have v:(j:Int)<((g.length-k:Nat):Int):=v;omega);have ge: ∀i,k+j-1<=i->g[i]?=l[i]?:=λi hi=>by have a:=eo (xs:=g) (i:=k+j-1) (j:=i-(k+j-1));have b:=eo (xs:=l) (i:=k+j-1) (j:=i-(k+j-1));rw[F,show k+j-1+(i-(k+j-1))=i by omega]at a;rw[show k+j-1+(i-(k+j-1))=i by omega]at b;rw[<-a,b]
 obtain⟨x,A⟩:=get (j:=k+j) oo;obtain⟨z,D⟩:=get (j:=k+(j-1)) oo;have _e:Jm I (j:Int) 1=((j-1:Nat):Int):=by have o:=bF (j:Int) 1;omega
 have _d:g[k+j]?=Z x:=by rw[ge _ oo,A]
 have L:g[k+(j-1)]?=Z z:=by rw[ge _ oo,D]
 have n:=R6 kF (y:=x) (show(l.take (k+j)).getLast?=Z z by have:=Ak D;rwa[show k+(j-1)+1=k+j by omega]at this);rw[<-VP A]at n;have K: ∀c:List aB,c.drop (k+j-1)=l.drop (k+j-1)->c.drop (k+(j+1)-1)=l.drop (k+(j+1)-1):=λc hc=>by have:=congrArg (List.drop 1) hc;rwa[sX,sX,show k+j-1+1=k+(j+1)-1 by omega]at this
 rw[_e];refine .w (vJ v) (.w (w:=x) _d (.w (vJ (show j-1<g.length-k by omega)) (.w (w:=z) L ?_)));refine .w (w:=aL x.2.1 z.2.1) rfl (.n (λd=>?_) λd=>.s ⟨(m,j+1,g),by rw[xV oo];rfl,⟨G,by show 1<=j+1;omega,by show k+(j+1)<=l.length;omega,by show m<k+(j+1);omega,K g F,?_⟩,by show(l.length:Int)-((j+1:Nat):Int)<(l.length:Int)-(j:Int);omega,by show(0:Int)<=(l.length:Int)-(j:Int);omega⟩);have d: ¬kF x=kF z:=λe=>by rw[show aL x.2.1 z.2.1=O from eM.2 e]at d;cases d
 rw[if_neg d]at n;obtain⟨w,M⟩: ∃w,g[m]?=Z w:=⟨_,aZ oo⟩;refine .w (vJ v) (.w (w:=x) _d (.w (vJ (show m<g.length by omega)) (.w (w:=w) M (.s ⟨(m+1,j+1,g.set m x),by rw[xV oo,xV oo];rfl,⟨by simpa using G,by show 1<=j+1;omega,by show k+(j+1)<=l.length;omega,by show m+1<k+(j+1);omega,?_,?_⟩,by show(l.length:Int)-((j+1:Nat):Int)<(l.length:Int)-(j:Int);omega,by show(0:Int)<=(l.length:Int)-(j:Int);omega⟩))));dsimp only;rw[List.drop_set_of_lt oo];exact K g F;dsimp only;rw[show k+(j+1)=k+j+1 by omega,n,<-E,_Y,List.take_set_of_le (zQ0 _),sW oo];rfl;dsimp only;rw[if_pos (show kF x=kF z from eM.1 d)]at n;rw[show k+(j+1)=k+j+1 by omega,n,E];have v: ¬j<g.length-k:=λh=>v (by
  show(j:Int)<((g.length-k:Nat):Int);omega)
 refine .map (Pb (t:=JN) (Q:=xF (σ:=Int×List aB) λy:List aB×List aB=>y.2=rH kF l) (show m<g.length by omega) λc hc=>.s ?_) λr h=>?_;show List.take m c=_;refine(hc.trans E).trans ?_;rw[List.take_of_length_le oo];cases r with
 |inl z=>exact h.elim
 |inr y=>exact h
 rw[if_neg (show¬kF x=kF z from d)]at n;rw[n,VP A];show l=_;rw[List.take_of_length_le oo]at H;exact H.symm
end
section
def jN{ρ:Type}(g e:Option ρ)(Q:ρ->Prop):Prop:=_n g λy=>_n e λz=>z=y/\Q y
theorem jN.s{ρ:Type}{Q:ρ->Prop}{y:ρ}(h:Q y):jN (Z y) (Z y) Q:=_n.s (_n.s ⟨rfl,h⟩)
theorem jN.b{α ρ:Type}{P:α->Prop}{Q:ρ->Prop}{o:Option α}{f g:α->Option ρ}(h:_n o P)(k: ∀y,P y->jN (f y) (g y) Q):jN (o.bind f) (o.bind g) Q:=by obtain⟨y,rfl,h⟩:=h;exact k y h
theorem jN.w{α ρ:Type}{Q:ρ->Prop}{o:Option α}{w:α}{f g:α->Option ρ}(h:o=Option.some w)(k:jN (f w) (g w) Q):jN (o.bind f) (o.bind g) Q:=by subst h;exact k
theorem jN.i{ρ:Type}{Q:ρ->Prop}{c:Prop} [Decidable c]{a b e g:Option ρ}(h1:c->jN a e Q)(h2: ¬c->jN b g Q):jN (if c then a else b) (if c then e else g) Q:=by
 by_cases d:c;rw[if_pos d,if_pos d];exact h1 d;rw[if_neg d,if_neg d];exact h2 d
theorem jN.ex{ρ:Type}{Q:ρ->Prop}{g e:Option ρ}(h:jN g e Q): ∃y,g=Option.some y/\e=Option.some y/\Q y:=by obtain⟨y,k,z,n,rfl,j⟩:=h;exact⟨_,k,n,j⟩
theorem R4{v w ρ α β:Type}{L1:v->Option (v⊕ρ)}{L2:w->Option (w⊕ρ)}{Q:ρ->Prop}{l:List α}(e1:Int->β->v)(e2:Int->β->w)(P:List α->β->Prop)
  (hs: ∀(pre:List α) (x:α) (t:List α) (b:β),l=pre++x::t->P pre b->_n (L1 (e1 (J0 pre) b)) λg=>_n (L2 (e2 (J0 pre) b)) λn=>match g,n with
   | .inl z1,.inl z2=> ∃q,z1=e1 (J0 (pre++[x])) q/\z2=e2 (J0 (pre++[x])) q/\P (pre++[x]) q
   | .inr j,.inr o=>o=j/\Q j
   |_,_=>False)
  (he: ∀b,P l b->_n (L1 (e1 (J0 l) b)) λg=>_n (L2 (e2 (J0 l) b)) λn=>match g,n with
   | .inr j,.inr o=>o=j/\Q j
   |_,_=>False):
  ∀(t pre:List α) (b:β),l=pre++t->P pre b->jN (J5 L1 (e1 (J0 pre) b)) (J5 L2 (e2 (J0 pre) b)) Q
 |[],pre,b,r,z=>by
  rw[gH]at r;subst r;refine _n.step ((he b z).mono λg h=>?_);obtain⟨n,e,h⟩:=h
  match g,n,h with
  | .inr j,.inr o,h=>exact _n.step (L:=L2) ⟨.inr o,e,h⟩
 |x::t,pre,b,r,z=>by
  refine _n.step ((hs pre x t b r z).mono λg h=>?_);obtain⟨n,e,h⟩:=h
  match g,n,h with
  | .inl z1,.inl z2,h=>obtain⟨q,rfl,rfl,A⟩:=h;show _n _ _;refine(R4 e1 e2 P hs he t (pre++[x]) q (by rw[r];simp) A).mono λy k=>?_;exact _n.step (L:=L2) ⟨_,e,k⟩
  | .inr j,.inr o,h=>exact _n.step (L:=L2) ⟨.inr o,e,h⟩
end
section
variable {a:J4}
theorem JTx(ok:hC a){i j x y:Int}(h:i<j)(hx:idx a.1 i=Z x)(hy:idx a.1 j=Z y):x<y:=by obtain⟨n,hx⟩:=dG hx;obtain⟨_,hy⟩:=dG hy;obtain⟨e,k⟩:=cY.1 hx;obtain⟨g,o⟩:=cY.1 hy;have:=_O.1 ok.asc i.toNat j.toNat e g oo;omega
theorem Sb(ok:hC a){i lo hi:Int}(h0:0<=i)(h1:i<J0 a.1)(h:iW (a,i)=Z (lo,hi)):idx a.1 i=Z lo/\((i+1<J0 a.1/\idx a.1 (i+1)=Z (hi+1))\/(i+1=J0 a.1/\hi+1=a.2.1)):=by
 have n:=ok.len.2;have k:=ok.pages;have j:J1 I i 1=i+1:=by have o:=Jl i 1;omega
 have g:_t (iW (a,i)) λy=>idx a.1 i=Z y.1/\((i+1<J0 a.1/\idx a.1 (i+1)=Z (y.2+1))\/(i+1=J0 a.1/\y.2+1=a.2.1)):=(by unfold iW;dsimp only;rw[j];refine .l (λc=>.b λb hb=>.b λl e=>.s ⟨e,.inl ⟨c,?_⟩⟩) λc=>.b λl e=>.s ⟨e,.inr ⟨by omega,?_⟩⟩;have:=SW ok hb;have o:=bF b 1;rw[hb];exact congrArg Z (by dsimp only;omega);have o:=bF a.2.1 1;dsimp only;omega);exact g _ h
end
section
def nX(n:Int)(e:aA):Bool:=decide ((e.2.1=1\/e.2.1=2)/\n<=bI e)
theorem JU3(e:aA)(a:J4):LC (e,a)=Z (nX a.2.1 e,a):=by
 have g:_n (LC (e,a)) λy=>y=(nX a.2.1 e,a):=by
  unfold LC Ju;dsimp only;refine .h (λc=>?_) λc=>.s (by unfold nX bI;rw[decide_eq_false (λk=>c k.2)]);refine .b (P:=λy=>y=decide (e.2.1=1\/e.2.1=2)) (.p (λd=>.s ?_) λd=>.s ?_) λy h=>.s ?_;by_cases k:e.2.1=2;rw[eM.2 k,decide_eq_true (.inr k)];rw[decide_eq_false (λh=>h.elim d k),Bool.eq_false_iff];exact λh=>k (eM.1 h);exact(decide_eq_true (.inl d)).symm;subst h;unfold nX bI
  congr 1
  exact decide_eq_decide.2 ⟨λk=>⟨k,c⟩,And.left⟩
 obtain⟨y,e,rfl⟩:=g;exact e
theorem JTB{a:J4}{es:List aA}(hl:J0 es<=4096): ∃b,jl (es,a)=Z (b,a)/\(b=O↔ ∃e∈es,nX a.2.1 e=O):=by
 have j:_n (ji (es,a)) λy=> ∃i,y=(i,a)/\tg (nX a.2.1) es i:=by
  unfold ji;refine P7 (nX a.2.1) (l:=es) (λi=>(es,J0 es,i,a)) (λi=>(i,a)) (λpre x t g=>?_) ?_;unfold ym;dsimp only;rw[if_pos (Jp.2 (cL g)),dB g (n:=4096) hl,cW g];show(LC (x,a)).bind _=_;rw[JU3];show(if nX a.2.1 x=O then _ else _)=_;split<;>rfl
  unfold ym;dsimp only;rw[if_neg (by rw[Jp];exact Int.lt_irrefl _)]
 obtain⟨y,e,i,rfl,h⟩:=j;unfold jl;rw[e];refine⟨_,rfl,?_⟩;rw[jF];rcases h with⟨h1,h2⟩|⟨pre,x,t,h1,h2,o,_⟩;refine⟨λk=>by dsimp only at k;omega,fun⟨e,q,k⟩=>?_⟩;rw[h2 e q]at k;cases k;have:=Ja (l:=pre);exact⟨λ_=>⟨x,by rw[h1];simp,o⟩,λ_=>by dsimp only;omega⟩
theorem JQh{es:List aA}{f t lo hi:Int}(hv: ∀x∈es,JJ x=Z O)(hf:Ty.fit 16384 1073741824 (.l J3) es)(hl:J0 es<=4096)(n:tF (f,t,lo,hi,0,[]))
  (hd:es.Pairwise λx y=>x.1≠y.1): ∃m,OT (es,f,t,lo,hi,0)=Z m/\zQ (es,f,t,lo,hi,0)=Z m/\(m.2=0->eE m.1/\fT m.1):=by
 have j:=n;obtain⟨C,D,r,w,q,A,_⟩:=j;dsimp only at C D r w q A;have e:fT (f,t,lo,hi,0,[]):=⟨J2.2 (show -9223372036854775808<=f/\f<=9223372036854775807 by omega),J2.2 (show -9223372036854775808<=t/\t<=9223372036854775807 by omega),J2.2 (show -9223372036854775808<=lo/\lo<=9223372036854775807 by omega),J2.2 (show -9223372036854775808<=hi/\hi<=9223372036854775807 by omega),kP I 0,show J0 ([]:List aA)<=16384 by decide,nofun⟩;have g: ∀x∈es,Ty.fit 16384 9223372036854775807 J3 x:=λx h=>Ty.fit.up _k _k (hf.2 x h);obtain⟨v,ev,rfl⟩:=Cp n;obtain⟨m,E,h1⟩:=JNV (f:=f) (t:=t) (lo:=lo) (hi:=hi) (lv:=0) (λx h=>(SG x).trans (hv x h)) g oo ev hd e;obtain⟨z,o,_⟩:=Cl (B:=16384) (S:=1073741824) (X:=(es,f,t,lo,hi,0)) ⟨hf,e.1,e.2.1,e.2.2.1,e.2.2.2.1,kP I 0⟩;have h2:=JPN hv oo ev hd o;rw[h1]at h2;cases h2;refine⟨m,E,o,λk=>?_⟩;unfold mkO at h1;split at h1;cases h1;cases k;rename_i c;cases e3:fA (f,t,lo,hi,0,sel es f t lo hi)with
 |none=>rw[e3]at h1;cases h1
 |some v=>
  rw[e3]at h1;cases v with
  |true=>cases h1;exact⟨.of e3,e.1,e.2.1,e.2.2.1,e.2.2.2.1,e.2.2.2.2.1,show J0 (sel es f t lo hi)<=16384 by omega,λx h=>g x (((Nh hd f t lo hi).2.1 x).1 h).1⟩
  |false=>cases h1;cases k
theorem HZ(a:J4):kE a=jY a:=by obtain⟨y,e,h1⟩:=e8 a;obtain⟨z,g,h2⟩:=pT a;rw[e,g];cases y<;>cases z<;>simp_all
theorem JM6{a:J4}(ok:hC a){i lo hi f t:Int}(h0:0<=i)(h1:i<J0 a.1)(h:iW (a,i)=Z (lo,hi))(k:1<=f)(n:f<=t)(o:t<=1099511627776):tF (f,t,lo,hi,0,[]):=by
 have e:=Sb ok h0 h1 h;have g:=SW ok e.1;have j:lo<=hi/\hi<64:=(by rcases e.2 with⟨_,q⟩|⟨r,v⟩;have:=JTx ok (show i<i+1 by omega) e.1 q;have:=SW ok q;omega;have:=ok.last lo (by rw[show J0 a.1-1=i by omega];exact e.1);have:=ok.pages;omega);exact⟨k,n,o,g.1,j.1,j.2,(show(0:Int)<=0 by decide),(show(0:Int)<=8 by decide)⟩
theorem Kg{a:J4}{l:Jy}{es:List aA}{h to:Int}{Q:eS->Prop}(hl:J0 es<=4096)(h1:(∃e∈es,nX a.2.1 e=O)->Q (([],0,[],0,0),1))
  (h2:(¬∃e∈es,nX a.2.1 e=O)->_n ((bG 32 a.2.2.1).bind λy=>J5 wW (h,to,es,0,a,l,[],[],0,0,0,[],a.1,a.2.1,a.2.2.2.1,a.2.2.2.2,y)) Q):
  _n (J5 KU (h,to,es,0,a,l,[],[],0,0,0)) Q:=by
 refine dZ (l:=es) (λi (_:Unit)=>(h,to,es,i,a,l,[],[],0,0,0)) (λpre _=> ∀e∈pre,¬nX a.2.1 e=O) (λpre x t _ g v=>?_) (λ_ v=>?_) es [] () _ rfl rfl nofun;have j:=cW g;have A:x∈es:=by rw[g];simp
 have nx: ¬nX a.2.1 x=O-> ∀e∈pre++[x],¬nX a.2.1 e=O:=λk e w=>by
  rcases zQ9.1 w with q|q;exact v e q;rw[fR.1 q];exact k
 have bd:(x.2.1=1\/x.2.1=2)->a.2.1<=bI x->Q (([],0,[],0,0),1):=λz B=>h1 ⟨x,A,decide_eq_true ⟨z,B⟩⟩;unfold KU;dsimp only;rw[if_pos (Jp.2 (cL g)),dB g (n:=4096) hl];exact .w j (.p (λr=>.w j (.e (λo=>.w j (.h (λd=>.s (bd (.inr o) d)) λd=>.s ⟨(),rfl,nx λk=>d (of_decide_eq_true k).2⟩)) λo=>.s ⟨(),rfl,nx λk=>(of_decide_eq_true k).1.elim r o⟩)) λr=>.w j (.h (λd=>.s (bd (.inl r) d)) λd=>.s ⟨(),rfl,nx λk=>d (of_decide_eq_true k).2⟩));unfold KU;dsimp only;rw[if_neg (by rw[Jp];omega)];exact .endq (h2 fun⟨e,w,k⟩=>v e w k)
def FV(a:J4):Prop:=J0 a.1<=70/\J0 a.2.2.1<=600
theorem JR9{a:J4}{l:Jy}{n:Int}(hl:Ty.fit 16384 1073741824 JG l):jN (wP (a,l,n)) (oQ (a,l,n)) λy=>FV y.1:=by
 have zero:FV ([],0,[],0,0):=⟨by decide,by decide⟩;unfold wP oQ;rw[HZ,JRo];refine .b (pT a) λS h2=>.i (λ_=>.s zero) λc=>?_;have ok:=h2.1 (by cases S<;>simp_all [Jg]);refine .b (oR hl)._C λE T=>.i (λ_=>.s zero) λc3=>.i (λz=>.i (λ_=>.s zero) λC=>?_) λ_=>.s zero;have W:E=O:=by cases E<;>simp_all [Jg]
 subst W;obtain⟨lv,_d⟩:=pv hl T.2;dsimp only at z C lv⊢;have z: ¬n<1:=λk=>by rw[Jp.2 k]at z;cases z
 have C: ¬4096<n:=λk=>C (fO.2 k);have nx:=ok.next;have m1:=vW a.2.2.2.1 l.1;have o1:=Jl (bJ a.2.2.2.1 l.1) n;have o2:=bF (J1 I (bJ a.2.2.2.1 l.1) n) 1;have m2:=IG (Jm I (J1 I (bJ a.2.2.2.1 l.1) n) 1) l.2.2;generalize bJ a.2.2.2.1 l.1=o at*;generalize fF (Jm I (J1 I o n) 1) l.2.2=to at*;have bl:=ok.len;have fl:=ok.few;refine .i (λ_=>.s ⟨by show J0 a.1<=70;omega,by show J0 a.2.2.1<=600;omega⟩) λ_e=>.i (λB=>.i (λ_=>.s zero) λc8=>?_) λ_=>.s zero;have _e: ¬to<o:=λk=>_e (Jp.2 k);have o6:=Jl (J0 a.2.2.1) (J0 a.1);have fn:=Ja (l:=a.2.2.1);have B: ¬256<J1 I (J0 a.2.2.1) (J0 a.1):=λk=>by rw[fO.2 k]at B;cases B
 have o3:=bF o l.1;have o4:=bF to l.1;have o5:=Jl (Jm I to l.1) 1;obtain⟨es,K,v,_⟩:=MW (l:=l.2.1) (j:=Jm I o l.1) (k:=J1 I (Jm I to l.1) 1) oo oo oo;have N:Ty.fit 16384 1073741824 (.l J3) es:=by rw[v];exact ml (lh hl.2.1)
 have le:J0 es<=4096:=by rw[v];have:=lv.2.2.1;unfold J0 at*;simp;omega
 have w: ∀(j:Nat) e,es[j]?=Z e->e.1=o+j/\JJ e=Z O:=λj e r=>by
  rw[v,PJ]at r;split at r;rw[eo]at r;have:=_d _ e r;exact⟨by omega,this.2⟩;cases r
 have _a: ∀x∈es,JJ x=Z O:=λx U=>by obtain⟨j,D⟩:=jK U;exact(w j x D).2
 have hd:es.Pairwise λx y=>x.1≠y.1:=_O.2 λi j hi D hij e=>by have h1:=(w i _ (aZ hi)).1;have h2:=(w j _ (aZ D)).1;omega
 have top:to<=1099511627776:=by obtain⟨e,r⟩: ∃e,l.2.1[(to-l.1).toNat]?=Z e:=⟨_,aZ (by have:=lv;unfold J0 at*;omega)⟩;have h1:=_d _ e r;have:=(qN (hl.2.1.2 e (zQ5 r)) h1.2 rfl).1.2.1;omega
 refine .w K ?_;obtain⟨b,_c,hb⟩:=JTB (a:=a) le;show _n _ _;refine .w _c (.i (λc=>.s (Kg le (λ_=>⟨rfl,zero⟩) λk=>absurd (hb.1 c) k)) λc=>?_);refine .w (show yf a.2.2.1=Z a.2.2.1 from jQ oo _k) ?_;dsimp only;have H:=R4 (L1:=ia) (L2:=wW) (Q:=λy=>FV y.1) (l:=a.1) (λi (b:Int×List aB)=>(o,to,es,J0 a.1,i,a,l,[],[],0,0,0,[],a.1,a.2.1,a.2.2.2.1,b.1,b.2)) (λi (b:Int×List aB)=>(o,to,es,i,a,l,[],[],0,0,0,[],a.1,a.2.1,a.2.2.2.1,b.1,b.2))
  (λpre b=>J0 b.2=J0 a.2.2.1+J0 pre) (λpre x t b g hp=>?_) (λb hp=>?_) a.1 [] (a.2.2.2.2,a.2.2.1) rfl (by rw[jU];show J0 a.2.2.1=_;omega)
 refine _n.mono H λy h=>Kg le (λk=>absurd (hb.2 k) (by rw[show b=J from c];nofun)) λ_=>.w (jQ oo _k) h;have lt:=cL g;have np:=Ja (l:=pre);obtain⟨G,q,a1⟩:=m5 ok np lt;obtain⟨lo,hi⟩:=G;have rg:=Sb ok np lt q;have P:=JM6 ok np lt q (show 1<=o by omega) (show o<=to by omega) top;obtain⟨m,V,M,_b⟩:=JQh _a N le P hd;unfold ia;dsimp only;rw[if_pos (Jp.2 lt),dB g (n:=16) bl.2,TN];refine .w q (.w V (.d (λk=>.s ?_) λk=>?_));unfold wW;dsimp only;rw[if_pos (Jp.2 lt)];exact .w q (.w M (.d (λ_=>.s ⟨rfl,zero⟩) λd=>absurd d k));obtain⟨R,F⟩:=_b k;obtain⟨s,A,_⟩:=xc R F;have L:Jr 32 b.2 [(1,b.1,s)]=Z (b.2++[(1,b.1,s)]):=eT (by rw[cA];omega) _k;refine .w ((JRj F).trans A) (.d (λk=>absurd rfl k) λ_=>.w L (.s ?_));unfold wW;dsimp only;rw[if_pos (Jp.2 lt),dB g (n:=16) bl.2];refine .w q (.w M (.d (λd=>absurd k d) λ_=>.w A (.w L (.s ⟨(J1 I b.1 1,b.2++[(1,b.1,s)]),rfl,rfl,?_⟩))));show J0 (b.2++[(1,b.1,s)])=_;rw[cQ,cA,cQ,cA];omega;unfold ia wW;dsimp only;rw[if_neg (by rw[Jp];exact Int.lt_irrefl _),if_neg (by rw[Jp];exact Int.lt_irrefl _)];exact .s (.s ⟨rfl,by show J0 a.1<=70;omega,by show J0 b.2<=600;omega⟩)
end
section
theorem JNP(x:uj):RX x=oN x:=by
 obtain⟨l,m⟩:=x;unfold RX oN;dsimp only;split;rfl;refine IV (λs t=>s=(l,m,J0 l,t.2.2)/\t.1=l/\t.2.1=m) ?_ ⟨rfl,rfl,rfl⟩;rintro s ⟨e,g,i⟩ ⟨rfl,h1,h2⟩;dsimp only at h1 h2;subst h1 h2;unfold Il ZI;dsimp only;split;cases idx e i with
 |none=>exact .inl ⟨rfl,rfl⟩
 |some a=>
  cases idx g i with
  |none=>exact .inl ⟨rfl,rfl⟩
  |some b=>
   dsimp only[_Q];split;exact .inr (.inl ⟨_,rfl,rfl⟩);exact .inr (.inr ⟨_,_,rfl,rfl,rfl,rfl,rfl⟩)
 exact .inr (.inl ⟨_,rfl,rfl⟩)
theorem JN1(x:GT):SB x=KV x:=by
 obtain⟨l,m⟩:=x;unfold SB KV;dsimp only;split;rfl;refine IV (λs t=>s=(l,m,J0 l,t.2.2)/\t.1=l/\t.2.1=m) ?_ ⟨rfl,rfl,rfl⟩;rintro s ⟨e,g,i⟩ ⟨rfl,h1,h2⟩;dsimp only at h1 h2;subst h1 h2;unfold Tb ig;dsimp only;split;cases idx e i with
 |none=>exact .inl ⟨rfl,rfl⟩
 |some a=>
  cases idx g i with
  |none=>exact .inl ⟨rfl,rfl⟩
  |some b=>
   dsimp only[_Q];split;exact .inr (.inl ⟨_,rfl,rfl⟩);exact .inr (.inr ⟨_,_,rfl,rfl,rfl,rfl,rfl⟩)
 exact .inr (.inl ⟨_,rfl,rfl⟩)
theorem Oy{α:Type}{l m pre t:List α}{x:α}(e:l=pre++x::t)(h:J0 l=J0 m): ∃y,idx m (J0 pre)=Z y:=by have:=cL e;have n:=Ja (l:=pre);obtain⟨y,e,_⟩:=eA (l:=m) n oo;exact⟨y,e⟩
theorem k8{l m:_F}(hl:J0 l<=65536):_n (oN (l,m)) λy=>l=m->y=O:=by
 unfold oN;refine .d (λc=>.s λe=>absurd (by rw[e]) c) λc=>dZ (l:=l) (λi (_:Unit)=>(l,m,i)) (λ_ _=>True) (λpre x t _ e _=>?_) (λ_ _=>?_) l [] () _ rfl rfl trivial;obtain⟨y,g⟩:=Oy e c;unfold ZI;dsimp only;rw[if_pos (Jp.2 (cL e)),dB e (n:=65536) hl];refine .w (cW e) (.w g (.d (λd=>.s λk=>?_) λ_=>.s ⟨(),rfl,_g⟩));rw[<-k,cW e]at g;injection g with g;exact absurd g d;unfold ZI;dsimp only;rw[if_neg (by rw[Jp];omega)];exact .s λ_=>rfl
theorem JMZ{l m:List aB}(hl:J0 l<=65536):_n (KV (l,m)) λy=>l=m->y=O:=by
 unfold KV;refine .d (λc=>.s λe=>absurd (by rw[e]) c) λc=>dZ (l:=l) (λi (_:Unit)=>(l,m,i)) (λ_ _=>True) (λpre x t _ e _=>?_) (λ_ _=>?_) l [] () _ rfl rfl trivial;obtain⟨y,g⟩:=Oy e c;unfold ig;dsimp only;rw[if_pos (Jp.2 (cL e)),dB e (n:=65536) hl];refine .w (cW e) (.w g (.n (λd=>.s λk=>?_) λ_=>.s ⟨(),rfl,_g⟩));rw[<-k,cW e]at g;cases g;exact Bool.noConfusion (d.symm.trans (Rf (t:=JN) x));unfold ig;dsimp only;rw[if_neg (by rw[Jp];omega)];exact .s λ_=>rfl
theorem OC{a b:J4}(ha:FV a): ∃y,mD (a,b)=Z y/\gR (a,b)=Z y/\(a=b->y=O):=by
 obtain⟨u,g,h1⟩:=k8 (l:=a.1) (m:=b.1) (by have:=ha.1;omega);obtain⟨v,h,h2⟩:=JMZ (l:=a.2.2.1) (m:=b.2.2.1) (by have:=ha.2;omega);have j:RX (a.1,b.1)=Z u:=(JNP _).trans g;have k:SB (a.2.2.1,b.2.2.1)=Z v:=(JN1 _).trans h;refine⟨u&&aL a.2.1 b.2.1&&v&&aL a.2.2.2.1 b.2.2.2.1&&aL a.2.2.2.2 b.2.2.2.2,?_,?_,λe=>?_⟩;unfold mD;dsimp only;rw[j,k];cases u<;>cases v<;>cases aL a.2.1 b.2.1<;>cases aL a.2.2.2.1 b.2.2.2.1<;>cases aL a.2.2.2.2 b.2.2.2.2<;>rfl
 unfold gR;dsimp only;rw[g,h];cases u<;>cases v<;>cases aL a.2.1 b.2.1<;>cases aL a.2.2.2.1 b.2.2.2.1<;>cases aL a.2.2.2.2 b.2.2.2.2<;>rfl
 subst e;rw[h1 rfl,h2 rfl,eM.2 rfl,eM.2 rfl,eM.2 rfl];rfl
theorem JSs{i j:Int}(h1:0<=i)(h2:0<=j)(h3:i+j<=9223372036854775807):_n (iA .u64 (aT .u64 (J1 I i j)) 1) λr=>aT I r=(i+j)/2:=by
 refine(L7 _k).mono λr e=>?_;subst e;have n:=Jl i j;have o:aT .u64 (J1 I i j)=J1 I i j%18446744073709551616:=rfl;have h:aT .u64 (J1 I i j)=i+j:=by omega
 rw[h];have g:(i+j).fdiv (2^(min (1:Int).toNat IntKind.u64.bits))=(i+j)/2:=Int.fdiv_eq_ediv_of_nonneg _ _k;rw[g];have k:=QN ((i+j)/2);omega
def PtI(l:_F)(x j:Int):Prop:=0<=j/\j<J0 l/\(∀v,idx l j=Z v->v<=x)/\ ∀w,idx l (j+1)=Z w->x<w
theorem TP{l:_F}(h:Asc l){i j v w:Int}(hij:i<j)(hi:idx l i=Z v)(hj:idx l j=Z w):v<w:=by obtain⟨k,hi⟩:=dG hi;obtain⟨n,hj⟩:=dG hj;obtain⟨e,g⟩:=cY.1 hi;obtain⟨b1,b2⟩:=cY.1 hj;rw[<-g,<-b2];exact _O.1 h _ _ e b1 oo
theorem PtI.uniq{l:_F}{x i j:Int}(h:Asc l)(a:PtI l x i)(b:PtI l x j):i=j:=by
 have go: ∀{i j:Int},PtI l x i->PtI l x j-> ¬i<j:=fun{i j} a b c=>by
  obtain⟨v,e,_⟩:=eA (l:=l) (i:=i+1) (by have:=a.1;omega) (by have:=b.2.1;omega);obtain⟨w,g,_⟩:=eA (l:=l) (i:=j) b.1 b.2.1;have h1:=a.2.2.2 v e;have h2:=b.2.2.1 w g;by_cases d:i+1=j;rw[d,g]at e;injection e with e;omega;have:=TP h (show i+1<j by omega) e g;omega
 have:=go a b;have:=go b a;omega
theorem JV5{l:_F}{x:Int}(ha:Asc l)(hl:J0 l<=70)(h0:idx l 0=Z 0)(hx:0<=x):_n (SC (l,x)) λy=>PtI l x (if y.2=O then y.1 else y.1-1):=by
 have nn:=Ja (l:=l);unfold SC;refine Jn (τ:=Jq) (λq=>(l,x,J0 l,q.1,q.2)) (λq=>(0<=q.1/\q.1<=q.2/\q.2<=J0 l)/\(∀k v,k<q.1->idx l k=Z v->v<x)/\ ∀k v,q.2<=k->idx l k=Z v->x<=v) (λq=>q.2-q.1) ?_ (0,J0 l) rfl ⟨⟨bA _,nn,bA _⟩,λk v h e=>by have:=(dG e).1;omega,λk v h e=>by have:=jO (dG e).2;have:=(dG e).1;omega⟩;rintro⟨i,j⟩ ⟨⟨h1,h2,z⟩,n,o⟩;dsimp only at h1 h2 z n o;unfold SA;dsimp only;refine .l (λc=>.b (JSs h1 oo oo) λD B=>?_) λc=>.inr ?_;rw[B];have G:i<=(i+j)/2:=by omega
 have F:(i+j)/2<j:=by omega
 obtain⟨v,ev,_⟩:=eA (l:=l) (i:=(i+j)/2) oo oo;have E:=Jl ((i+j)/2) 1;have g:ZG (v,x)=Z (aK v x):=by unfold ZG nJ;dsimp only[_Q];rw[if_neg (by rw[eF];exact λk=>k rfl)]
 refine .w ev (.w g (.l (λd=>.s ⟨(J1 I ((i+j)/2) 1,j),rfl,⟨⟨by dsimp only;omega,by dsimp only;omega,z⟩,λk w hk e=>?_,o⟩,by dsimp only;omega,by omega⟩) λd=>.s ⟨(i,(i+j)/2),rfl,⟨⟨h1,by dsimp only;omega,by dsimp only;omega⟩,n,λk w hk e=>?_⟩,by dsimp only;omega,by omega⟩));dsimp only at hk;by_cases q:k=(i+j)/2;rw[q,ev]at e;injection e with e;omega;have:=TP ha (show k<(i+j)/2 by omega) e ev;omega;dsimp only at hk;by_cases q:k=(i+j)/2;rw[q,ev]at e;injection e with e;omega;have:=TP ha (show(i+j)/2<k by omega) ev e;omega;have A:i=j:=by omega
 subst A;have i1:(∀v,idx l i=Z v->x<v)->1<=i:=λk=>by
  by_cases q:i=0;have:=k 0 (by rw[q];exact h0);omega;omega
 have Y:(∀v,idx l i=Z v->x<v)->PtI l x (i-1):=λk=>by have:=i1 k;exact⟨by omega,by omega,λv e=>Int.le_of_lt (n _ _ oo e),λw e=>k w (by rwa[show i-1+1=i by omega]at e)⟩
 refine .l (λd=>?_) λd=>.s ?_;obtain⟨v,ev,_⟩:=eA (l:=l) (i:=i) h1 d;have C:=o i v (bA _) ev;refine .w ev (.p (λf=>.w ev ?_) λf=>.s ?_);have r:nJ v=Z J:=(by unfold nJ;rw[show aN v v=J by rw[<-_W,eF];exact λk=>k rfl]);refine .w r (.s ?_);show PtI l x (i-1);exact Y λw e=>by rw[ev]at e;injection e with e;omega
 show PtI l x i;exact⟨h1,d,λw e=>by rw[ev]at e;injection e with e;omega,λw e=>by have:=TP ha (show i<i+1 by omega) ev e;omega⟩;show PtI l x (i-1);exact Y λw e=>by have:=jO (dG e).2;omega
theorem JOn{a:J4}{id:Int}: ∃y,pF (a,id)=Z y/\tT (a,id)=Z y:=by
 have A:jN (pF (a,id)) (tT (a,id)) λ_=>True:=by
  unfold pF tT;rw[HZ];refine .b (pT a) λC h2=>.i (λc=>.i (λr=>.i (λ_=>.s _g) λB=>?_) λ_=>.s _g) λ_=>.s _g;have ok:=h2.1 (by cases C<;>simp_all [Jg]);have r: ¬id<0:=λk=>by rw[Jp.2 k]at r;cases r
  have B: ¬a.2.1<=id:=λk=>B (jF.2 k);have bl:=ok.len;have res: ∀{j:Int},0<=j->j<J0 a.1->_n ((iW (a,j)).bind λy=>Z (y.1,y.2,O)) λ_=>True:=λD h1=>.b (m5 ok D h1) λ_ _=>.s _g;refine _n.mono (P:=λy:mJ=> ∃j,PtI a.1 id j/\(iW (a,j)).bind (λy=>Z (y.1,y.2,O))=Z y) ?_ λy F=>?_;refine .b (JV5 ok.asc (by dsimp only;omega) ok.zero (by dsimp only;omega)) λn g=>?_;have o:=bF n.1 1;refine .n (λd=>?_) λd=>?_;rw[d]at g;rw[if_neg _k]at g;have _e:0<=n.1-1:=g.1;have _d:n.1-1<J0 a.1:=g.2.1;rw[TN,show Jm I n.1 1=n.1-1 by omega];exact(res g.1 g.2.1)._C.mono λy k=>⟨_,g,k.2⟩;rw[d,if_pos rfl]at g;rw[TN];exact(res g.1 g.2.1)._C.mono λy k=>⟨_,g,k.2⟩;obtain⟨j,H,e⟩:=F;refine _n.mono (P:=λz=>z=y) ?_ λz h=>⟨h,_g⟩;refine Jn (τ:=Int) (λi=>(id,i,a)) (λi=>0<=i/\i<J0 a.1/\ ∀v,idx a.1 i=Z v->v<=id) (λi=>J0 a.1-i) ?_ 0 rfl ⟨bA _,by omega,λv k=>by rw[ok.zero]at k;injection k with k;omega⟩;rintro i ⟨x,i1,i2⟩;have o:=Jl i 1;have fin:PtI a.1 id i->_n ((iW (a,i)).bind λy=>Z (y.1,y.2,O)) λz=>z=y:=λh=>by rw[h.uniq ok.asc H];exact⟨y,e,rfl⟩
  unfold E5;dsimp only;rw[show J1 I i 1=i+1 by omega];refine .l (λc=>?_) λc=>.inr (fin ⟨x,i1,i2,λw k=>by have:=jO (dG k).2;have:=(dG k).1;omega⟩);obtain⟨w,q,_⟩:=eA (l:=a.1) (i:=i+1) oo c;refine .w q (.G (λd=>.s ⟨i+1,rfl,⟨by omega,c,λv k=>by rw[q]at k;injection k with k;omega⟩,by omega,by omega⟩) λd=>.inr (fin ⟨x,i1,i2,λv k=>by rw[q]at k;injection k with k;omega⟩))
 obtain⟨y,G,E,_⟩:=A.ex;exact⟨y,G,E⟩
theorem JRR{n:Int}{l:_F}(hl:J0 l<=70): ∃y,EX (n,l)=Z y/\DN (n,l)=Z y/\J0 y.1.1<=70/\y.1.2.2.1=[]:=by
 have bd: ∃b,wR (n,l)=Z b/\kE (l,n,[],1,1)=Z b:=by
  obtain⟨y,e,h⟩:=pT (l,n,[],1,1);rw[HZ,e];unfold jY at e;dsimp only at e;cases hb:wR (n,l)with
  |none=>rw[hb]at e;cases e
  |some b=>
   rw[hb]at e;cases b with
   |false=>cases e;exact⟨_,rfl,rfl⟩
   |true=>have k:_n (if Jg O=J then if aK 1 1=J then if aO 1 1099511627777=J then if aK 1 1=J then if aO 1 1073741825=J then if aO (J0 ([]:List aB)) 256=O then Z J else J5 cj (0,0,l,n,[],1,1)else Z J else Z J else Z J else Z J else Z J) λy=>y=O:=⟨O,dN (by rfl),rfl⟩;obtain⟨z,g,rfl⟩:=k;have:Z y=Z O:=e.symm.trans g;cases this;exact⟨_,rfl,rfl⟩
 obtain⟨b,g,q⟩:=bd;have o:iy l=Z l:=jQ oo _k;have j:bG 8 l=Z l:=jQ oo _k;unfold EX DN;dsimp only;rw[o,j,g];simp only[JF];rw[q];cases b with
 |false=>exact⟨_,rfl,rfl,by show J0 ([]:_F)<=70;decide,rfl⟩
 |true=>exact⟨_,rfl,rfl,hl,rfl⟩
end
section
structure nQ{α:Type}(n:Nat)(pt:α->Nat)(to:α->Int)(S:List α)(T:_F):Prop where
 len:T.length=n
 up: ∀x∈S,∀v,T[pt x]?=Z v->to x<=v
 at': ∀(p:Nat) v,T[p]?=Z v->v=0\/ ∃x∈S,pt x=p/\v=to x
 nn: ∀(p:Nat) v,T[p]?=Z v->0<=v
variable {α:Type} {n:Nat} {pt:α->Nat} {to:α->Int}
theorem nQ.zero:nQ n pt to ([]:List α) (_J n 0):=
 ⟨by simp,nofun,λp v h=>.inl (by
  have:=(cY.1 h).2;simp at this;exact this.symm),λp v h=>by
  have:=(cY.1 h).2;simp at this;omega⟩
theorem nQ.add{S:List α}{T:_F}(h:nQ n pt to S T){x:α}{S':List α}{v:Int}(hv:T[pt x]?=Z v)(j: ∀y,y∈S'↔y∈S\/y=x):nQ n pt to S' (T.set (pt x) (max v (to x))):=by
 have lt:=(cY.1 hv).1;refine⟨by rw[List.length_set];exact h.len,λy A w g=>?_,λp w g=>?_,λp w g=>?_⟩;by_cases c:pt y=pt x;rw[c,sW lt]at g;injection g with g;rcases(j y).1 A with k|rfl;have:=h.up y k v (by rw[c];exact hv);omega;omega;rw[AN (λe=>c e.symm)]at g;rcases(j y).1 A with k|rfl;exact h.up y k w g;exact absurd rfl c;by_cases c:p=pt x;subst c;rw[sW lt]at g;injection g with g;rcases Int.le_total v (to x)with k|k;exact .inr ⟨x,(j x).2 (.inr rfl),rfl,by omega⟩;rcases h.at' _ v hv with q|⟨y,o,r,z⟩;exact .inl oo;exact .inr ⟨y,(j y).2 (.inl o),r,by omega⟩;rw[AN (λe=>c e.symm)]at g;rcases h.at' p w g with q|⟨y,o,r,z⟩;exact .inl q;exact .inr ⟨y,(j y).2 (.inl o),r,z⟩;by_cases c:p=pt x;subst c;rw[sW lt]at g;injection g with g;have:=h.nn _ v hv;omega;rw[AN (λe=>c e.symm)]at g;exact h.nn p w g
theorem nQ.uniq{S S':List α}{T o:_F}(h:nQ n pt to S T)(g:nQ n pt to S' o)(e: ∀x,x∈S↔x∈S'):T=o:=by
 refine zQ6 λp=>?_;by_cases c:p<n;obtain⟨v,k⟩: ∃v,T[p]?=Z v:=⟨_,aZ (by rw[h.len];exact c)⟩;obtain⟨w,j⟩: ∃w,o[p]?=Z w:=⟨_,aZ (by rw[g.len];exact c)⟩;rw[k,j];have B:=h.nn p v k;have A:=g.nn p w j;have a:v<=w:=(by rcases h.at' p v k with q|⟨x,r,y,z⟩;omega;have:=g.up x ((e x).1 r) w (by rw[y];exact j);omega);have b:w<=v:=(by rcases g.at' p w j with q|⟨x,r,y,z⟩;omega;have:=h.up x ((e x).2 r) v (by rw[y];exact k);omega);rw[show v=w by omega];rw[nT (by rw[h.len];omega),nT (by rw[g.len];omega)]
end
section
noncomputable def FO(a:J4)(f:aB):aD:= @dite _ (∃q:aD,Itc a f q.1 q.2) (Classical.propDecidable _) (λh=>h.choose) λ_=>((0,0,0,0,0,[]),0)
theorem Px{a:J4}{f:aB}{r:Jc}{p:Int}(h:Itc a f r p):FO a f=(r,p):=by have k: ∃q:aD,Itc a f q.1 q.2:=⟨(r,p),h⟩;unfold FO;rw[dif_pos k];obtain⟨e,g⟩:=k.choose_spec.uniq h;exact Prod.ext e g
def okF(a:J4)(f:aB):Prop:=(∃r p,Itc a f r p)/\1<=f.2.1/\f.2.1<=1073741824
noncomputable def okB(a:J4)(f:aB):Bool:= @decide (okF a f) (Classical.propDecidable _)
theorem NK{a:J4}{f:aB}:okB a f=O↔okF a f:=by unfold okB;simp
noncomputable def ptF(a:J4)(f:aB):Nat:=(FO a f).2.toNat
noncomputable def toF(a:J4)(f:aB):Int:=(FO a f).1.2.1
def LR(T:_F)(v:Int):Prop:=v∈T/\ ∀x∈T,v<=x
theorem LR.uniq{T:_F}{v w:Int}(h:LR T v)(g:LR T w):v=w:=by have:=h.2 w g.1;have:=g.2 v h.1;omega
def vC(C:List aB)(s:Int):Prop:=(∀f∈C,f.2.1<s)/\(s=1\/ ∃f∈C,s=f.2.1+1)
theorem vC.uniq{C:List aB}{s t:Int}(j: ∀f∈C,1<=f.2.1)(h:vC C s)(g:vC C t):s=t:=by
 obtain⟨h1,h2⟩:=h;obtain⟨k,e⟩:=g;rcases h2 with h2|⟨f,hf,h2⟩;rcases e with e|⟨f,hf,e⟩;omega;have:=h1 f hf;have:=j f hf;omega;rcases e with e|⟨g,n,e⟩;have:=k f hf;have:=j f hf;omega;have:=h1 g n;have:=k f hf;omega
noncomputable def opC(a:J4)(fs:List aB):List aB:=rH kF (ST (leK kF) (fs.filter (okB a)))
def oG(a:J4)(fs:List aB)(y:eS):Prop:=if 256<J0 (opC a fs)then y=(([],0,[],0,0),21)else∃T v s,nQ a.1.length (ptF a) (toF a) (opC a fs) T/\LR T v/\vC (opC a fs) s/\y=((a.1,a.2.1,opC a fs,J1 I v 1,s),0)
theorem Mg: ∀a b c:aB,leK kF a b=O->leK kF b c=O->leK kF a c=O:=λa b c h g=>by unfold leK at*;simp only[decide_eq_true_eq]at*;omega
theorem Ms: ∀a b:aB,leK kF a b=O\/leK kF b a=O:=λa b=>by unfold leK;simp only[decide_eq_true_eq];omega
theorem wi{a:J4}{fs:List aB}:(opC a fs).Pairwise (λx y=>kF x<kF y)/\ ∀x,x∈opC a fs↔gV kF (fs.filter (okB a)) x:=by
 have s:=(xS (le:=leK kF) Mg Ms (fs.filter (okB a))).imp (S:=λx y=>kF x<=kF y) fun{x y} h=>by simpa[leK]using h
 obtain⟨h1,h2⟩:=JN6 kF s;exact⟨h1,λx=>(h2 x).trans (JRh kF _ x)⟩
theorem Oa{a:J4}{fs:List aB}{f:aB}(h:f∈opC a fs):f∈fs/\okF a f:=by
 have k:=wi.2 f|>.1 h
 have:=(_V.1 (List.mem_of_mem_head? k)).1;obtain⟨h1,h2⟩:=_V.1 this;exact⟨h1,NK.1 h2⟩
theorem oG.uniq{a:J4}{fs:List aB}{y z:eS}(h:oG a fs y)(g:oG a fs z):y=z:=by
 unfold oG at h g;split at h;rename_i c;rw[if_pos c]at g;rw[h,g];rename_i c;rw[if_neg c]at g;obtain⟨T,v,s,h1,h2,o,rfl⟩:=h;obtain⟨r,q,s',n,k,j,rfl⟩:=g;have e:=h1.uniq n λ_=>Iff.rfl;subst e;rw[h2.uniq k,o.uniq (λf hf=>(Oa hf).2.2.1) j]
theorem JSU:CF FL (leK kF):=by
 intro x y;refine⟨gJ x.2.1 y.2.1,?_,?_⟩;unfold FL;dsimp only;rw[HL];rfl;rw[Bool.eq_iff_iff,Jp,VA];unfold leK kF;simp
theorem JRm{T:_F}(h:1<=J0 T)(hl:J0 T<=70):_n (iu T) (LR T):=by
 unfold iu;refine .l (λc=>by omega) λ_=>?_;cases T with
 |nil=>exact absurd h _k
 |cons x t=>
  refine .w (show idx (x::t) 0=Z x from rfl) ?_;refine dZ (l:=x::t) (λi (b:Int)=>(x::t,b,i)) (λpre b=>b∈x::t/\ ∀y∈pre,b<=y) (λpre y s b e g=>?_) (λb g=>?_) t [x] x _ rfl rfl ⟨_I,λy k=>by rw[fR.1 k];exact bA _⟩;unfold yd;dsimp only;rw[if_pos (Jp.2 (cL e)),dB e (n:=70) hl];have m:=IG b y;refine .w (cW e) (.s ⟨fF b y,rfl,?_,λz j=>?_⟩);rcases m.2.2 with q|q;rw[q];exact g.1;rw[q,e];simp;rcases zQ9.1 j with q|q;have:=g.2 z q;omega;rw[fR.1 q];exact m.2.1;unfold yd;dsimp only;rw[if_neg (by rw[Jp];omega)];exact .s ⟨g.1,g.2⟩
variable {a:J4} {fs:List aB}
theorem xv{k:Nat}{n:Int}(h0:0<=n)(h1:n<k):aR k n=Z ():=by unfold aR;rw[if_pos ⟨h0,h1⟩]
theorem Oh(ok:hC a):mkS 8 (J0 a.1) (J0 a.1) (0:Int)=Z (_J a.1.length 0):=by have:=ok.len;unfold mkS;rw[if_pos ⟨by omega,by omega,by omega,by omega⟩];rfl
theorem vC.snoc{pre:List aB}{s:Int}{f:aB}(h: ∀g∈pre,g.2.1<f.2.1):vC (pre++[f]) (f.2.1+1):=by
 refine⟨λg e=>?_,.inr ⟨f,by simp,rfl⟩⟩;rcases zQ9.1 e with q|q;have:=h g q;omega;rw[fR.1 q];omega
theorem JVM(ok:hC a)(hf: ∀f∈fs,J0 f.2.2<=1073741824)(hl:J0 fs<=600):_n (sQ (a,fs)) (oG a fs):=by
 unfold sQ;refine .b (e8 a) λV h2=>.n (λc=>by rw[h2.2 ok]at c;cases c) λ_=>.w (Oh ok) ?_;refine dZ (l:=fs) (λi (o:List aB)=>(fs,J0 fs,i,a,[],[],0,0,0,o,[],a.1,a.2.1,0,1,_J a.1.length 0)) (λpre o=>o=pre.filter (okB a)) (λpre f t o e h=>?_) (λo h=>?_) fs [] [] _ rfl rfl rfl;have E:f∈fs:=by rw[e];simp
 have N:okF a f->o++[f]=(pre++[f]).filter (okB a):=λk=>by rw[h,_M,_R,if_pos (NK.2 k)];rfl
 have F: ¬okF a f->o=(pre++[f]).filter (okB a):=λk=>by rw[h,_M,_R,if_neg (λq=>k (NK.1 q))];simp
 have lo:J0 o<=600:=by have:=_N (okB a) pre;have:=cL e;rw[h];unfold J0 at*;omega
 unfold rk;dsimp only;rw[if_pos (Jp.2 (cL e)),dB e (n:=600) hl];refine .w (cW e) (.b (tl ok.len.2 (hf f E)) λA g=>?_);rcases g with⟨B,p,_,z⟩|⟨B,z⟩;rw[B];refine .i (λ_=>.h (λ_e=>.G (λ_d=>.w (eT (by rw[cA];omega) _k) (.s ⟨_,rfl,N ⟨⟨_,_,z⟩,_e,_d⟩⟩)) λc=>.s ⟨o,rfl,F λk=>c k.2.2⟩) λc=>.s ⟨o,rfl,F λk=>c k.2.1⟩) λc=>by cases c
 rw[B];exact .i (λc=>by cases c) λ_=>.s ⟨o,rfl,F fun⟨⟨r,p,k⟩,_⟩=>z r p k⟩;subst h;have U:=_N (okB a) fs;have S:(fs.filter (okB a)).length<=600:=by unfold J0 at hl;omega
 unfold rk;dsimp only;rw[if_neg (by rw[Jp];omega)];refine .endq (.w (w:=ST (leK kF) (fs.filter (okB a))) (xm Mg Ms JSU oo) ?_);rw[hI];rw[if_pos (show iO (fs.filter (okB a)).length (fs.filter (okB a)).length=O by simp[iO])];refine .b (JUH (l:=ST (leK kF) (fs.filter (okB a))) (by rw[hI];omega)) λM G=>?_;have G:M.2=opC a fs:=G;rw[G];refine .g (λc=>.s ?_) λc=>?_;unfold oG;rw[if_pos c];have bl:=ok.len;refine dZ (l:=opC a fs) (λi (b:Int×_F)=>(J0 (opC a fs),i,a,[],[],0,0,0,M.1,[],a.1,a.2.1,0,b.1,b.2,opC a fs)) (λpre b=>nQ a.1.length (ptF a) (toF a) pre b.2/\vC pre b.1) (λpre f t b e h=>?_) (λb h=>?_) (opC a fs) [] (1,_J a.1.length 0) _ rfl rfl ⟨.zero,nofun,.inl rfl⟩;have E:f∈opC a fs:=by rw[e];simp
 obtain⟨H,⟨r,p,hi⟩,_e,_d⟩:=Oa E;obtain⟨j,D⟩:=h;obtain⟨s,T⟩:=b;dsimp only at j D;have ep:FO a f=(r,p):=Px hi;unfold ru;dsimp only;rw[if_pos (Jp.2 (cL e)),dB e (n:=256) oo];refine .w (TD e) (.w (TJ e) (.b (tl ok.len.2 (hf f H)) λA g=>?_));rcases g with⟨B,q,_c,z⟩|⟨B,z⟩;obtain⟨rfl,rfl⟩:=z.uniq hi;have P:=hi.2.2.2;rw[Pf];obtain⟨v,C⟩: ∃v,T[q.toNat]?=Z v:=⟨_,aZ (by rw[j.len];unfold J0 at _c;omega)⟩;have L:aR (_H T) q=Z ():=xv P (by rw[j.len];exact _c);refine .w hi.2.2.1 (.w L (.w (w:=v) C (.w L (.w (w:=v) C (.s ⟨(J1 I f.2.1 1,aY T q.toNat (bJ v A.1.2.1)),rfl,?_,?_⟩)))));have:=j.add (x:=f) (S':=pre++[f]) (v:=v) (by unfold ptF;rw[ep];exact C) (λy=>by simp);have Q:bJ v A.1.2.1=max v A.1.2.1:=by have:=vW v A.1.2.1;omega
 unfold ptF toF at this;rw[ep]at this;unfold ptF toF;show nQ _ _ _ _ (List.set T q.toNat (bJ v A.1.2.1));rw[Q];exact this;have o:=Jl f.2.1 1;rw[show J1 I f.2.1 1=f.2.1+1 by omega];refine vC.snoc (s:=s) λg R=>?_;have K:=(wi (a:=a) (fs:=fs)).1;rw[e]at K;exact(_L.1 K).2.2 g R f _I;exact absurd hi (z r p);obtain⟨j,D⟩:=h;obtain⟨s,T⟩:=b;dsimp only at j D;unfold ru;dsimp only;rw[if_neg (by rw[Jp];omega)];have lt:J0 T=J0 a.1:=by unfold J0;rw[j.len]
 refine .endq (.b (JRm (T:=T) oo oo) λv C=>.s ?_);unfold oG;rw[if_neg c];exact⟨T,v,s,j,C,D,rfl⟩
theorem li{α:Type}(κ:α->Int){f:α}: ∀{U V:List α},(∀y∈U,κ y<κ f)->eC κ f (U++V)=U++eC κ f V
 |[],_,_=>rfl
 |y::U,V,h=>by
  show eC κ f (y::(U++V))=y::(U++eC κ f V);have e:eC κ f (y::(U++V))=if κ y<κ f then y::eC κ f (U++V)else if κ y=κ f then y::(U++V)else f::y::(U++V):=rfl
  rw[e,if_pos (h y _I),li κ λz g=>h z (gF _ g)]
noncomputable def rfC(a:J4)(pre:List aB):List aB:=(pre.filter (okB a)).foldl (λl f=>eC kF f l) []
theorem JUW:rfC a fs=opC a fs:=by obtain⟨h1,h2⟩:=Ax kF (fs.filter (okB a));obtain⟨g,e⟩:=wi (a:=a) (fs:=fs);exact wb (lt:=λx y:aB=>kF x<kF y) (λa h=>by omega) (λa b h k=>by omega) h1 g λx=>(h2 x).trans (e x).symm
theorem Pk{pre:List aB}{f:aB}(h:okF a f):rfC a (pre++[f])=eC kF f (rfC a pre):=by unfold rfC;rw[_M,_R,if_pos (NK.2 h),List.foldl_append];rfl
theorem JUs{pre:List aB}{f:aB}(h: ¬okF a f):rfC a (pre++[f])=rfC a pre:=by unfold rfC;rw[_M,_R,if_neg (λq=>h (NK.1 q)),List.foldl_append];rfl
theorem Sg{α:Type}(κ:α->Int)(f:α): ∀l:List α,(eC κ f l).length<=l.length+1
 |[]=>by simp[eC]
 |y::l=>by
  have:=Sg κ f l;unfold eC;split;simp only[rC];omega;split<;>simp only[rC]<;>omega
theorem JQE: ∀pre:List aB,(rfC a pre).length<=pre.length:=by
 intro pre;have go: ∀(l acc:List aB),(l.foldl (λl f=>eC kF f l) acc).length<=l.length+acc.length:=by
  intro l
  induction l with
  |nil=>intro acc;simp
  |cons f l ih=>intro acc;have:=ih (eC kF f acc);have:=Sg kF f acc;simp only[List.foldl_cons,rC];omega
 have:=go (pre.filter (okB a)) [];have:=_N (okB a) pre;unfold rfC;simp only[List.length_nil]at*;omega
def RO(a:J4)(pre:List aB)(b:List aB×Int×_F):Prop:=b.1=rfC a pre/\nQ a.1.length (ptF a) (toF a) b.1 b.2.2/\vC b.1 b.2.1/\ ∀f∈b.1,okF a f
theorem JVa(ok:hC a)(hf: ∀f∈fs,J0 f.2.2<=1073741824)(hl:J0 fs<=600):_n (sK (a,fs)) (oG a fs):=by
 have bl:=ok.len;unfold sK;refine .b (pT a) λy2 h2=>.n (λc=>by rw[h2.2 ok]at c;cases c) λ_=>.w (jQ (by dsimp only;omega) _k) (.w (Oh ok) ?_);refine dZ (l:=fs) (λi (b:List aB×Int×_F)=>(fs,i,a,([],0,[],0,0),a.1,a.2.1,b.1,1,b.2.1,b.2.2)) (RO a) (λpre f t b e D=>?_) (λb D=>?_) fs [] ([],1,_J a.1.length 0) _ rfl rfl ⟨rfl,.zero,⟨nofun,.inl rfl⟩,nofun⟩
 ·have fm:f∈fs:=by rw[e];simp
  obtain⟨o,s,T⟩:=b;obtain⟨j,h,B,E⟩:=D;dsimp only at j h B E;have L: ¬okF a f->RO a (pre++[f]) (o,s,T):=λk=>⟨by rw[JUs k];exact j,h,B,E⟩;have lo:o.length<=600:=by have:=JQE (a:=a) pre;have:=cL e;rw[j];unfold J0 at*;omega
  unfold qb;dsimp only;rw[if_pos (Jp.2 (cL e)),dB e (n:=600) hl];refine .w (cW e) (.b (I6 ok.len.2 (hf f fm)) λy5 g=>?_);rcases g with⟨H,F⟩|⟨H,F⟩
  rotate_left
  rw[H];exact .j (λc=>absurd _k c) λ_=>.s ⟨(o,s,T),rfl,L fun⟨⟨r,p,k⟩,_⟩=>F r p k⟩;obtain⟨r,p⟩:=y5;dsimp only at H F;have q0:=F.2.2.2;refine .j (λ_=>.w (cW e) (.j (λc1=>.w (cW e) (.g (λc=>.s ⟨(o,s,T),rfl,L λk=>absurd k.2.2 oo⟩) λR=>?_)) λc=>.s ⟨(o,s,T),rfl,L λk=>absurd k.2.1 oo⟩)) λc=>by omega
  have kf:okF a f:=⟨⟨_,_,F⟩,by omega,by omega⟩;have ep:FO a f=(r,p):=Px F;obtain⟨P,w2⟩:=Ax kF (pre.filter (okB a));have P:o.Pairwise (λx y=>kF x<kF y):=by rw[j];exact P
  obtain⟨_,im⟩:=VE kF f P;obtain⟨v,_c⟩: ∃v,T[p.toNat]?=Z v:=⟨_,aZ (by rw[h.len];unfold J0 at H;omega)⟩;have _a:aR (_H T) p=Z ():=xv q0 (by rw[h.len];exact H);have put: ∀{U V:List aB},o=U++V->eC kF f o=U++f::V->RO a (pre++[f]) (U++f::V,bJ s (J1 I f.2.1 1),aY T p.toNat (bJ v r.2.1)):=fun{U V} C N=>by
   have mm: ∀y,y∈U++f::V↔y∈o\/y=f:=λy=>by
    rw[C];simp only[zQ9,bS];constructor;rintro(q|q|q);exact .inl (.inl q);exact .inr q;exact .inl (.inr q);rintro((q|q)|q);exact .inl q;exact .inr (.inr q);exact .inr (.inl q)
   have M:=h.add (x:=f) (S':=U++f::V) (v:=v) (by unfold ptF;rw[ep];exact _c) mm;have em:bJ v r.2.1=max v r.2.1:=by have:=vW v r.2.1;omega
   have o1:=Jl f.2.1 1;have mx:=vW s (J1 I f.2.1 1);refine⟨by dsimp only;rw[Pk kf,<-j,N],?_,⟨λy G=>?_,?_⟩,λy G=>?_⟩;unfold ptF toF at M;rw[ep]at M;unfold ptF toF;show nQ _ _ _ _ (List.set T p.toNat (bJ v r.2.1));rw[em];exact M;rcases(mm y).1 G with q|rfl;have:=B.1 y q;dsimp only;omega;dsimp only;omega;rcases mx.2.2 with q|q;rcases B.2 with q2|⟨g,hg,q2⟩;exact .inr ⟨f,(mm f).2 (.inr rfl),by dsimp only;omega⟩;exact .inr ⟨g,(mm g).2 (.inl hg),by dsimp only;omega⟩;exact .inr ⟨f,(mm f).2 (.inr rfl),by dsimp only;omega⟩;rcases(mm y).1 G with q|rfl;exact E y q;exact kf
  have same:eC kF f o=o->(∃x∈o,kF x=kF f)->RO a (pre++[f]) (o,s,T):=λC _=>⟨by dsimp only;rw[Pk kf,<-j,C],h,B,E⟩;have _d: ∀{U V:List aB},o=U++V->eC kF f o=U++f::V->_n (ρ:=(eh)⊕(eS)) ((aU o Y (Z (J0 U))).bind λQ=>(bG 32 Q).bind λS=>(idx fs (J0 pre)).bind λa3=>(Jr 32 S [a3]).bind λa1=>(aU o (Z (J0 U)) Y).bind λa0=>(Jr 32 a1 a0).bind λW=>(idx fs (J0 pre)).bind λ_b=>(aR (_H T) p).bind λ_=>(aV T (_G p)).bind λa2=>(aR (_H T) p).bind λ_=>(aV T (_G p)).bind λ_=>Z (.inl (fs,J0 (pre++[f]),a,([],0,[],0,0),a.1,a.2.1,W,1,bJ s (J1 I _b.2.1 1),aY T (_G p) (bJ a2 r.2.1)))) (uo (λb:List aB×Int×_F=>(fs,J0 (pre++[f]),a,([],0,[],0,0),a.1,a.2.1,b.1,1,b.2.1,b.2.2)) (RO a (pre++[f])) (oG a fs)):=fun{U V} C N=>by
   have lU:J0 U+J0 V<=600:=by rw[<-cQ,<-C];unfold J0;omega
   have nU:=Ja (l:=U);have nV:=Ja (l:=V);refine .w (te C rfl) (.w (jQ oo _k) (.w (cW e) (.w (eT (by rw[cA];omega) _k) (.w (tp C rfl) (.w (eT (by rw[cQ,cA];omega) _k) (.w (cW e) (.w _a (.w (w:=v) _c (.w _a (.w (w:=v) _c (.s ⟨(U++f::V,bJ s (J1 I f.2.1 1),aY T p.toNat (bJ v r.2.1)),?_,put C N⟩)))))))))));rw[pW];rfl
  refine dZ (l:=o) (λk (_:Unit)=>(fs,J0 pre,p,k,a,([],0,[],0,0),a.1,a.2.1,o,1,s,T,r)) (λU _=> ∀y∈U,kF y<kF f) (λU x V _ A hU=>?_) (λ_ hU=>?_) o [] () _ rfl rfl nofun;have _e:eC kF f o=U++eC kF f (x::V):=by rw[A];exact li kF hU
  unfold qt;dsimp only;rw[if_pos (Jp.2 (cL A)),dB e (n:=600) hl,dB A (n:=600) (by unfold J0;omega)];refine .w (cW A) (.w (cW e) (.l (λc=>.s ⟨(),rfl,λy G=>?_⟩) λc=>.inr ?_));rcases zQ9.1 G with q|q;exact hU y q;rw[fR.1 q];exact c;have c: ¬kF x<kF f:=c;refine .l (λ_=>.w (cW A) (.w (cW e) (.e (λd=>.s ⟨(o,s,T),rfl,same ?_ ⟨x,by rw[A];simp,d⟩⟩) λd=>_d A ?_))) λR=>absurd (cL A) R;rw[_e];unfold eC;rw[if_neg c,if_pos (show kF x=kF f from d),<-A];rw[_e];unfold eC;rw[if_neg c,if_neg (show¬kF x=kF f from d)];have _e:eC kF f o=o++[f]:=(by have:=li kF (V:=[]) hU;rw[gH]at this;exact this);unfold qt;dsimp only;rw[if_neg (by rw[Jp];omega),dB e (n:=600) hl];exact .inr (.l (λc=>absurd c (Int.lt_irrefl _)) λ_=>_d (gH o).symm _e)
 obtain⟨o,s,T⟩:=b;obtain⟨j,h,B,E⟩:=D;dsimp only at j h B E;rw[JUW]at j;subst j;have lt:J0 T=J0 a.1:=by unfold J0;rw[h.len]
 unfold qb;dsimp only;rw[if_neg (by rw[Jp];omega)];refine .endq (.g (λc=>.s ?_) λc=>?_);unfold oG;rw[if_pos c];obtain⟨v0,K⟩: ∃v,T[0]?=Z v:=⟨_,aZ (by have q:(T.length:Int)=J0 a.1:=lt;omega)⟩;refine .w (xv (bA _) (by have q:(T.length:Int)=J0 a.1:=lt;omega)) (.w (w:=v0) K ?_);refine dZ (l:=T) (λi (b:Int)=>(b,i,a,([],0,[],0,0),a.1,a.2.1,opC a fs,1,s,T)) (λpre b=>b∈T/\ ∀y∈pre,b<=y) (λpre x t b e D=>?_) (λb D=>?_) T [] v0 _ rfl rfl ⟨zQ5 K,nofun⟩;unfold ql;dsimp only;rw[if_pos (Jp.2 (cL e)),dB e (n:=70) oo];have m:=IG b x;refine .w (TD e) (.w (TJ e) (.s ⟨fF b x,rfl,?_,λz hz=>?_⟩));rcases m.2.2 with q|q;rw[q];exact D.1;rw[q,e];simp;rcases zQ9.1 hz with q|q;have:=D.2 z q;omega;rw[fR.1 q];exact m.2.1;unfold ql;dsimp only;rw[if_neg (by rw[Jp];omega)];refine .s (show oG a fs _ from ?_);unfold oG;rw[if_neg c];exact⟨T,b,s,h,D,B,rfl⟩
theorem JP8(hf: ∀f∈fs,J0 f.2.2<=1073741824)(hl:J0 fs<=600): ∃y,sQ (a,fs)=Z y/\sK (a,fs)=Z y/\FV y.1:=by
 obtain⟨v,e,h⟩:=pT a;cases v with
 |false=>
  refine⟨(([],0,[],0,0),54),?_,?_,by show J0 ([]:_F)<=70;decide,by show J0 ([]:List aB)<=600;decide⟩;unfold sQ;rw[HZ];dsimp only;rw[e];rfl;unfold sK;dsimp only;rw[e];rfl
 |true=>
  have ok:=h.1 rfl;obtain⟨y,g,h1⟩:=JVM ok hf hl;obtain⟨z,j,h2⟩:=JVa ok hf hl;have:=h1.uniq h2;subst this;refine⟨y,g,j,?_⟩;unfold oG at h1;split at h1;rw[h1];exact⟨by show J0 ([]:_F)<=70;decide,by show J0 ([]:List aB)<=600;decide⟩;obtain⟨T,v,s,_,_,_,rfl⟩:=h1;have bl:=ok.len;exact⟨by show J0 a.1<=70;omega,by show J0 (opC a fs)<=600;omega⟩
end
section
def AF2(a:J4):Prop:=(∀f∈a.2.2.1,J0 f.2.2<=335937673)/\J0 a.2.2.1<=257/\J0 a.1<=70
theorem AF2.few{a:J4}(h:AF2 a):FV a:=⟨h.2.2,by have:=h.2.1;omega⟩
theorem AF2.fit{a:J4}(h:AF2 a):DF a:=λf hf=>iZ (h.1 f hf) _k
theorem gu{n:Int}{c:J9}(hn:n=9\/n=8)(hc:fU c):_n (J7 (n,c)) λy=>fU y.2:=by
 rcases hn with rfl|rfl;exact(nx (n:=9) _k hc.1 hc.2).mono λy h=>h.2;exact(nx (n:=8) _k hc.1 hc.2).mono λy h=>h.2
theorem JP6{fs:List aB}{c:J9}(hf: ∀f∈fs,J0 f.2.2<=335937673)(hl:J0 fs<=257)(hc:fU c):_n (qP (fs,c)) λy=>((∀f∈y.1,J0 f.2.2<=1073741824)/\J0 y.1<=257)/\fU y.2:=by
 have nn:=Ja (l:=fs);have up: ∀f∈fs,J0 f.2.2<=1073741824:=λf h=>iZ (hf f h) _k;unfold qP;refine .e (λ_=>.s ⟨⟨nofun,by show J0 ([]:List aB)<=257;decide⟩,hc⟩) λC=>?_;have C: ¬J0 fs=0:=C;refine .b (nx (n:=J0 fs) ⟨by omega,by omega⟩ hc.1 hc.2) λg h2=>.b (nx (n:=2) _k h2.2.1 h2.2.2) λE r=>?_;have w:=h2.1.2.2 oo;have z:=h2.1.1;have o:=Jl g.1 1;dsimp only;refine .e (λ_=>?_) λ_=>?_;obtain⟨p,_e,F,L⟩:=uV (l:=fs) (k:=g.1) z oo;obtain⟨q,G,D,M⟩:=CJ (l:=fs) (k:=J1 I g.1 1) oo oo;refine .w _e (.w (jQ oo _k) (.w G (.w (eT oo _k) (.s ⟨⟨λf v=>?_,?_⟩,r.2⟩))));have:f∈fs:=(by rcases zQ9.1 v with m|m;rw[F]at m;exact FP m;rw[D]at m;exact zQ7 m);exact up f this;show J0 (p++q)<=257;rw[cQ];omega;obtain⟨x,K,j⟩:=eA z w;have H:=hf x (zQ5 j);have A:aR (_H fs) g.1=Z ():=by unfold aR;rw[if_pos (by unfold J0 at w;omega)]
 have el:aV fs (_G g.1)=Z x:=j;have hs:Ty.fit 16384 335937673 QJ (x.2.2,E.2):=⟨H,r.2.1⟩;refine .w (jQ oo _k) (.w A (.w el (.b (H5 (B:=16384) (S:=335937673) hs r.2.2) λ_d e=>.w A (.w el (.s ⟨⟨λf v=>?_,?_⟩,⟨e.1.2.1,e.1.2.2⟩,e.2⟩)))));rcases cw v with m|rfl;exact up f m;exact iZ e.1.1 _k;show J0 (aY fs _ _)<=257;rw[qI];exact hl
theorem JLY(l:List aA)(hl:J0 l<=4096):LD (l,l)=Z O:=by
 have g:_n (LD (l,l)) λy=>y=O:=by unfold LD;refine .d (λc=>absurd rfl c) λ_=>Jn (τ:=Int) (λq=>(l,l,q)) (λq=>0<=q/\q<=J0 l) (λq=>J0 l-q) ?_ 0 rfl ⟨bA _,Ja⟩;rintro i ⟨o,h1⟩;unfold Ig;dsimp only;have v:=Jl i 1;refine .l (λc=>?_) λ_=>.s rfl;obtain⟨e,j,_⟩:=eA o c;refine .b (eK j) λr n=>.b (eK j) λh k=>.n (λc=>?_) λ_=>.s ⟨J1 I i 1,rfl,⟨by omega,by omega⟩,by omega,by omega⟩;subst n;subst k;have q:eqT J3 h h=O:=eB.2 rfl;cases q.symm.trans c
 obtain⟨y,e,d⟩:=g;rw[e,d]
theorem Mq{R:List Jc}(hl:J0 R<=256)(hr: ∀r∈R,J0 (ent r)<=4096):sO (R,R)=Z O:=by
 have g:_n (sO (R,R)) λy=>y=O:=by
  unfold sO;refine .d (λc=>absurd rfl c) λ_=>dZ (l:=R) (λi (_:Unit)=>(R,R,i)) (λ_ _=>True) (λpre x t _ e _=>?_) (λ_ _=>?_) R [] () _ rfl rfl trivial;have le:=hr x (by rw[e];simp);have h:XL (x,x)=Z O:=by unfold XL;dsimp only;rw[if_pos (eM.2 rfl),if_pos (eM.2 rfl),if_pos (eM.2 rfl),if_pos (eM.2 rfl),if_pos (eM.2 rfl)];show(LD (ent x,ent x)).bind _=_;rw[JLY _ le];rfl
  unfold rz;dsimp only;rw[if_pos (Jp.2 (cL e)),dB e (n:=256) hl];exact .w (cW e) (.w (cW e) (.w h (.n (λc=>by cases c) λ_=>.s ⟨(),rfl,_g⟩)));unfold rz;dsimp only;rw[if_neg (by rw[Jp];omega)];exact .s rfl
 obtain⟨y,e,rfl⟩:=g;exact e
theorem JPt{a:J4}(hf:DF a): ∃R _p,qO a=Z (R,_p)/\tU a=Z (R,_p)/\sO (R,R)=Z O/\oN (_p,_p)=Z O:=by
 obtain⟨v,e,h⟩:=pT a;cases v with
 |false=>
  refine⟨[],[],?_,?_,Mq _k nofun,?_⟩;unfold qO;rw[HZ,e];rfl;unfold tU EN;rw[e];rfl;obtain⟨y,e,h⟩:=k8 (l:=[]) (m:=[]) _k;rw[e,h rfl]
 |true=>
  have ok:=h.1 rfl;have j:=Mw ok hf;refine⟨_,_,JVI ok hf,?_,?_,?_⟩;unfold tU;rw[Nq ok hf];rfl;refine Mq (by unfold J0;rw[dT];omega) λr g=>?_;obtain⟨w,wm,rfl⟩:=oA.1 g;exact(Mk ok hf wm).1;obtain⟨y,e,h⟩:=k8 (l:=(WR a).map (·.2.1)) (m:=(WR a).map (·.2.1)) (by unfold J0;rw[dT];omega);rw[e,h rfl]
theorem JUb:RC ()=Z O:=by
 have ok:hC ([0,4],8,[],1,1):=⟨by decide,by decide,rfl,by unfold Asc;decide,λz r=>by have e:idx [0,4] (J0 [(0:Int),4]-1)=Z (4:Int):=rfl;have this:z=4:=Option.some.inj (r.symm.trans e);rw[this];decide,by decide,by decide,by decide,List.Pairwise.nil,nofun⟩;have v:kE ([0,4],8,[],1,1)=Z O:=by obtain⟨y,e,k⟩:=e8 ([0,4],8,[],1,1);rw[e,k.2 ok]
 have n:EX (8,[0,4])=Z (([0,4],8,[],1,1),0):=by unfold EX;dsimp only;rw[show iy [0,4]=Z [0,4]from jQ _k _k];simp only[JF];rw[v];rfl
 have b:SC ([0,4],3)=Z (1,J):=by
  have h:SA ([0,4],3,J0 [0,4],0,J0 [0,4])=Z (.inl ([0,4],3,2,0,1)):=by rfl
  have q:SA ([0,4],3,2,0,1)=Z (.inl ([0,4],3,2,1,1)):=by rfl
  have j:SA ([0,4],3,2,1,1)=Z (.inr (1,J)):=by rfl
  exact(eX h).trans ((eX q).trans (dN j))
 have p:_n (pF (([0,4],8,[],1,1),3)) λy=>y=(0,3,O):=.w v (.r (λ_=>.j (λ_=>.h (λc=>absurd c _k) λ_=>.w b (.n (λ_=>.w (w:=(0,3)) (by rfl) (.s rfl)) λc=>by cases c)) λc=>absurd c _k) λc=>by cases c)
 have g:_n (RC ()) λy=>y=O:=by unfold RC;refine .w n (.b p λy o=>?_);subst o;exact .e (λ_=>.e (λ_=>.i (λ_=>.s (by rfl)) λc=>by cases c) λc=>absurd rfl c) λc=>absurd rfl c
 obtain⟨y,e,d⟩:=g;rw[e,d]
variable {most page n i nl j:Int} {zs:List J4} {c:J9} {x y a odd z:J4} {lg lg':Jy} {logs:List Jy} {ks _p:_F} {w:List aB} {fss:List (List aB)}
abbrev S25:=Int×Int×(List J4)×Int×Int×J9×J4×J4×Jy×J4×J4
abbrev S27:=Int×Int×(List J4)×Int×Int×(List Jy)×Int×Int×J9×J4×J4×Jy×J4×J4×J4
theorem JVW(hs: ∀fs∈fss,(∀f∈fs,J0 f.2.2<=1073741824)/\J0 fs<=600)(hn:J0 fss=3){Q:S25⊕Bool->Prop}(hq:Q (.inl (most,page,zs,n,J1 I i 1,c,x,y,lg,a,odd))):_n (J5 jc (most,page,zs,n,i,fss,3,0,c,x,y,lg,a,odd,z,w)) Q:=by
 refine dZ (l:=fss) (λk (_:Unit)=>(most,page,zs,n,i,fss,3,k,c,x,y,lg,a,odd,z,w)) (λ_ _=>True) (λpre fs t _ e _=>?_) (λ_ _=>?_) fss [] () _ rfl rfl trivial;have h:=hs fs (by rw[e];simp);obtain⟨u,q,j,g⟩:=JP8 (a:=z) h.1 h.2;obtain⟨v,_,r,o⟩:=OC (b:=u.1) g;have lt:=cL e;unfold jc;dsimp only;rw[if_pos (Jp.2 oo),dB e (n:=3) oo];refine .w (cW e) (.w q (.w j (.q (λ_=>.w r (.n (λk=>by rw[o rfl]at k;cases k) λ_=>.s ⟨(),rfl,_g⟩)) λk=>absurd rfl k)));unfold jc;dsimp only;rw[if_neg (by rw[Jp];omega)];exact .s hq
theorem JW1(hl:Ty.fit 16384 1073741824 JG lg')(hn:J0 ks=2){Q:S27⊕(S25⊕Bool)->Prop}(hq:Q (.inl (most,page,zs,n,i,logs,nl,J1 I j 1,c,x,y,lg,a,odd,z))):_n (J5 ja (most,page,zs,n,i,logs,nl,j,ks,2,0,c,x,y,lg,a,odd,z,lg')) Q:=by
 refine dZ (l:=ks) (λk (_:Unit)=>(most,page,zs,n,i,logs,nl,j,ks,2,k,c,x,y,lg,a,odd,z,lg')) (λ_ _=>True) (λpre k t _ e _=>?_) (λ_ _=>?_) ks [] () _ rfl rfl trivial;obtain⟨u,h,r,g⟩:=(JR9 (a:=z) (n:=k) hl).ex;obtain⟨v,_,o,q⟩:=OC (b:=u.1) g;have lt:=cL e;unfold ja;dsimp only;rw[if_pos (Jp.2 oo),dB e (n:=2) oo];refine .w (cW e) (.w h (.w r (.q (λ_=>.w o (.n (λk=>by rw[q rfl]at k;cases k) λ_=>.s ⟨(),rfl,_g⟩)) λk=>absurd rfl k)));unfold ja;dsimp only;rw[if_neg (by rw[Jp];omega)];exact .s hq
theorem JW8(hl: ∀l∈logs,Ty.fit 16384 1073741824 JG l)(hn:J0 logs=2)(hz:AF2 z)(ha:AF2 a)(hc:fU c){Q:S25⊕Bool->Prop}(hq: ∀c',fU c'->Q (.inl (most,page,zs,n,J1 I i 1,c',x,y,lg,a,odd))):_n (J5 ix (most,page,zs,n,i,logs,2,0,c,x,y,lg,a,odd,z)) Q:=by
 refine dZ (l:=logs) (λk c=>(most,page,zs,n,i,logs,2,k,c,x,y,lg,a,odd,z)) (λ_ c=>fU c) (λpre l t c e hc=>?_) (λc hc=>?_) logs [] c _ rfl rfl hc;have lt:=cL e;unfold ix;dsimp only;rw[if_pos (Jp.2 oo)];refine .w (cW e) (.b (gu (.inl rfl) hc) λj g=>JW1 (hl l (by rw[e];simp)) rfl ?_);rw[dB e (n:=2) oo];exact⟨j.2,rfl,g⟩;unfold ix;dsimp only;rw[if_neg (by rw[Jp];omega)];have o:=hz.2.1;have r:=ha.2.1;refine .endq (.b (JP6 hz.1 hz.2.1 hc) λj g=>.w (jQ oo _k) (.w (eT oo _k) (JVW (λfs h=>?_) rfl (hq _ g.2))));simp only[bS,_S,or_false]at h;rcases h with rfl|rfl|rfl;exact⟨hz.fit,by omega⟩;exact⟨g.1.1,by have:=g.1.2;omega⟩;refine⟨λf hf=>?_,by rw[cQ];omega⟩;rcases zQ9.1 hf with q|q;exact ha.fit f q;exact hz.fit f q
theorem JW6(hn:J0 _p=2)(hl:Ty.fit 16384 1073741824 JG lg)(hz:AF2 z)(ha:AF2 a)(hc:fU c){Q:S25⊕Bool->Prop}(hq: ∀c',fU c'->Q (.inl (most,page,zs,n,J1 I i 1,c',x,y,lg,a,odd))):_n (J5 jb (most,page,zs,n,i,_p,2,0,c,x,y,lg,a,odd,z)) Q:=by
 refine dZ (l:=_p) (λk (_:Unit)=>(most,page,zs,n,i,_p,2,k,c,x,y,lg,a,odd,z)) (λ_ _=>True) (λpre id t _ e _=>?_) (λ_ _=>?_) _p [] () _ rfl rfl trivial;obtain⟨u,q,o⟩:=JOn (a:=z) (id:=id);have lt:=cL e;unfold jb;dsimp only;rw[if_pos (Jp.2 oo),dB e (n:=2) oo];exact .w (cW e) (.w q (.w o (.q (λ_=>.q (λ_=>.n (λk=>by cases h:u.2.2<;>rw[h]at k<;>cases k) λ_=>.s ⟨(),rfl,_g⟩) λk=>absurd rfl k) λk=>absurd rfl k)));unfold jb;dsimp only;rw[if_neg (by rw[Jp];omega)];refine .endq (.b (Jnh (B:=16384) (S:=1073741824) (X:=(lg,c)) ⟨hl,hc.1⟩ hc.2) λr j=>JW8 (λl g=>?_) rfl hz ha ⟨j.1.2,j.2⟩ hq);simp only[bS,_S,or_false]at g;rcases g with rfl|rfl;exact hl;exact j.1.1
theorem JWj(hn:J0 zs=3)(h: ∀z∈zs,AF2 z)(hl:Ty.fit 16384 1073741824 JG lg)(ha:AF2 a)(hc:fU c):_n (J5 RZ (most,page,zs,3,0,c,x,y,lg,a,odd)) λy=>y=O:=by
 refine dZ (l:=zs) (λk c=>(most,page,zs,3,k,c,x,y,lg,a,odd)) (λ_ c=>fU c) (λpre z t c e hc=>?_) (λc hc=>?_) zs [] c _ rfl rfl hc;have g:=h z (by rw[e];simp);have lt:=cL e;obtain⟨v,ev,_⟩:=pT z;obtain⟨s1,r,_,j⟩:=OC (b:=z) g.few;obtain⟨q,o,A,_⟩:=OC (b:=a) g.few;obtain⟨R,G,E,C,B,w⟩:=JPt g.fit;unfold RZ;dsimp only;rw[if_pos (Jp.2 oo)];refine .w (cW e) (.w ((HZ z).trans ev) (.w ev (.r (λ_=>.w r (.r (λ_=>.w o (.w A (.n (λk=>by cases q<;>cases k) λ_=>.w E (.w C (.w B (.r (λ_=>.w w (.n (λk=>by cases k) λ_=>.b (gu (.inr rfl) hc) λF D=>JW6 rfl hl g ha D λc' hc'=>?_)) λk=>by cases k)))))) λk=>by rw[j rfl]at k;cases k)) λk=>by cases v<;>cases k)));rw[dB e (n:=3) oo];exact⟨c',rfl,hc'⟩;unfold RZ;dsimp only;rw[if_neg (by rw[Jp];omega)];exact .s rfl
theorem JkX{x0:_F}{X x2 x3:Int}{x4:_F}(w0:Ty.inR (.l (.i .u8)) x0)(w1:Ty.inR (.i I) X)(w2:Ty.inR (.i I) x2)(w3:Ty.inR (.i I) x3)(_c:Ty.inR (.l (.i I)) x4):il (x0,X,x2,x3,x4)=Z O:=by
 have F:_n (il (x0,X,x2,x3,x4)) λy=>y=O:=by
  unfold il;refine .w JUb (.r (λ_=>.g (λc=>.s (fO.2 c)) λc=>?_) λc=>by cases c);have bl:J0 x4<=70:=by dsimp only at c;omega
  obtain⟨u,M,_d,b1,b2⟩:=JRR (n:=X) bl;have E:AF2 u.1:=⟨by rw[b2];nofun,by rw[b2];decide,b1⟩;obtain⟨v,_,N,L⟩:=OC (b:=u.1) E.few;refine .b (JMb w0) λH A=>.w M (.w _d (.q (λ_=>.w N (.n (λk=>by rw[L rfl]at k;cases k) λ_=>?_)) λk=>absurd rfl k));refine .b (JKV (B:=16384) (S:=1073741824) (X:=(20,H)) ⟨kP I 20,A.1⟩ A.2 (by show(0:Int)<=20;decide) (by show(20:Int)<=1000;decide)) λC x=>?_;have _e:=J2.1 x.1.1;refine .b (JNx (n:=C.1) _e.2 x.1.2.1 ⟨x.1.2.2,x.2⟩) λg r=>.b (nx (n:=5) _k r.2.1 r.2.2) λQ w=>?_;have q:AF2 g.1:=⟨λf hf=>iZ (r.1.1 f hf) _k,r.1.2.1,by have:=r.1.2.2;omega⟩;have D:=x.1.2.1;have o: ∀{odd:J4} {c:J9},AF2 odd->fU c->_n (J5 RZ (x2,x3,[g.1,odd,u.1],3,0,c,u.1,u.1,C.2.1,g.1,odd)) λy=>y=O:=fun{odd c} K hc=>JWj rfl (λz G=>by
   simp only[bS,_S,or_false]at G;rcases G with rfl|rfl|rfl;exact q;exact K;exact E) D q hc
  refine .e (λ_=>.b (nxI w.2.1 w.2.2) λj h=>o (odd:=(g.1.1,g.1.2.1,g.1.2.2.1,j.1,g.1.2.2.2.2)) q h.2) λ_=>.e (λ_=>.b (nxI w.2.1 w.2.2) λj h=>o (odd:=(g.1.1,g.1.2.1,g.1.2.2.1,g.1.2.2.2.1,j.1)) q h.2) λ_=>.e (λ_=>.b (gu (.inl rfl) w.2) λj h=>o (odd:=(g.1.1,j.1,g.1.2.2)) q h) λ_=>.e (λ_=>?_) λ_=>.e (λ_=>.b (JOE r.1.1 r.1.2.1 w.2) λj h=>o (odd:=(g.1.1,g.1.2.1,j.1,g.1.2.2.2)) ⟨h.1.1,h.1.2,q.2.2⟩ h.2) λ_=>o q w.2;have P:=r.1.2.2;refine .w (jQ oo _k) (.b (gu (.inl rfl) w.2) λj h=>.w (eT (by rw[cA];omega) _k) (o (odd:=(g.1.1++[j.1],g.1.2.1,g.1.2.2.1,g.1.2.2.2.1,g.1.2.2.2.2)) ⟨q.1,q.2.1,?_⟩ h));show J0 (g.1.1++[j.1])<=70;rw[cQ,cA];omega
 obtain⟨y,e,d⟩:=F;rw[e,d]
end
def FM{α:Type}(f:FuncId):List (FuncId×α)->Option α|[]=>Y|(g,a)::r=>if f=g then Z a else FM f r
noncomputable def vm:List (FuncId×AFn):=[(32,aM JrY),(23,aM Xq),(125,aM Jta),(74,aM Jqe),(73,aM JnK),(76,aM Joe),(66,aM JsK),(77,aM Jqo),(170,aM JGD),(178,aM JoX),(146,aM JGt),(140,aM JtG),(151,aM Zg),(218,aM JnS),(217,aM Yz),(181,aM X9),(180,aM JDh),(179,aM Jrz),(182,aM Jrb),(183,aM Jru),(152,aM Vf),(113,aM Vc),(173,aM JkA),(175,aM Jnr)]
noncomputable def vf:List (FuncId×AFn):=[(174,aM Jnl),(142,aM Wv),(84,aM JFl),(122,aM X3),(115,aM Z4),(153,aM Zz),(117,aM Uj),(92,aM JDl),(172,aM Joc),(216,aM Jda),(171,aM Jnt),(141,aM Jt3),(98,aM Wg),(71,aM Jqd),(75,aM Ja5),(78,aM Jmk),(159,aM J9Z),(226,aM Jc9),(196,aM Jdt),(160,aM yg),(124,aM Jdu),(72,aM J93),(30,aM Z5),(130,aM Zk)]
noncomputable def vu:List (FuncId×AFn):=[(131,aM JoB),(87,aM Jes),(39,aM JtB),(83,aM Joq),(129,aM Jng),(114,aM Ja4),(127,aM J9L),(85,aM JqU),(161,aM J8v),(227,aM J9f),(197,aM Jaz),(162,aM yi),(126,aM JaD),(82,aM J63),(35,aM Ju1),(81,aM Jd4),(80,aM JjV),(34,aM JuC),(65,aM Job),(64,aM Jp9),(112,aM JAE),(62,aM Juc),(102,aM JGw),(101,aM U0)]
noncomputable def vg:List (FuncId×AFn):=[(147,aM JGb),(103,aM JuX),(116,aM Xv),(119,aM X1),(120,aM Jbc),(63,aM J98),(184,aM J9H),(240,aM Jbh),(219,aM JcW),(185,aM yh),(154,aM Jdb),(118,aM J8w),(67,aM JHz),(26,aM Zx),(25,aM rh),(14,aM Js4),(133,aM Jqa),(132,aM JjT),(89,aM Jlb),(41,aM Jnp),(10,aM JJO),(22,aM JAb),(24,aM JAy),(79,aM Zi)]
noncomputable def vj:List (FuncId×AFn):=[(31,aM JGS),(158,aM Yx),(225,aM Jqg),(195,aM JAh),(157,aM JAn),(123,aM U3),(70,aM JDG),(69,aM Vh),(148,aM JH2),(149,aM JGx),(108,aM T2),(150,aM JBD),(110,aM Y8),(109,aM JEy),(68,aM JtT),(111,aM JtR),(134,aM Z0),(107,aM Vk),(58,aM Y3),(60,aM Ym),(90,aM JBO),(88,aM Wb),(33,aM Uw),(42,aM JEL)]
noncomputable def u4:List (FuncId×AFn):=[(198,aM JG7),(163,aM Zy),(201,aM JlX),(199,aM JkZ),(200,aM Jnb),(165,aM Ww),(164,aM X7),(135,aM Y0),(136,aM Jqh),(91,aM Y4),(106,aM Z6),(56,aM Wj),(57,aM Un),(16,aM JDf),(19,aM JEM),(12,aM Zt),(48,aM Jnd),(13,aM Vp),(215,aM Jnk),(169,aM Jqp),(139,aM Jkb),(205,aM Zw),(167,aM JG6),(204,aM JGe)]
noncomputable def ur:List (FuncId×AFn):=[(202,aM JHe),(203,aM JGK),(166,aM JGO),(137,aM JHq),(46,aM Vd),(47,aM JC3),(214,aM Yy),(317,aM Vs),(272,aM U6),(273,aM JBX),(242,aM Vi),(260,aM JAD),(328,aM Jrj),(343,aM JAC),(344,aM JDe),(345,aM JDu),(302,aM JA2),(331,aM Wn),(330,aM Jtz),(280,aM Ud),(248,aM JAw),(346,aM JHd),(303,aM Wd),(304,aM JnB)]
noncomputable def uz:List (FuncId×AFn):=[(259,aM Ug),(236,aM JA1),(228,aM JA0),(206,aM Wu),(293,aM Zc),(294,aM JHt),(339,aM JGc),(296,aM JEK),(292,aM JCn),(336,aM JuS),(337,aM JGV),(338,aM Zv),(295,aM JCd),(249,aM JCA),(231,aM JD6),(246,aM JGi),(263,aM JFr),(255,aM JGs),(291,aM X2),(335,aM JsR),(290,aM X5),(289,aM Vq),(254,aM Yv),(288,aM Vo)]
noncomputable def vq:List (FuncId×AFn):=[(253,aM JL0),(233,aM JBI),(210,aM JnW),(247,aM Vu),(230,aM Ui),(281,aM Wm),(282,aM JAs),(250,aM Yn),(284,aM JEd),(333,aM Z3),(285,aM Ue),(366,aM Vw),(332,aM T0),(283,aM Zq),(286,aM JCT),(251,aM JAj),(334,aM JHk),(287,aM Us),(252,aM Jub),(232,aM JAd),(209,aM Um),(311,aM JFF),(353,aM JFX),(354,aM JDq)]
noncomputable def ul:List (FuncId×AFn):=[(310,aM JuL),(269,aM Z8),(268,aM JsV),(270,aM JEW),(313,aM JAk),(312,aM Jt2),(316,aM JFG),(355,aM Xb),(314,aM JGg),(356,aM JKH),(315,aM JuI),(271,aM JFv),(239,aM JCZ),(267,aM Xs),(238,aM JFp),(306,aM JHs),(262,aM JEA),(370,aM Ve),(349,aM Xz),(350,aM JGB),(307,aM Jrs),(264,aM JAa),(309,aM JGu),(266,aM Xt)]
noncomputable def wt:List (FuncId×AFn):=[(352,aM U2),(374,aM Vb),(371,aM JDo),(351,aM JAl),(308,aM JFi),(265,aM JCL),(348,aM JBQ),(347,aM Yq),(305,aM JDE),(261,aM JFf),(237,aM V3),(213,aM JEu),(211,aM JuU),(277,aM Jst),(329,aM JDv),(278,aM JGM),(244,aM JsD),(361,aM Vv),(324,aM JsS),(363,aM Ju3),(364,aM qp),(326,aM Wi),(360,aM Yc),(322,aM JCX)]
noncomputable def xe:List (FuncId×AFn):=[(321,aM JBJ),(365,aM T5),(327,aM JGd),(362,aM JHv),(325,aM Zf),(319,aM Y1),(358,aM Wy),(359,aM Z7),(320,aM U4),(323,aM JFY),(357,aM Ze),(318,aM Jtk),(274,aM JJK),(275,aM Z2),(276,aM JrL),(243,aM JLb),(279,aM JDn),(245,aM JFx),(229,aM JJH),(208,aM Jmu),(256,aM JEO),(298,aM JAB),(297,aM JDS),(257,aM Vm)]
noncomputable def wn:List (FuncId×AFn):=[(234,aM Ua),(299,aM JCD),(373,aM JCc),(369,aM JCI),(342,aM Uk),(376,aM Zn),(377,aM Jkq),(378,aM Jno),(375,aM Zl),(372,aM Xe),(367,aM Xc),(340,aM Vt),(368,aM JAq),(341,aM JFP),(300,aM Jtp),(301,aM Wt),(258,aM JBT),(235,aM JEY),(212,aM JjZ),(207,aM Jkw),(168,aM Jkf),(138,aM JH3),(95,aM Jmn),(45,aM Jna)]
noncomputable def x7:List (FuncId×AFn):=[(11,aM JJW),(38,aM JBv),(43,aM JEU),(40,aM JBS),(36,aM JCu),(59,aM Jqc),(17,aM JFq),(20,aM Jnu),(86,aM JG5),(37,aM Jrm),(8,aM Jl5)]
noncomputable def fns:List (FuncId×AFn):=vm++(vf++(vu++(vg++(vj++(u4++(ur++(uz++(vq++(ul++(wt++(xe++(wn++(x7)))))))))))))
noncomputable def fks:List (FuncId×lJ):=[(61,CP (.i I) 8),(128,CP J3 128),(53,CP JN 32)]
noncomputable def fps:List (FuncId×Prm):=[(145,JJC),(121,JpK 13 122 (Jk2 J3 Ja8) (_B J3) J8J)]
abbrev PS:=FuncId->Option (List AV->List _x->Option Res)
noncomputable def vB(p:PS):dU:=λf=>K7 (FM f fns) (FM f fks) (FM f fps) (p f)
def AE(l:List TE):Prop:= ∀p,uU (AF (vB p)) l
theorem ae0:AE []:=λ_=>_g
theorem nO{i g S l f}(hf: ∀p,vB p i=Z (.fn (aM f)))(A:AE l)(q: ∀x,onO (gX g x) (λy=>lI (TG.of l) f y.1 y.2 (iB g))=S x)(hs:HU g=O:=by rfl):AE (aF i g S::l):=λp=>⟨uu (hf p) (A p) hs q,A p⟩
end Go.Am
end
