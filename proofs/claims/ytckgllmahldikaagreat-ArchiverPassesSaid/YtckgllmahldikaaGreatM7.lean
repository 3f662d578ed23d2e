/-
  Parts of a proof.
-/
import Derived.Test.YtckgllmahldikaaGreatM3
import Derived.Test.YtckgllmahldikaaGreatM6
set_option linter.unusedSimpArgs false
set_option linter.unusedVariables false
set_option linter.unusedSectionVars false
set_option maxRecDepth 20000
set_option maxHeartbeats 1000000
open Option renaming some → Z,none → Y
open Bool renaming true → O,false → J
open Go.IntKind renaming i64 → I
open List renaming length → _K,mem_cons_self → _L,pairwise_append → _M,pairwise_iff_getElem → _N,pairwise_cons → _O,pairwise_singleton → _R,length_singleton → _T,take_add_one → _U,filterMap_cons → _V,mem_append_right → _Z,length_filter_le → a!,filterMap_append → b!,mem_append_left → c!,filter_append → i!
open Option renaming bind_some → _Q
open Int renaming eq_ofNat_of_zero_le → _W,toNat_natCast → _X
section
namespace Go.Am
def uP:List aA->_j->Prop|[],r=>r=[]|e::l,r=> ∃f t,FrB (mN e) f/\uP l t/\r=f++t
theorem uP.snoc{e:aA}{f:_j}(hf:FrB (mN e) f): ∀{l:List aA} {r:_j},uP l r->uP (l++[e]) (r++f)|[],r,h=>⟨f,[],hf,rfl,by rw[show r=[]from h,gE];rfl⟩|x::l,r,⟨j,g,a,b,e⟩=>⟨j,g++f,a,uP.snoc hf b,by rw[e,iO]⟩
def iQ(x:aF):_j:=[80,77,82,78]++(J0p x.1 8++(J0p x.2.1 8++(J0p x.2.2.1 4++(J0p x.2.2.2.1 4++(J0p x.2.2.2.2.1 1++J0p (J0 (ent x)) 4)))))
theorem XO(x:aF):(iQ x).length=33:=by unfold iQ;simp only[dZ,JO];rfl
theorem JFL{x:aF}{w:_j}(h:tT x=Z w):w=iQ x:=by apply _s.go h;unfold tT;refine .b λy h2=>.b λv o=>.b λz j=>.b λA n=>.b λr e=>.b λq g=>.s ?_;rw[eA (k:=4) _k _k g,eA (k:=1) _k _k e,eA (k:=4) _k _k n,eA (k:=4) _k _k j,eA (k:=8) _k _k o,eA (k:=8) _k _k h2];unfold iQ;simp only[iO];rfl
theorem Dn{x:aF}{y:_j×Int}(R:dD x)(h:kG x=Z y):y.2=0/\ ∃f t,FrB (iQ x) f/\uP (ent x) t/\y.1=f++t:=by
 apply _s.go h;unfold kG;refine .b λv n=>.n (λc=>?_) λ_=>.b λw q=>.b λf hf=>?_;rw[(kj R).2]at n;injection n with n;rw[<-n]at c;cases c;have q:=JFL q;subst q;have hf:=TP hf (by unfold J0;rw[XO];decide);refine .z (fun(z:_j×Int×aF)=>z.2.2=x/\ ∃(j:Nat) (t:_j),z.2.1=(j:Int)/\j<=(ent x).length/\uP ((ent x).take j) t/\z.1=f++t) ⟨rfl,0,[],rfl,zQ2 _,rfl,(gE _).symm⟩ ?_;rintro⟨o,i,k⟩ ⟨rfl,j,t,D,H,ht,B⟩;dsimp only at D B H ht;subst D B;unfold BN;dsimp only;have _e:=Jb (j:Int) 1;refine .l (λc=>.b λe G=>.b λb hb=>.b λg E=>.b λr F=>.s ⟨rfl,j+1,t++g,?_,?_,?_,?_⟩) λc=>.s ⟨rfl,f,t,hf,?_,rfl⟩;have:J0 k.2.2.2.2.2=((ent k).length:Int):=rfl;have A:=R.2.1;have A:((ent k).length:Int)<=4096:=A;dsimp only;omega;have:J0 k.2.2.2.2.2=((ent k).length:Int):=rfl;omega;have C:(ent k)[j]?=Z e:=(by have:=(bT G).2;rw[_X]at this;exact this);have n:=(R.2.2.1 j e C).1;have hb:=Mx hb n;subst hb;rw[_U,C];exact ht.snoc (TP E (by have:=(UA n).2;unfold J0;omega));rw[rN F,iO];have:J0 k.2.2.2.2.2=((ent k).length:Int):=rfl;rw[show j=(ent k).length by omega,List.take_length]at ht;exact ht
theorem At.set{s w:_j}{p:Int}{k:Nat}{c:UInt8}(h:At s w p)(hk:p+w.length<=k):At (s.set k c) w p:=by obtain⟨pre,post,e,h⟩:=h;refine⟨pre,post.set (k-pre.length-w.length) c,?_,h⟩;rw[e,List.set_append_right _ _ oo,List.set_append_right _ _ oo]
theorem HJ{s:_j}{p n:Int}{k:Nat}(b:Nat)(h:At s (J0p n k) p)(hl:s.length<=1000000)(h0:0<=n)(hn:n<b)(hb:b=2^(8*k):=by rfl)(h1:1<=k:=by decide)(e:k<=8:=by decide)(j:n<9223372036854775808:=by omega):JG (s,p,(k:Int))=Z n:=by obtain⟨m,rfl⟩:=_W h0;have g:=DA h h1 e oo oo oo;unfold JG;rw[g];rfl
theorem JHb{x:aF}(R:dD x):bA (iQ x) Y (Z 4)=Z [80,77,82,78]/\JG (iQ x,4,8)=Z x.1/\JG (iQ x,12,8)=Z x.2.1/\JG (iQ x,20,4)=Z x.2.2.1/\JG (iQ x,24,4)=Z x.2.2.2.1/\JG (iQ x,28,1)=Z x.2.2.2.2.1/\JG (iQ x,29,4)=Z (J0 (ent x)):=by
 obtain⟨⟨H,_e,B,C,A,E,F,G⟩,h,_⟩:=R;have h:J0 (ent x)<=4096:=h;have D:=J7 (l:=ent x);have hs:(iQ x).length<=1000000:=by rw[XO];decide
 obtain⟨r,e,d,_⟩:=yC (l:=iQ x) (k:=4) _k (by unfold J0;rw[XO];decide);generalize j:iQ x=s at hs e d⊢;have g:At s (iQ x) 0:=by rw[j];exact .all
 unfold iQ at g;have hd:r=[80,77,82,78]:=by rw[d,<-j];rfl
 replace g:=g.right;have q:(([80,77,82,78]:_j).length:Int)=4:=rfl;rw[q]at g;have z:=HJ (k:=8) 18446744073709551616 g.left hs oo oo;replace g:=g.right;simp only[JO]at g;have y:=HJ (k:=8) 18446744073709551616 g.left hs oo oo;replace g:=g.right;simp only[JO]at g;have w:=HJ (k:=4) 4294967296 g.left hs oo oo;replace g:=g.right;simp only[JO]at g;have o:=HJ (k:=4) 4294967296 g.left hs oo oo;replace g:=g.right;simp only[JO]at g;have v:=HJ (k:=1) 256 g.left hs oo oo;replace g:=g.right;simp only[JO]at g;have n:=HJ (k:=4) 4294967296 g hs oo oo;exact⟨by rw[e,hd],z,y,w,o,v,n⟩
section
variable {x:aF} {f t:_j} (R:dD x) (hf:FrB (iQ x) f) (ht:uP (ent x) t) (hl:J0 (f++t)<=1073741824)
include R hf ht hl
theorem JJZ:_s (sK (f++t)) λy=>y=(x,0):=by
 obtain⟨G,H,A,C,E,B,D⟩:=JHb R;have M:J0 (f++t)=((f++t).length:Int):=rfl;have T:J0 (ent x)<=4096:=R.2.1;have u:=TT (s:=f++t) (p:=0) hf ⟨[],t,rfl,rfl⟩ oo;unfold sK;rw[u];dsimp only[_Q];refine .d (λc=>absurd rfl c) λ_=>.q (λ_=>?_) λc=>absurd (show J0 (iQ x)=33 by unfold J0;rw[XO];rfl) c;rw[G,H,A,C,E,B,D];dsimp only[_Q];rw[if_neg _k];refine .g (λc=>by omega) λ_=>.z (fun(z:qQ)=>z.1=f++t/\z.2.2.1=J0 (ent x)/\z.2.2.2.2.2.2.2.2.2.2.2=([],x.1,x.2.1,x.2.2.1,x.2.2.2.1,x.2.2.2.2.1)/\ ∃rest h,ent x=z.2.2.2.2.2.2.2.2.2.2.1++rest/\z.2.2.2.1=J0 z.2.2.2.2.2.2.2.2.2.2.1/\uP rest h/\At (f++t) h z.2.1/\z.2.1+(h.length:Int)=((f++t).length:Int)) ⟨rfl,rfl,rfl,ent x,t,rfl,rfl,ht,⟨f,[],by rw[gE],(Int.zero_add _).symm⟩,by simp only[dZ];omega⟩ ?_;rintro⟨s,p,m,i,_b,w2,_a,_c,W,P,l,Q⟩ ⟨v,r,w,rest,h,h1,h2,j,k,n⟩;dsimp only at v r w h1 h2 k n;subst v r w h2;have L:J0 (ent x)=J0 l+J0 rest:=by rw[h1,cU]
 have V:=J7 (l:=l);unfold ig;dsimp only;cases rest with
 |nil=>
  have j:h=[]:=j;subst j;have l0:J0 ([]:List aA)=0:=rfl;refine .l (λc=>by omega) λ_=>.map (.d (λc=>absurd (by simp only[List.length_nil]at n;omega) c) λ_=>?_);have q:(x.1,x.2.1,x.2.2.1,x.2.2.2.1,x.2.2.2.2.1,l)=x:=by
   have:l=ent x:=by rw[h1,gE]
   rw[this];rfl
  dsimp only;rw[q,(kj R).2];dsimp only[_Q];exact .n (λc=>by cases c) λ_=>.s rfl
 |cons e rest=>
  obtain⟨S,F,_d,K,rfl⟩:=j;have _e:Jo e=Z O:=by
   have q:(ent x)[l.length]?=Z e:=by rw[h1];simp
   exact(R.2.2.1 _ e q).1
  have N:J0 (e::rest)=1+J0 rest:=by unfold J0;simp;omega
  have U:=J7 (l:=rest);refine .l (λ_=>?_) λc=>by omega
  rw[TT _d k.left oo];dsimp only[_Q];refine .d (λc=>absurd rfl c) λ_=>?_;rw[(UA _e).1];dsimp only[_Q];refine .d (λc=>absurd rfl c) λ_=>.b λl' g=>.s ⟨rfl,rfl,rfl,rest,F,?_,?_,K,k.right,?_⟩;dsimp only;rw[gK (by rw[cI];omega) _k]at g;cases g;rw[h1,iO];rfl;dsimp only;rw[gK (by rw[cI];omega) _k]at g;cases g;have o:=Jb (J0 l) 1;rw[cU,cI];omega;dsimp only;rw[dZ]at n;omega
end
section
theorem lh{r:aF}{s:_j}(R:dD r)(h:kG r=Z (s,0))(hl:J0 s<=1073741824):sK s=Z (r,0):=by obtain⟨_,f,t,hf,ht,e⟩:=Dn R h;have e:s=f++t:=e;subst e;obtain⟨y,g,_⟩:=WN hl;rw[g,JJZ R hf ht hl _ g]
def EA(a:aB)(e:aA):Prop:= ∃x∈cW a,e∈ent x.1
structure Gd(a:aB):Prop where
 ok:gZ a
 fit:xZ 167968836 a
 all: ∀f∈a.2.2.1,∃x,its a f=Z x/\x.1.2.1<a.2.2.2.1
 dis:(cW a).Pairwise λx y=>x.1.2.2.1=y.1.2.2.1->x.1.2.1<y.1.1\/y.1.2.1<x.1.1
 one: ∀e e',EA a e->EA a e'->e.1=e'.1->e=e'
end
section
theorem Rx{a b:List aA}{z:aA}(h:z∈a\/z∈b):z∈mrg a b:=by
 induction a,b using mrg.induct with
 |case1 b=>grind [mrg]
 |case2 x a=>grind [PL]
 |case3 x a y b hc ih=>grind [mrg]
 |case4 x a y b hc ih=>grind [mrg]
theorem Bw: ∀{t:List TX} {acc:List aA} {z:aA},z∈acc\/(∃e∈t,z∈ent e.1)->z∈iL acc t
 |[],_,_,h=>by
  rcases h with h|⟨_,h,_⟩;exact h;cases h
 |x::t,acc,z,h=>by
  refine Bw (t:=t) ?_;rcases h with h|⟨e,g,h⟩;exact .inl (Rx (.inl h));rcases cV.1 g with rfl|g;exact .inl (Rx (.inr h));exact .inr ⟨e,g,h⟩
theorem By{a a':aB}{r r':aF}(h1:a'.1=a.1)(h2:a'.2.1=a.2.1)(h3:r'.2.2.1=r.2.2.1)(h4:r'.2.2.2.1=r.2.2.2.1):jN (a',r')=jN (a,r):=by
 unfold jN;refine QO (λs t=>s.1=t.1/\s.2=(a',r')/\t.2=(a,r)) ?_ ⟨rfl,rfl,rfl⟩;rintro⟨i,s⟩ ⟨j,t⟩ ⟨g,h,e⟩;dsimp only at g h e;subst g h e;have hR:eH (a',i)=eH (a,i):=by unfold eH;dsimp only;rw[h1,h2]
 unfold FV;dsimp only;rw[h1,hR,h3,h4];split;cases eH (a,i)with
 |none=>exact .inl ⟨rfl,rfl⟩
 |some y=>
  dsimp only[_Q];split;split;exact .inr (.inl ⟨_,rfl,rfl⟩);exact .inr (.inr ⟨_,_,rfl,rfl,rfl,rfl,rfl⟩);exact .inr (.inr ⟨_,_,rfl,rfl,rfl,rfl,rfl⟩)
 exact .inr (.inl ⟨_,rfl,rfl⟩)
theorem Bt{α β:Type}{n:Nat}{g:List α->Option β}: ∀{l:List α} {b:β} {w:List α},nQ n g l=Z (b,w)-> ∃pre post,l=pre++w++post/\w.length=n/\g w=Z b
 |[],_,_,h=>by cases h
 |x::t,b,w,h=>by
  rw[Bk]at h;split at h;cases h;rename_i o;split at h;rename_i j hb;injection h with h;injection h with h1 h2;subst h1 h2;exact⟨[],(x::t).drop n,(nV n (x::t)).symm,by rw[yK];omega,hb⟩;obtain⟨p,q,e,k⟩:=Bt h;exact⟨x::p,q,by rw[e];rfl,k⟩
abbrev MS(x y:aC):Prop:=x.1.2.2.1=y.1.2.2.1->x.1.2.1<y.1.1\/y.1.2.1<x.1.1
abbrev GQ(x y:aC):Prop:=x.1.2.2.1=y.1.2.2.1->x.1.2.1<y.1.1
theorem JNW{C:List aC}(h1:C.Pairwise ltN)(h2:C.Pairwise MS)(h3: ∀x∈C,x.1.1<=x.1.2.1):C.Pairwise GQ:=by refine(h1.and h2).imp_of_mem fun{x y} h g k e=>?_;have:=h3 x h;have:=h3 y g;have:=k.2 e;have:=k.1;unfold ltN at this;omega
theorem Pe: ∀{C:List aC} {lo to:Int},C.Pairwise GQ->(∀x∈C,0<x.1.1/\x.1.1<=x.1.2.1/\(x.1.2.2.1=lo->to<x.1.1))->clp lo to C=C.map λx=>(x.1,x.2,O)
 |[],_,_,_,_=>rfl
 |x::t,lo,to,h,j=>by
  obtain⟨n,o⟩:=_O.1 h;obtain⟨b1,b2,q⟩:=j x _L;have k:(if x.1.2.2.1=lo then to else 0)<x.1.1:=by split<;>simp_all
  rw[zR];generalize (if x.1.2.2.1=lo then to else 0)=T at k;rw[if_neg oo,Pe o λy g=>⟨(j y (fR _ g)).1,(j y (fR _ g)).2.1,λe=>n y g e.symm⟩];unfold abv;rw[if_pos k,decide_eq_true k];rfl
end
section
variable {a:aB}
theorem Gd.hf(G:Gd a):QL a:=λf h=>jB (G.fit.1 f h) _k
theorem Gd.num(G:Gd a){x:aC}(hx:x∈CR a):0<x.1.1/\x.1.1<=x.1.2.1:=by obtain⟨g,e,_⟩:=(OA G.ok G.hf hx).1.1;exact⟨by omega,e⟩
theorem Gd.ord(G:Gd a):(CR a).Pairwise GQ:=
 JNW (Mo G.ok G.hf) (((zP (le:=leN) (cW a)).pairwise_iff fun{x y} k e=>(k e.symm).symm).2 G.dis) λx g=>(G.num g).2
theorem Gd.wr(G:Gd a):WR a=(CR a).map λx=>(x.1,x.2,O):=
 Pe G.ord λx g=>⟨(G.num g).1,(G.num g).2,λe=>by have:=G.num g;omega⟩
theorem Gd.uniq(G:Gd a){x y:aC}(hx:x∈cW a)(hy:y∈cW a)(e:x.2=y.2):x=y:=by
 have h:=Qa G.ok G.hf;generalize cW a=l at*
 induction l with
 |nil=>cases hx
 |cons z t ih=>
  obtain⟨h1,h2⟩:=_O.1 h;rcases cV.1 hx with p|p<;>rcases cV.1 hy with q|q
  rw[p,q];have:=h1 y q;rw[p]at e;omega;have:=h1 x p;rw[q]at e;omega;exact ih p q h2
theorem zX{a':aB}(h1:a'.1=a.1)(h2:a'.2.1=a.2.1)(f:aM):its a' f=its a f:=by
 have k: ∀r p,Itc a' f r p↔Itc a f r p:=λr p=>by unfold Itc;rw[By (r:=r) (r':=r) h1 h2 rfl rfl]
 by_cases h: ∃r p,Itc a f r p;obtain⟨r,p,h⟩:=h;rw[zS h,zS ((k r p).2 h)];rw[XA λr p g=>h ⟨r,p,g⟩,XA λr p g=>h ⟨r,p,(k r p).1 g⟩]
theorem lw{a':aB}(h1:a'.1=a.1)(h2:a'.2.1=a.2.1)(_p:_E): ∀F:List aM,(mR _p F).filterMap (its a')=(F.filterMap (its a)).filter λx=> !decide (x.2∈_p)
 |[]=>rfl
 |f::F=>by
  have ih:=lw h1 h2 _p F;unfold mR at*;rw[List.filter_cons,_V];cases e:its a f with
  |none=>
   dsimp only;split;rw[_V,zX h1 h2,e];exact ih;exact ih
  |some x=>
   dsimp only;rw[List.filter_cons,(PH e).1];split;rw[_V,zX h1 h2,e];exact congrArg _ ih;exact ih
theorem ka{α β:Type}{f:α->Option β}: ∀{l:List α},(∀x∈l,∃y,f x=Z y)->(l.filterMap f).length=l.length|[],_=>rfl|x::t,h=>by obtain⟨y,e⟩:=h x _L;rw[_V,e];exact congrArg (· +1) (ka λz g=>h z (fR _ g))
theorem O2{L:Int}: ∀{t:List TX} {z:aF},chX L z t-> ∀e∈t,e.1.2.2.1=z.2.2.1
 |[],_,_,_,h=>by cases h
 |x::t,z,h,e,g=>by
  rcases cV.1 g with rfl|g;exact h.1.1.symm;rw[O2 h.2.2 e g,<-h.1.1]
theorem Q0: ∀{t:List TX} {x:TX},∃e∈x::t,toW x.1.2.1 t=e.1.2.1|[],x=>⟨x,_L,rfl⟩|y::t,x=>by obtain⟨e,h1,h2⟩:=Q0 (t:=t) (x:=y);exact⟨e,fR _ h1,h2⟩
end
section
variable {a:aB}
theorem Gd.to(G:Gd a){x:aC}(hx:x∈cW a):x.1.2.1<a.2.2.2.1:=by obtain⟨f,h1,h2⟩:=List.mem_filterMap.1 hx;obtain⟨y,e,k⟩:=G.all f h1;rw[h2]at e;injection e with e;rw[e];exact k
theorem Gd.lenF(G:Gd a):(CR a).length=a.2.2.1.length:=by unfold CR;rw[iA];exact ka λf hf=>(G.all f hf).imp λ_ k=>k.1
theorem JGw(G:Gd a){fan:Int}(_b:2<=fan/\fan<=8){y:vG}(o:vX a fan y)(hs:a.2.2.2.2<=1073741824):
  (nQ fan.toNat gW (WR a)=Y/\y=(a,J,0))\/ ∃b,y=(b,O,0)/\Gd b/\(∀e,EA b e↔EA a e)/\b.2.2.2.1=a.2.2.2.1/\b.2.2.1.length+1<=a.2.2.1.length/\b.2.2.2.2=a.2.2.2.2+1:=by
 have E:=(o.af _k G.fit).1;rcases o with⟨k,_⟩|⟨_,k,_⟩|⟨_,_,k|⟨r,w,hw,⟨k,_⟩|⟨_,s,s1,s2,rfl⟩⟩⟩;exact absurd G.ok k;exact absurd _b k;exact .inl k;omega;refine .inr ⟨_,rfl,?_⟩;obtain⟨pre,post,e1,Q,C⟩:=Bt hw;have hr:=Mu C λe he=>M7 G.ok G.hf (by rw[e1];simp[he]);rw[G.wr]at e1;obtain⟨q,B,c1,c2,c3⟩:=List.map_eq_append_iff.1 e1;obtain⟨A,W,c4,c5,c6⟩:=List.map_eq_append_iff.1 c2;subst c4 c6;have T:(W.map λx=>(x.1,x.2,O)).map (λx:TX=>x.2.1)=W.map (·.2):=by rw[BR];rfl
 rw[eN]at Q;cases W with
 |nil=>simp at Q;omega
 |cons x t=>
 rw[cJ,PQ]at C;by_cases c:(∀e∈(x.1,x.2,O)::t.map (λx:aC=>(x.1,x.2,O)),e.2.2=O)/\chX x.1.2.2.2.2.1 x.1 (t.map λx:aC=>(x.1,x.2,O))/\fI (jn (x.1,x.2,O) (t.map λx:aC=>(x.1,x.2,O)))=Z O
 case neg=>rw[if_neg c]at C;cases C
 rw[if_pos c]at C;injection C with C;obtain⟨_,a4,_⟩:=c;have U:=O2 a4;have H: ∀z∈x::t,z∈cW a:=λz j=>(vT G.ok G.hf).1 (by rw[c1];simp at j⊢;rcases j with rfl|j<;>simp_all);have _c: ∀z∈x::t,z.1.2.2.1=x.1.2.2.1:=λz j=>by
  rcases cV.1 j with rfl|j;rfl;exact U (z.1,z.2,O) (iN.2 ⟨z,j,rfl⟩)
 have N:r.1=x.1.1:=by rw[<-C];rfl
 have S:r.2.2.1=x.1.2.2.1:=by rw[<-C];rfl
 obtain⟨z,j,R⟩: ∃z∈x::t,r.2.1=z.1.2.1:=by obtain⟨e,h1,h2⟩:=Q0 (t:=t.map λx:aC=>(x.1,x.2,O)) (x:=(x.1,x.2,O));rw[<-cJ (f:=λx:aC=>(x.1,x.2,O))]at h1;obtain⟨z,P,rfl⟩:=iN.1 h1;exact⟨z,P,by rw[<-C];exact h2⟩
 have K: ∀e,e∈ent r↔ ∃z∈x::t,e∈ent z.1:=λe=>by
  rw[<-C];refine⟨λh=>?_,λh=>Bw ?_⟩;rcases oh h with h|⟨u,n,h⟩;exact⟨x,_L,h⟩;obtain⟨z,j,rfl⟩:=iN.1 n;exact⟨z,fR _ j,h⟩;obtain⟨z,j,h⟩:=h;rcases cV.1 j with rfl|j;exact .inl h;exact .inr ⟨(z.1,z.2,O),iN.2 ⟨z,j,rfl⟩,h⟩
 unfold wb at E⊢;rw[T]at E⊢;have _a:J1 I a.2.2.2.2 1=a.2.2.2.2+1:=by have:=G.ok.ser.1;have o:=Jb a.2.2.2.2 1;omega
 rw[_a]at E⊢;generalize hb:((a.1,a.2.1,mR ((x::t).map (·.2)) a.2.2.1++[(1,a.2.2.2.2,s)],a.2.2.2.1,a.2.2.2.2+1):aB)=b at E⊢;have b1:b.1=a.1:=by rw[<-hb]
 have b2:b.2.1=a.2.1:=by rw[<-hb]
 have _e:b.2.2.1=mR ((x::t).map (·.2)) a.2.2.1++[(1,a.2.2.2.2,s)]:=by rw[<-hb]
 have b4:b.2.2.2.1=a.2.2.2.1:=by rw[<-hb]
 have V:b.2.2.2.2=a.2.2.2.2+1:=by rw[<-hb]
 have L:its b (1,a.2.2.2.2,s)=Z (r,a.2.2.2.2):=by obtain⟨f,_,_,⟨p,_,hp,_⟩,_⟩:=oB G.ok G.hf (H x _L);exact zS (p:=p) ⟨rfl,lh hr.1 s1 (jB s2 _k),by rw[By (r:=x.1) (r':=r) b1 b2 S (by rw[<-C];rfl)];exact hp.2.2.1,hp.2.2.2⟩
 have _d:cW b=(cW a).filter (λu=> !decide (u.2∈(x::t).map (·.2)))++[(r,a.2.2.2.2)]:=by unfold cW;rw[_e,b!,lw b1 b2,_V,L];rfl
 have F: ∀u,u∈(cW a).filter (λu=> !decide (u.2∈(x::t).map (·.2)))↔u∈cW a/\u.2∉(x::t).map (·.2):=λu=>by rw[List.mem_filter];simp
 have hlen:(mR ((x::t).map (·.2)) a.2.2.1).length+(x::t).length<=a.2.2.1.length:=by
  have h1:((mR ((x::t).map (·.2)) a.2.2.1).filterMap (its b)).length=(mR ((x::t).map (·.2)) a.2.2.1).length:=ka λf hf=>by obtain⟨u,e,_⟩:=G.all f (List.mem_filter.1 hf).1;exact⟨u,by rw[zX b1 b2];exact e⟩
  rw[<-h1,lw b1 b2,<-G.lenF];have h2:=((zP (le:=leN) (cW a)).filter λu=> !decide (u.2∈(x::t).map (·.2))).length_eq;have P:((cW a).filter λu=> !decide (u.2∈(x::t).map (·.2))).length=((CR a).filter λu=> !decide (u.2∈(x::t).map (·.2))).length:=h2.symm;unfold cW at P;rw[P,c1,i!,i!];have h4:(x::t).filter (λu=> !decide (u.2∈(x::t).map (·.2)))=[]:=List.filter_eq_nil_iff.2 λu n=>by have:u.2∈(x::t).map (·.2):=iN.2 ⟨u,n,rfl⟩;simp only[decide_eq_true this];decide
  rw[h4];have h5:=a! (λu:aC=> !decide (u.2∈(x::t).map (·.2))) A;have h6:=a! (λu:aC=> !decide (u.2∈(x::t).map (·.2))) B;simp only[dZ,List.length_nil]at*;omega
 have M: ∀e,EA b e↔EA a e:=λe=>by
  unfold EA;rw[_d];refine⟨fun⟨u,n,h⟩=>?_,fun⟨u,n,h⟩=>?_⟩;rcases zQ9.1 n with n|n;exact⟨u,((F u).1 n).1,h⟩;rw[dC.1 n]at h;obtain⟨z,j,h⟩:=(K e).1 h;exact⟨z,H z j,h⟩;by_cases k:u.2∈(x::t).map (·.2);obtain⟨z,j,Q⟩:=iN.1 k;have:=G.uniq (H z j) n Q;subst this;exact⟨_,_Z _ _L,(K e).2 ⟨z,j,h⟩⟩;exact⟨u,c! _ ((F u).2 ⟨n,k⟩),h⟩
 refine⟨⟨⟨b2▸G.ok.pages,b1▸G.ok.len,b1▸G.ok.zero,b1▸G.ok.asc,by rw[b1,b2];exact G.ok.last,b4▸G.ok.next,?_,?_,?_,?_⟩,E,?_,?_,?_⟩,M,b4,?_,V⟩;rw[V];have:=G.ok.ser.1;omega;rw[_e];have:=G.ok.few;unfold J0 at*;simp only[dZ,pH,List.length_nil]at*;omega;rw[_e];refine _M.2 ⟨G.ok._p.filter _,_R _ _,λf hf g hg=>?_⟩;rw[dC.1 hg];exact(G.ok.inr f (List.mem_filter.1 hf).1).2;rw[_e,V];intro f hf;rcases zQ9.1 hf with hf|hf;have:=G.ok.inr f (List.mem_filter.1 hf).1;omega;rw[dC.1 hf];have:=G.ok.ser.1;dsimp only;omega;rw[_e,b4];intro f hf;rcases zQ9.1 hf with hf|hf;obtain⟨u,e,k⟩:=G.all f (List.mem_filter.1 hf).1;exact⟨u,by rw[zX b1 b2];exact e,k⟩;rw[dC.1 hf];exact⟨_,L,by rw[R];exact G.to (H z j)⟩;rw[_d];refine _M.2 ⟨G.dis.filter _,_R _ _,λu n v hv e=>?_⟩;rw[dC.1 hv]at e⊢;obtain⟨u1,u2⟩:=(F u).1 n;have D:u∈CR a:=(vT G.ok G.hf).2 u1;have ho:=G.ord;rw[c1]at D ho;rw[iO]at D ho;obtain⟨_,o2,o3⟩:=_M.1 ho;obtain⟨_,_,o5⟩:=_M.1 o2;dsimp only at e⊢;rw[S]at e;rw[N,R];rcases zQ9.1 D with D|D;exact .inl (o3 u D x (by simp) e);rcases zQ9.1 D with D|D;exact absurd (iN.2 ⟨u,D,rfl⟩) u2;exact .inr (o5 z j u D ((_c z j).trans e.symm));exact λe e' h h'=>G.one e e' ((M e).1 h) ((M e').1 h');rw[_e];simp only[dZ,pH,List.length_nil]at*;omega
end
section
theorem Bv(l:List aA)(e:aA):J0 (cA l e)<=J0 l+1:=by
 unfold J0
 induction l with
 |nil=>simp[cA]
 |cons x l ih=>
  unfold cA;split;simp only[pH]at*;omega;split<;>simp only[pH]at* <;>omega
theorem JKz{l:List aA}{from_ to lo hi lv:Int}(hl:J0 l<=4096):_s (KL (l,from_,to,lo,hi,lv)) λy=>y.2=0->dD y.1/\y.1.1=from_/\y.1.2.1=to/\y.1.2.2.1=lo/\y.1.2.2.2.1=hi/\ ∀e∈ent y.1,e∈l:=by
 unfold KL;refine .b λ_ _=>.n (λ_=>.s λh=>absurd h _k) λ_=>.z (λz=>z.1=l/\z.2.1=from_/\z.2.2.1=to/\z.2.2.2.1=lo/\z.2.2.2.2.1=hi) ⟨rfl,rfl,rfl,rfl,rfl⟩ ?_;rintro⟨g,w,x,n,j,R,S,Q⟩ ⟨rfl,rfl,rfl,rfl,rfl⟩;have hl:J0 g<=4096:=hl;unfold Ha;refine .l (λ_=>.b λ_ _=>.b λ_ _=>.n (λ_=>.s λh=>absurd h _k) λ_=>.s ⟨rfl,rfl,rfl,rfl,rfl⟩) λ_=>.map ?_;refine .z (λz=> ∃A i C r,z=(g,w,x,n,j,A,i,C,r)/\r.1=w/\r.2.1=x/\r.2.2.1=n/\r.2.2.2.1=j/\0<=i/\J0 (ent r)<=i/\ ∀e∈ent r,e∈g) ⟨_,_,_,_,rfl,rfl,rfl,rfl,rfl,bC _,bC _,nofun⟩ ?_;rintro _ ⟨A,i,C,r,rfl,h1,h2,H,F,U,T,D⟩;unfold r4;dsimp only;have _d:i<J0 g->J1 I i 1=i+1:=λc=>by have o:=Jb i 1;omega
 refine .l (λc=>.b λB M=>.b λ_ _=>?_) λc=>.map ?_;have c:=_d c;have nx: ∃K E _e r',((g,w,x,n,j,A,J1 I i 1,C,r):f0)=(g,w,x,n,j,K,E,_e,r')/\r'.1=w/\r'.2.1=x/\r'.2.2.1=n/\r'.2.2.2.1=j/\0<=E/\J0 (ent r')<=E/\ ∀e∈ent r',e∈g:=⟨_,_,_,_,rfl,h1,h2,H,F,by omega,by omega,D⟩;refine .r (λ_=>.j (λ_=>.k (λ_=>.j (λ_=>.g (λ_=>.s nx) λ_=>?_) λ_=>.s nx) λ_=>.s nx) λ_=>.s nx) λ_=>.s nx;refine .z (λz=> ∃A k,z=(g,w,x,n,j,A,i,k,C,r,B)) ⟨_,_,rfl⟩ ?_;rintro _ ⟨P,k,rfl⟩;unfold sv;dsimp only;refine .l (λ_=>.t (λ_=>.b λ_ _=>.e (λ_=>.b λ_ _=>.s ⟨_,_,rfl⟩) λ_=>.s ⟨_,_,rfl⟩) λ_=>.s ⟨_,_,rfl⟩) λ_=>.map (.b λy L=>.s ?_);have q:=bT M;have N:B∈g:=zQ5 q.2;have e:=(j7 (l:=ent r) (e:=B) oo).get L;refine⟨_,_,_,_,rfl,h1,h2,H,F,by omega,?_,?_⟩;show J0 y.1<=_;rw[e];have:=Bv (ent r) B;omega;show∀z∈y.1,z∈g;rw[e];intro z G;rcases Sc G with G|rfl;exact D z G;exact N;refine .i (λ_=>.s λh=>absurd h _k) λ_=>.g (λ_=>.s λh=>absurd h _k) λ_=>.b λv _c=>.n (λ_=>.s λh=>absurd h _k) λk=>.s λ_=>?_;subst k;exact⟨dD.of _c,h1,h2,H,F,D⟩
theorem Aq{a:aB}(hb:J0 a.1<=16){i lo hi:Int}(h0:0<=i)(h:eH (a,i)=Z (lo,hi))(v:i<J0 a.1){r:aF}(h1:r.2.2.1=lo)(h2:r.2.2.2.1=hi): ∃p,jN (a,r)=Z p/\0<=p:=by
 obtain⟨p,e,_⟩:=NI hb r;refine⟨p,e,?_⟩;apply _s.go e;unfold jN;refine .z (λz=>z.2=(a,r)/\0<=z.1/\z.1<=i) ⟨rfl,bC _,h0⟩ ?_;rintro⟨j,z⟩ ⟨k,g,n⟩;have k:z=(a,r):=k;subst k;dsimp only at g n;unfold FV;dsimp only;refine .l (λc=>?_) λc=>by omega
 by_cases q:j=i;subst q;rw[h];dsimp only[_Q];exact .e (λ_=>.e (λ_=>.s g) λc=>absurd h2.symm c) λc=>absurd h1.symm c;have o:J1 I j 1=j+1:=(by have o:=Jb j 1;omega);have nx:(((J1 I j 1,a,r):xr).2=(a,r))/\0<=J1 I j 1/\J1 I j 1<=i:=⟨rfl,by omega,by omega⟩;exact .b λ_ _=>.e (λ_=>.e (λ_=>.s g) λ_=>.s nx) λ_=>.s nx
end
section
theorem JIg{a:aB}{i:Int}:_s (eH (a,i)) λy=>idx a.1 i=Z y.1:=.l (λ_=>.b λ_ _=>.b λ_ h=>.s h) λ_=>.b λ_ h=>.s h
structure Mid(a:aB)(es:List aA)(from_ to:Int)(k:Nat)(b:Int×List aM):Prop where
 ser:b.1=a.2.2.2.2+k
 len:J0 b.2=J0 a.2.2.1+k
 _p:b.2.Pairwise λf g=>f.2.1<g.2.1
 inr: ∀f∈b.2,0<f.2.1/\f.2.1<b.1
 fit: ∀f∈b.2,J0 f.2.2<=167968836
 all: ∀f∈b.2,∃x,its a f=Z x/\x.1.2.1<=to
 dis:(b.2.filterMap (its a)).Pairwise MS
 old: ∀x∈b.2.filterMap (its a),x.1.2.1<from_\/(x.1.1=from_/\x.1.2.1=to/\ ∃j,j<k/\a.1[j]?=Z x.1.2.2.1)
 ent: ∀x∈b.2.filterMap (its a),∀e∈ent x.1,(e.1<from_/\EA a e)\/(from_<=e.1/\e∈es)
 top:0<k->to<=1099511627776
theorem JHw{a:aB}{l:Jx}{n:Int}(G:Gd a)(hl:Ty.fit 16384 1073741824 JR l)(hn: -9223372036854775808<=n/\n<=9223372036854775807):_n (AR (a,l,n)) λy=>y.2=0->Gd y.1/\y.1.2.2.2.2+y.1.2.2.1.length<=a.2.2.2.2+a.2.2.1.length+32:=by
 have D: ∀{z:aB} {k:Int},k≠0->((z,k):kO).2=0->Gd z/\z.2.2.2.2+(z.2.2.1.length:Int)<=a.2.2.2.2+a.2.2.1.length+32:=λh k=>absurd k h;have h:=G.fit;unfold AR;refine .b (fu a) λy2 h2=>.n (λ_=>.s (D _k)) λc=>?_;have ok:=h2.1 c;refine .b (qM hl)._B λy3 af=>.n (λ_=>.s (D _k)) λc3=>.j (λc4=>.g (λ_=>.s (D _k)) λc5=>?_) λ_=>.s (D _k);obtain⟨h3,ad⟩:=af;subst c3;have lv:=h3.2 rfl;have _d:=(r7 hl ad).2;dsimp only at c4 c5 lv _d⊢;have nx:=ok.next;have m1:=oD a.2.2.2.1 l.1;have o1:=Jb (bP a.2.2.2.1 l.1) n;have o2:=JX (J1 I (bP a.2.2.2.1 l.1) n) 1;have m2:=VS (Ji I (J1 I (bP a.2.2.2.1 l.1) n) 1) l.2.2;generalize bP a.2.2.2.1 l.1=from_ at*;generalize gX (Ji I (J1 I from_ n) 1) l.2.2=to at*;refine .l (λ_=>.s λ_=>⟨G,by dsimp only;omega⟩) λc6=>.k (λc7=>.g (λ_=>.s (D _k)) λc8=>?_) λ_=>.s (D _k);have o3:=JX from_ l.1;have o4:=JX to l.1;have o5:=Jb (Ji I to l.1) 1;have bl:=ok.len;have fl:=ok.few;have o6:=Jb (J0 a.2.2.1) (J0 a.1);have o7:=Jb a.2.2.2.2 (J0 a.1);have fn:=J7 (l:=a.2.2.1);have sr:=ok.ser;obtain⟨es,ag,des,_⟩:=vV (l:=l.2.1) (j:=Ji I from_ l.1) (k:=J1 I (Ji I to l.1) 1) oo oo oo;have fe:Ty.fit 16384 1073741824 (.l J3) es:=by rw[des];exact nj (WY hl.2.1)
 have le:J0 es<=4096:=by rw[des];have:=lv.2.2.1;unfold J0 at*;simp;omega
 have W: ∀e∈es,e∈l.2.1:=λe A=>by rw[des]at A;exact zQ7 (uz A)
 refine .w ag ?_;have T: ∀fs:List aM,fs=a.2.2.1->_n (J4 SF (from_,to,es,0,a,l,[],[],0,0,0,[],a.1,a.2.1,a.2.2.2.1,a.2.2.2.2,fs)) λy=>y.2=0->Gd y.1/\y.1.2.2.2.2+y.1.2.2.1.length<=a.2.2.2.2+a.2.2.1.length+32:=by
  intro fs ae;subst ae;refine gQ (l:=a.1) (λi (b:Int×List aM)=>(from_,to,es,i,a,l,[],[],0,0,0,[],a.1,a.2.1,a.2.2.2.1,b.1,b.2)) (λpre b=>Mid a es from_ to pre.length b) (λpre x t b g hp=>?_) (λb hp=>?_) a.1 [] (a.2.2.2.2,a.2.2.1) _ rfl rfl ⟨by simp,by simp,ok._p,ok.inr,h.1,λf hf=>by obtain⟨x,e,k⟩:=G.all f hf;exact⟨x,e,by omega⟩,G.dis,λx E=>.inl (by have:=G.to E;omega),λx E e A=>.inl ⟨by have:=G.to E;have:=(tG (oB G.ok G.hf E).choose_spec.2.2.2.1 A).2;omega,x,E,A⟩,λk=>absurd k (by simp)⟩;have lt:=eJ g;have np:=J7 (l:=pre);have lp:J0 pre=(pre.length:Int):=rfl;unfold SF;dsimp only;rw[if_pos (JI.2 lt),iB g (n:=16) bl.2];refine .b (pe ok np lt)._B λF a5=>?_;obtain⟨V,M⟩:=a5;refine .b (Tq (B:=16384) (S:=1073741824) (X:=(es,from_,to,F.1,F.2,0)) ⟨fe,J2.2 (show -9223372036854775808<=from_/\from_<=9223372036854775807 by omega),J2.2 (show -9223372036854775808<=to/\to<=9223372036854775807 by omega),V.1.u,V.2.u,kS I 0⟩)._B λw a3=>.d (λk=>.s (D k)) λah=>?_;obtain⟨a9,_a⟩:=a3;obtain⟨R,q1,q2,q3,q4,q5⟩:=JKz le _ _a ah;refine .b (JIQ (x:=w.1) (Ty.fit.up _k _k a9.1))._B λL a0=>.w (gK (by rw[cI];have:=hp.len;omega) _k) (.s ⟨(J1 I b.1 1,b.2++[(1,b.1,L.1)]),rfl,?_⟩);obtain⟨_e,Q⟩:=a0;have s0:L.2=0:=(Dn R Q).1;obtain⟨s,z⟩:=L;dsimp only at s0 _e⊢;subst s0;obtain⟨p,p1,p2⟩:=Aq (r:=w.1) ok.len.2 np (show eH (a,J0 pre)=Z (F.1,F.2)from M) lt q3 q4;have P:its a (1,b.1,s)=Z (w.1,b.1):=zS (p:=p) ⟨rfl,lh R Q (jB _e _k),p1,p2⟩;have H:a.1[pre.length]?=Z w.1.2.2.1:=by
   have e:=JIg _ M;obtain⟨_,e⟩:=bT e;rw[q3,<-e]
   congr 1
  have hs:b.1=a.2.2.2.2+pre.length:=hp.ser;have a6:J1 I b.1 1=b.1+1:=by have o:=Jb b.1 1;omega
  have N:(b.2++[(1,b.1,s)]).filterMap (its a)=b.2.filterMap (its a)++[(w.1,b.1)]:=by rw[b!,_V,P];rfl
  have num:1<=w.1.1/\w.1.1<=w.1.2.1/\w.1.2.1<=1099511627776:=⟨R.1.1,R.1.2.1,R.1.2.2.1⟩;rw[a6];refine⟨by simp only[dZ,_T];omega,by rw[cU,cI,hp.len];simp only[dZ,_T];omega,?_,?_,?_,?_,?_,?_,?_,λ_=>by omega⟩;refine _M.2 ⟨hp._p,_R _ _,λf hf g hg=>?_⟩;rw[dC.1 hg];exact(hp.inr f hf).2;intro f hf;rcases zQ9.1 hf with hf|hf;have:=hp.inr f hf;dsimp only;omega;rw[dC.1 hf];dsimp only;omega;intro f hf;rcases zQ9.1 hf with hf|hf;exact hp.fit f hf;rw[dC.1 hf];exact _e;intro f hf;rcases zQ9.1 hf with hf|hf;exact hp.all f hf;rw[dC.1 hf];exact⟨_,P,by dsimp only;omega⟩;rw[N];refine _M.2 ⟨hp.dis,_R _ _,λu C v hv e=>?_⟩;rw[dC.1 hv]at e⊢;dsimp only at e⊢;rcases hp.old u C with k|⟨_,_,j,j1,j2⟩;exact .inl oo;exfalso;have _c:=ok.asc;unfold Asc at _c;have pp:=_N.1 _c;obtain⟨l1,e1⟩:=dT.1 j2;obtain⟨l2,e2⟩:=dT.1 H;have:=pp j pre.length l1 l2 j1;omega;rw[N];intro u C;simp only[dZ,_T];rcases zQ9.1 C with C|C;rcases hp.old u C with k|⟨k1,K,j,j1,j2⟩;exact .inl k;exact .inr ⟨k1,K,j,by omega,j2⟩;rw[dC.1 C];exact .inr ⟨q1,q2,pre.length,by omega,H⟩;rw[N];intro u C e A;rcases zQ9.1 C with C|C;exact hp.ent u C e A;rw[dC.1 C]at A;have:=(tG R A).1;exact .inr ⟨by omega,q5 e A⟩;unfold SF;dsimp only;rw[if_neg (by rw[JI];omega)];refine .s λ_=>?_;have ll:J0 a.1=(a.1.length:Int):=rfl;have ht:=hp.top oo;have ab:J1 I to 1=to+1:=by have o:=Jb to 1;omega
  have al:=hp.ser;have hlen:=hp.len;have hR:cW (a.1,a.2.1,b.2,to+1,b.1)=b.2.filterMap (its a):=by show b.2.filterMap (its (a.1,a.2.1,b.2,to+1,b.1))=_;exact congrArg (λg=>List.filterMap g b.2) (funext λf=>zX (a:=a) (a':=(a.1,a.2.1,b.2,to+1,b.1)) rfl rfl f)
  have bn:J0 b.2=(b.2.length:Int):=rfl;have an:J0 a.2.2.1=(a.2.2.1.length:Int):=rfl;rw[ab];refine⟨⟨⟨ok.pages,ok.len,ok.zero,ok.asc,ok.last,⟨by dsimp only;omega,by dsimp only;omega⟩,⟨by dsimp only;omega,by dsimp only;omega⟩,by dsimp only;omega,hp._p,hp.inr⟩,⟨hp.fit,by dsimp only;omega,h.2.2⟩,λf hf=>?_,?_,?_⟩,by dsimp only;omega⟩;obtain⟨x,e,k⟩:=hp.all f hf;exact⟨x,(zX (a:=a) (a':=(a.1,a.2.1,b.2,to+1,b.1)) rfl rfl f).trans e,by dsimp only;omega⟩;rw[hR];exact hp.dis;have _b: ∀e,EA (a.1,a.2.1,b.2,to+1,b.1) e->(e.1<from_/\EA a e)\/(from_<=e.1/\e∈es):=λe ⟨x,E,A⟩=>by
   rw[hR]at E;exact hp.ent x E e A
  intro e e' A ac q;rcases _b e A with⟨k1,K⟩|⟨k1,K⟩<;>rcases _b e' ac with⟨k3,k4⟩|⟨k3,k4⟩
  exact G.one e e' K k4 q;omega;omega;obtain⟨j,hj⟩:=fA.1 (W e K);obtain⟨i,hi⟩:=fA.1 (W e' k4);have a1:=(_d j e hj).1;have a2:=(_d i e' hi).1;have:j=i:=by omega
  subst this;rw[hj]at hi;injection hi
 refine gQ (l:=es) (λi (_:Unit)=>(from_,to,es,i,a,l,[],[],0,0,0)) (λ_ _=>True) (λpre x t _ g _=>?_) (λ_ _=>?_) es [] () _ rfl rfl trivial;have U:=gO g;unfold dj;dsimp only;rw[if_pos (JI.2 (eJ g)),iB g (n:=4096) le];exact .w U (.p (λ_=>.w U (.e (λ_=>.w U (.h (λ_=>.s (D _k)) λ_=>.s ⟨(),rfl,_g⟩)) λ_=>.s ⟨(),rfl,_g⟩)) λ_=>.w U (.h (λ_=>.s (D _k)) λ_=>.s ⟨(),rfl,_g⟩));unfold dj;dsimp only;rw[if_neg (by rw[JI];omega)];exact .endq (.w (DD oo _k) (T _ rfl))
end
section
def GS(l:_E)(i:Int):Prop:=1<=J0 l/\J0 l<=16/\idx l 0=Z 0/\Asc l/\ ∀z∈l,z<i
theorem JIH{n:Int}{c:Jd}(h0:1<=n)(hn:n<=64)(hc:yH c):_n (ZE (n,c)) λy=>GS y.1 n/\yH y.2:=by
 unfold ZE;refine Jl (τ:=Int×Jd×_E) (λq=>(n,q.1,q.2.1,q.2.2)) (λq=>1<=q.1/\q.1<=n/\yH q.2.1/\GS q.2.2 q.1) (λq=>n-q.1) ?_ (1,c,[0]) rfl ⟨bC _,h0,hc,show(1:Int)<=1 by decide,show(1:Int)<=16 by decide,rfl,_R _ _,λz e=>by rw[dC.1 e];show(0:Int)<1;decide⟩;rintro⟨i,c,l⟩ ⟨h1,hi,h2,A,w,r,v,h⟩;dsimp only at h1 hi h2 A w r v h;unfold Hq;dsimp only;have o:=Jb i 1;have keep: ∀{j:Int},i<=j->GS l j:=λk=>⟨A,w,r,v,λz e=>by have:=h z e;omega⟩;refine .l (λk=>.b (nx (n:=3) _k h2.1 h2.2) λy g=>.e (λ_=>.l (λC=>.w (gK (by rw[cI];omega) _k) (.s ⟨(J1 I i 1,y.2,l++[i]),rfl,⟨by dsimp only;omega,by dsimp only;omega,g.2,?_⟩,by dsimp only;omega,by omega⟩)) λ_=>.s ⟨(J1 I i 1,y.2,l),rfl,⟨by dsimp only;omega,by dsimp only;omega,g.2,keep (by dsimp only;omega)⟩,by dsimp only;omega,by omega⟩) λ_=>.s ⟨(J1 I i 1,y.2,l),rfl,⟨by dsimp only;omega,by dsimp only;omega,g.2,keep (by dsimp only;omega)⟩,by dsimp only;omega,by omega⟩) λ_=>.s ⟨keep hi,h2⟩;dsimp only;refine⟨by rw[cU,cI];omega,by rw[cU,cI];omega,?_,?_,λz e=>?_⟩;cases l with
 |nil=>cases r
 |cons x t=>exact r
 exact _M.2 ⟨v,_R _ _,λx B y g=>by rw[dC.1 g];exact h x B⟩;rcases zQ9.1 e with e|e;have:=h z e;omega;rw[dC.1 e];omega
theorem JKs{n:Int}{l:_E}(h0:1<=n)(hn:n<=64)(hl:GS l n):_n (ER (n,l)) λy=>Gd y.1/\y.1.2.2.2.2+y.1.2.2.1.length=1:=by
 obtain⟨h1,h2,q,h,j⟩:=hl;have ok:gZ (l,n,[],1,1):=⟨⟨h0,hn⟩,⟨h1,h2⟩,q,h,λz o=>j z (zQ5 (bT o).2),show(1:Int)<=1/\(1:Int)<=1099511627777 by decide,show(1:Int)<=1/\(1:Int)<=1073741825 by decide,show(0:Int)<=256 by decide,List.Pairwise.nil,nofun⟩;have g:AZ (l,n,[],1,1)=Z O:=by obtain⟨y,e,k⟩:=fu (l,n,[],1,1);rw[e,k.2 ok]
 have hb:FG (n,l)=Z O:=by
  unfold AZ at g;dsimp only at g;cases hb:FG (n,l)with
  |none=>rw[hb]at g;cases g
  |some b=>
   cases b with
   |true=>rfl
   |false=>rw[hb]at g;cases g
 unfold ER;refine .w hb (.n (λc=>by cases c) λ_=>.w (DD (by dsimp only;omega) _k) (.s ⟨⟨ok,⟨nofun,by show J0 ([]:List aM)<=257;decide,h2⟩,nofun,List.Pairwise.nil,λe _ ⟨x,r,_⟩=>by cases r⟩,rfl⟩))
end
section
variable {a:aB}
noncomputable def EL(a:aB):List aA:=(CR a).flatMap λx=>ent x.1
theorem JPQ(G:Gd a)(z:aA):z∈EL a↔EA a z:=by unfold EL EA;rw[List.mem_flatMap];exact⟨fun⟨x,e,h⟩=>⟨x,(vT G.ok G.hf).1 e,h⟩,fun⟨x,e,h⟩=>⟨x,(vT G.ok G.hf).2 e,h⟩⟩
theorem JQP(G:Gd a):gp a=Z ((CR a).map (·.1),(CR a).map (·.2)):=by
 have h:=G.ok;have hf:=G.hf;apply _n.go;unfold gp;refine .b (ft a) λy L=>.n (λc=>by rw[L.2 h]at c;cases c) λ_=>gQ (l:=a.2.2.1) (λi (b:List aC)=>(a.2.2.1,J0 a.2.2.1,i,a,[],[],b)) (λpre b=>b=pre.filterMap (its a)) (λpre f t b hl hp=>?_) (λb hp=>?_) a.2.2.1 [] [] _ rfl rfl rfl;have w:f∈a.2.2.1:=by rw[hl];simp
 unfold tv;dsimp only;rw[if_pos (JI.2 (eJ hl))];refine .w (gO hl) (.b (JRr h.len.2 (hf f w)) λ_d g=>?_);rw[iB hl (n:=256) h.few];rcases g with⟨v,p,_,r⟩|⟨v,r⟩;rw[v];refine .w (gK (l:=b) (m:=[(_d.1,f.2.1)]) (by have:=List.length_filterMap_le (its a) pre;have e:=h.few;have P:=eJ hl;rw[hp,cI];unfold J0 at*;omega) _k) (.s ⟨_,rfl,?_⟩);rw[hp,b!,_V,zS r];rfl;rw[v];refine .s ⟨b,rfl,?_⟩;rw[hp,b!,_V,XA r];simp;subst hp;unfold tv;dsimp only;rw[if_neg (by rw[JI];omega)];refine .endq ?_;have M:=kw h hf;refine .w (show ze (cW a)=Z (CR a)from Og (le:=leN) (λx y z h1 h2=>by rw[DV]at*;unfold ltN at*;omega) (λx y=>by rw[DV,DV];unfold ltN;omega) JRm oo) ?_;rw[if_pos (show nO (_K (CR a)) (_K (List.filterMap (its a) a.2.2.1))=O by show nO (_K (CR a)) (_K (cW a))=O;unfold CR;rw[iA];simp[nO])];have N:=VM h hf;refine gQ (l:=CR a) (λi (b:Int×Int×List aC)=>(b.1,b.2.1,J0 (CR a),i,a,b.2.2.map (·.1),b.2.2.map (·.2),CR a)) (λpre b=>b.2.2=pre/\ ∀y:aC,(∀z∈pre,GQ z y)->y.1.2.2.1=b.1->0<y.1.1->b.2.1<y.1.1) (λpre x t b hl hp=>?_) (λb hp=>?_) (CR a) [] (-1,0,[]) _ rfl rfl ⟨rfl,λ_ _ _ k=>k⟩;obtain⟨lo,to,A⟩:=b;obtain⟨j,q⟩:=hp;dsimp only at j q⊢;subst j;have C:x∈CR a:=by rw[hl];simp
 obtain⟨E,_c⟩:=G.num C;have D:=G.ord;rw[hl]at D;have _e: ∀z∈A,GQ z x:=λz K=>(_M.1 D).2.2 z K x _L;have lp:A.length<256:=by
  have:(CR a).length=A.length+(t.length+1):=by rw[hl];simp
  omega
 have B: ∀{o:Int},o<x.1.1->SO (x.1,o)=Z x.1:=λk=>by unfold SO;exact if_pos (fN.2 k)
 have nxt: ∀y:aC,(∀z∈A++[x],GQ z y)->y.1.2.2.1=x.1.2.2.1->0<y.1.1->x.1.2.1<y.1.1:=λy k e _=>k x (by simp) e.symm;have F:=gK (bytes:=64) (l:=A.map (·.1)) (m:=[x.1]) (by rw[cI];unfold J0;rw[eN];omega) _k;have H:=gK (bytes:=8) (l:=A.map (·.2)) (m:=[x.2]) (by rw[cI];unfold J0;rw[eN];omega) _k;unfold ua;dsimp only;rw[if_pos (JI.2 (eJ hl)),JNp hl,JNc hl,iB hl (n:=256) (by unfold J0;omega)];simp only[JF];refine .d (λ_=>.G (λc=>by omega) λ_=>.w (B E) (.w F (.w H (.s ⟨(x.1.2.2.1,x.1.2.1,A++[x]),by simp,rfl,nxt⟩)))) λc=>?_;have lt:=q x _e c E;exact .G (λk=>by omega) λ_=>.w (B lt) (.w F (.w H (.s ⟨(lo,x.1.2.1,A++[x]),by simp,rfl,λy k e=>nxt y k (e.trans c.symm)⟩)));obtain⟨lo,to,A⟩:=b;have j:=hp.1;dsimp only at j;subst j;unfold ua;dsimp only;rw[if_neg (by rw[JI];omega)];exact .s rfl
end
section
theorem JI3{l es pre post:List aA}{f t lo hi:Int}(h:l=pre++(es++post))(h1: ∀x∈pre,x.1<f)(h2: ∀x∈post,t<x.1):sel es f t lo hi=sel l f t lo hi:=by
 have g: ∀{m:List aA},(∀x∈m,x.1<f\/t<x.1)->m.filter (inB f t lo hi)=[]:=fun{m} j=>by rw[List.filter_eq_nil_iff];intro x e c;have q:=tN.1 c;have:=j x e;omega
 unfold sel;rw[h,i!,i!,g λx e=>.inl (h1 x e),g (m:=post) λx e=>.inr (h2 x e)];simp
end
section
theorem JNF{e:aA}(h:Jo e=Z O)(hk:e.2.1=1\/e.2.1=2):0<=aV e:=by
 have k:_s (iJ e.2.2.2.2.2.2.1) λy=>y=O->0<=aV e:=.h (λc=>λ_ _ _=>c) λ_=>.s nofun
 obtain⟨_,_,_,_,_,_,_,_,_,_,_,g,_⟩:=EF.of h hk;exact k _ g rfl
end
section
variable {a:aB}
theorem R0{r:aF}{p:Int}(h:jN (a,r)=Z p)(h0:0<=p):eH (a,p)=Z (r.2.2.1,r.2.2.2.1):=by
 revert h0
 apply _s.go h;unfold jN;refine .z (λz=>z.2.1=a/\z.2.2=r) ⟨rfl,rfl⟩ ?_;rintro⟨i,a',r'⟩ ⟨h1,h2⟩;dsimp only at h1 h2;subst h1 h2;unfold FV;dsimp only;refine .l (λ_=>.b λy j=>.e (λg=>.e (λe=>.s λ_=>?_) λ_=>.s ⟨rfl,rfl⟩) λ_=>.s ⟨rfl,rfl⟩) λ_=>.s λh=>absurd h _k;rw[j,<-g,<-e]
theorem Ny(ok:gZ a){i j x y:Int}(h:i<j)(hx:idx a.1 i=Z x)(hy:idx a.1 j=Z y):x<y:=by obtain⟨n,hx⟩:=bT hx;obtain⟨_,hy⟩:=bT hy;obtain⟨e,k⟩:=dT.1 hx;obtain⟨g,o⟩:=dT.1 hy;have:=_N.1 ok.asc i.toNat j.toNat e g oo;omega
theorem QI(ok:gZ a){i lo hi:Int}(h0:0<=i)(h1:i<J0 a.1)(h:eH (a,i)=Z (lo,hi)):idx a.1 i=Z lo/\((i+1<J0 a.1/\idx a.1 (i+1)=Z (hi+1))\/(i+1=J0 a.1/\hi+1=a.2.1)):=by
 have k:=ok.len.2;have j:=ok.pages;have g:J1 I i 1=i+1:=by have o:=Jb i 1;omega
 have e:_s (eH (a,i)) λy=>idx a.1 i=Z y.1/\((i+1<J0 a.1/\idx a.1 (i+1)=Z (y.2+1))\/(i+1=J0 a.1/\y.2+1=a.2.1)):=(by unfold eH;dsimp only;rw[g];refine .l (λc=>.b λb hb=>.b λl hl=>.s ⟨hl,.inl ⟨c,?_⟩⟩) λc=>.b λl hl=>.s ⟨hl,.inr ⟨by omega,?_⟩⟩;have:=VL ok hb;have o:=JX b 1;rw[hb];exact congrArg Z (by dsimp only;omega);have o:=JX a.2.1 1;dsimp only;omega);exact e _ h
theorem Dv(ok:gZ a){i j lo hi g k:Int}(h0:0<=i)(h:i<j)(h1:j<J0 a.1)(hx:eH (a,i)=Z (lo,hi))(hy:eH (a,j)=Z (g,k)):hi<g:=by
 obtain⟨_,q⟩:=QI ok h0 oo hx;obtain⟨e,_⟩:=QI ok oo h1 hy;rcases q with⟨_,q⟩|⟨q,_⟩;by_cases c:i+1=j;rw[c,e]at q;injection q with q;omega;have:=Ny ok (show i+1<j by omega) q e;omega;omega
theorem JBM(ok:gZ a){p:Int}(h0:0<=p)(h1:p<a.2.1): ∃(j:Nat) (lo hi:Int),(j:Int)<J0 a.1/\eH (a,(j:Int))=Z (lo,hi)/\lo<=p/\p<=hi:=by
 have go: ∀(n j:Nat) (b:Int),a.1.length-j=n->idx a.1 (j:Int)=Z b->b<=p-> ∃(j:Nat) (lo hi:Int),(j:Int)<J0 a.1/\eH (a,(j:Int))=Z (lo,hi)/\lo<=p/\p<=hi:=by
  intro n
  induction n with
  |zero=>intro j b k hb _;have:=jH (bT hb).2;unfold J0 at this;omega
  |succ n ih=>
   intro j b k hb hp;have lt:=jH (bT hb).2;rw[_X]at lt;obtain⟨⟨lo,hi⟩,e,_⟩:=pe ok (i:=(j:Int)) oo lt;obtain⟨g,h⟩:=QI ok oo lt e;rw[hb]at g;cases g;by_cases c:p<=hi;exact⟨j,b,hi,lt,e,hp,c⟩;rcases h with⟨_,h⟩|⟨_,h⟩;exact ih (j+1) (hi+1) oo h oo;omega
 exact go _ 0 0 rfl ok.zero h0
theorem JE5(G:Gd a){x y:aC}(hx:x∈cW a)(hy:y∈cW a)(d:MS x y){e:aA}(he:e∈ent x.1)(h:e∈ent y.1):False:=by
 obtain⟨_,_,_,⟨p,A,⟨_,_,z,p0⟩,w⟩,R,_⟩:=oB G.ok G.hf hx;obtain⟨_,_,_,⟨q,B,⟨_,_,D,n⟩,g⟩,S,_⟩:=oB G.ok G.hf hy;have E:=tG R he;have _e:=tG S h;have v: ∀{r:aF},dD r->e∈ent r->r.2.2.1<=aV e/\aV e<=r.2.2.2.1:=fun{r} R he=>by obtain⟨j,C⟩:=fA.1 he;have:=R.2.2.1 j e C;exact⟨this.2.2.2.2.1,this.2.2.2.2.2⟩
 have F:=v R he;have H:=v S h;have o:=R0 z p0;have k:=R0 D n;by_cases c:p=q;subst c;rw[w]at g;injection g with g;have:=d g;omega;rcases Int.lt_or_gt_of_ne c with c|c;have:=Dv G.ok p0 c B o k;omega;have:=Dv G.ok n c A k o;omega
theorem wz(G:Gd a):(EL a).Pairwise λx y=>x.1≠y.1:=by
 have g: ∀{x:aC},x∈CR a->x∈cW a:=λh=>(vT G.ok G.hf).1 h;have D:(CR a).Pairwise MS:=((zP (le:=leN) (cW a)).pairwise_iff fun{x y} k e=>(k e.symm).symm).2 G.dis;unfold EL;rw[List.pairwise_flatMap];refine⟨λx j=>?_,?_⟩;refine List.Pairwise.imp_of_mem (fun{u v} o n k c=>?_) (qg (OA G.ok G.hf j).1);rw[G.one u v ⟨x,g j,o⟩ ⟨x,g j,n⟩ c]at k;unfold ltE at k;omega;refine List.Pairwise.imp_of_mem (fun{x y} j q d u o v n c=>?_) D;have:=G.one u v ⟨x,g j,o⟩ ⟨y,g q,n⟩ c;subst this;exact JE5 G (g j) (g q) d o n
end
section
structure Mi(a:aB)(es:List aA)(from_ to:Int)(k:Nat)(b:Int×List aM):Prop where
 ser:b.1=a.2.2.2.2+k
 len:J0 b.2=J0 a.2.2.1+k
 _p:b.2.Pairwise λf g=>f.2.1<g.2.1
 inr: ∀f∈b.2,0<f.2.1/\f.2.1<b.1
 fit: ∀f∈b.2,J0 f.2.2<=167968836
 all: ∀f∈b.2,∃x,its a f=Z x/\x.1.2.1<=to
 dis:(b.2.filterMap (its a)).Pairwise MS
 old: ∀x∈b.2.filterMap (its a),x.1.2.1<from_\/(x.1.1=from_/\x.1.2.1=to/\ ∃j,j<k/\a.1[j]?=Z x.1.2.2.1)
 ent: ∀x∈b.2.filterMap (its a),∀e∈ent x.1,(e.1<from_/\EA a e)\/(e∈es/\Chg e/\from_<=e.1/\e.1<=to)
 keep: ∀e,EA a e-> ∃x∈b.2.filterMap (its a),e∈Go.Am.ent x.1
 hit: ∀e∈es,Chg e->from_<=e.1->e.1<=to-> ∀(j:Nat) lo hi,j<k->eH (a,(j:Int))=Z (lo,hi)->lo<=aV e->aV e<=hi-> ∃x∈b.2.filterMap (its a),e∈Go.Am.ent x.1
structure Stp(L:List aA)(from_:Int)(a b:aB):Prop where
 good:Gd b
 bnd:b.1=a.1
 pgs:b.2.1=a.2.1
 up:a.2.2.2.1<=b.2.2.2.1
 top:b.2.2.2.1=a.2.2.2.1\/b.2.2.2.1<=J0 L+1
 few:J0 b.2.2.1<=J0 a.2.2.1+16
 ser:b.2.2.2.2<=a.2.2.2.2+16
 ea: ∀e,EA b e↔EA a e\/(e∈L/\Chg e/\from_<=e.1/\e.1<b.2.2.2.1)
structure Lu(L:List aA)(l:Jx):Prop where
 chn:dJ L
 few:J0 L<=4096
 fst:1<=l.1/\l.1<=J0 L+1
 ent:l.2.1=L.drop (l.1-1).toNat
 dur:l.2.2=J0 L
 val:JU l=Z O
 fit:Ty.fit 16384 1073741824 JR l
structure Cx(a:aB)(L es:List aA)(from_ to:Int):Prop where
 good:Gd a
 chn:dJ L
 few:J0 L<=4096
 hp: ∀e∈L,Chg e->aV e<a.2.1
 hf:J0 a.2.2.1<=240
 hs:a.2.2.2.2<=1000000000
 nxt:a.2.2.2.1<=from_
 lt:from_<=to
 top:to<=J0 L
 des:es=(L.drop (from_-1).toNat).take (to-from_+1).toNat
 fe:Ty.fit 16384 1073741824 (.l J3) es
section
variable {a:aB} {L es:List aA} {from_ to:Int} (C:Cx a L es from_ to)
include C
theorem Cx.one:1<=from_:=jB C.good.ok.next.1 C.nxt
theorem Cx.cut:L=L.take (from_-1).toNat++(es++(L.drop (from_-1).toNat).drop (to-from_+1).toNat):=by rw[C.des,nV,nV]
theorem Cx.pre: ∀x∈L.take (from_-1).toNat,x.1<from_:=λx g=>by have h1:=C.one;obtain⟨j,e⟩:=fA.1 g;obtain⟨h,e⟩:=JJM e;have:=C.chn.at e;omega
theorem Cx.post: ∀x∈(L.drop (from_-1).toNat).drop (to-from_+1).toNat,to<x.1:=λx g=>by have h1:=C.one;have h2:=C.lt;obtain⟨j,e⟩:=fA.1 g;rw[vA,vm]at e;have:=C.chn.at e;omega
theorem Cx.inL: ∀e∈es,e∈L:=λe g=>by rw[C.cut];simp[g]
theorem Cx.inE: ∀e∈L,from_<=e.1->e.1<=to->e∈es:=λe g h j=>by
 rw[C.cut]at g;rcases zQ9.1 g with g|g;have:=C.pre e g;omega;rcases zQ9.1 g with g|g;exact g;have:=C.post e g;omega
theorem Cx.le:J0 es<=4096:=by have:=C.few;rw[C.des];unfold J0 at*;rw[yK,sN];omega
theorem Cx.val: ∀x∈es,Jo x=Z O:=λx g=>by obtain⟨j,e⟩:=fA.1 (C.inL x g);exact(C.chn j x e).2.1
theorem Cx.dst:es.Pairwise λx y=>x.1≠y.1:=by
 have p:L.Pairwise λx y=>x.1≠y.1:=C.chn.inc.imp fun{a b} h=>by have h:a.1<b.1:=h;omega
 rw[C.cut]at p;exact(_M.1 (_M.1 p).2.1).1
theorem Cx.num{i lo hi:Int}(h0:0<=i)(h1:i<J0 a.1)(h:eH (a,i)=Z (lo,hi)):rL (from_,to,lo,hi,0,[])/\dD (from_,to,lo,hi,0,sel es from_ to lo hi):=by
 have ok:=C.good.ok;have e:=QI ok h0 h1 h;have k:=VL ok e.1;have n:=C.one;have o:=C.lt;have v:=C.top;have r:=C.few;have j:rL (from_,to,lo,hi,0,[]):=(by have g:lo<=hi/\hi<64:=(by rcases e.2 with⟨_,q⟩|⟨w,x⟩;have:=Ny ok (show i<i+1 by omega) e.1 q;have:=VL ok q;omega;have:=ok.last lo (by rw[show J0 a.1-1=i by omega];exact e.1);have:=ok.pages;omega);exact⟨by dsimp only;omega,by dsimp only;omega,by dsimp only;omega,by dsimp only;omega,g.1,g.2,(show(0:Int)<=0 by decide),(show(0:Int)<=8 by decide)⟩);exact⟨j,by rw[JI3 C.cut C.pre C.post];exact JMh C.chn C.few j⟩
theorem Cx.zero:Mi a es from_ to 0 (a.2.2.2.2,a.2.2.1):=by have G:=C.good;have nx:=C.nxt;have lt:=C.lt;exact⟨by simp,by simp,G.ok._p,G.ok.inr,G.fit.1,λf hf=>by obtain⟨x,e,k⟩:=G.all f hf;exact⟨x,e,by omega⟩,G.dis,λx g=>.inl (by have:=G.to g;omega),λx g e h=>.inl ⟨by have:=G.to g;have:=(tG (oB G.ok G.hf g).choose_spec.2.2.2.1 h).2;omega,x,g,h⟩,λ_ k=>k,λ_ _ _ _ _ _ _ _ k=>absurd k (Nat.not_lt_zero _)⟩
theorem Cx.next{pre t:_E}{x:Int}{b:Int×List aM}(g:a.1=pre++x::t)(h:Mi a es from_ to pre.length b){lo hi:Int}(n:eH (a,J0 pre)=Z (lo,hi)){s:_j}(H:J0 s<=167968836)(_e:kG (from_,to,lo,hi,0,sel es from_ to lo hi)=Z (s,0)):
  Mi a es from_ to (pre++[x]).length (b.1+1,b.2++[(1,b.1,s)]):=by
 have ok:=C.good.ok;have lt:=eJ g;have np:=J7 (l:=pre);have lp:J0 pre=(pre.length:Int):=rfl;have S:=QI ok np lt n;have R:=(C.num np lt n).2;have L:=(jx C.dst from_ to lo hi).2.1;have c1:=C.lt;have sr:=ok.ser;obtain⟨p,Q,P⟩:=Aq (r:=(from_,to,lo,hi,0,sel es from_ to lo hi)) ok.len.2 np n lt rfl rfl;have B:its a (1,b.1,s)=Z ((from_,to,lo,hi,0,sel es from_ to lo hi),b.1):=zS (p:=p) ⟨rfl,lh R _e (jB H _k),Q,P⟩;have z:a.1[pre.length]?=Z lo:=by
  obtain⟨_,e⟩:=bT S.1;rw[<-e]
  congr 1
 have hs':b.1=a.2.2.2.2+pre.length:=h.ser;have w:(b.2++[(1,b.1,s)]).filterMap (its a)=b.2.filterMap (its a)++[((from_,to,lo,hi,0,sel es from_ to lo hi),b.1)]:=by rw[b!,_V,B];rfl
 have up: ∀{e:aA},(∃x∈b.2.filterMap (its a),e∈ent x.1)-> ∃x∈(b.2++[(1,b.1,s)]).filterMap (its a),e∈ent x.1:=fun⟨x,W,q⟩=>⟨x,by rw[w];exact c! _ W,q⟩;refine⟨by simp only[dZ,_T];omega,by rw[cU,cI,h.len];simp only[dZ,_T];omega,?_,?_,?_,?_,?_,?_,?_,λe q=>up (h.keep e q),λe q _c E F j N M _b D G y=>?_⟩;refine _M.2 ⟨h._p,_R _ _,λf hf g V=>?_⟩;rw[dC.1 V];exact(h.inr f hf).2;intro f hf;rcases zQ9.1 hf with hf|hf;have:=h.inr f hf;dsimp only;omega;rw[dC.1 hf];dsimp only;omega;intro f hf;rcases zQ9.1 hf with hf|hf;exact h.fit f hf;rw[dC.1 hf];exact H;intro f hf;rcases zQ9.1 hf with hf|hf;exact h.all f hf;rw[dC.1 hf];exact⟨_,B,bC _⟩;rw[w];refine _M.2 ⟨h.dis,_R _ _,λu o v _a e=>?_⟩;rw[dC.1 _a]at e⊢;dsimp only at e⊢;rcases h.old u o with k|⟨_,_,j,K,_d⟩;exact .inl oo;exfalso;have A:=ok.asc;unfold Asc at A;have U:=_N.1 A;obtain⟨T,e1⟩:=dT.1 _d;obtain⟨l2,e2⟩:=dT.1 z;have:=U j pre.length T l2 K;omega;rw[w];intro u o;simp only[dZ,_T];rcases zQ9.1 o with o|o;rcases h.old u o with k|⟨E,F,j,K,_d⟩;exact .inl k;exact .inr ⟨E,F,j,by omega,_d⟩;rw[dC.1 o];exact .inr ⟨rfl,rfl,pre.length,by omega,z⟩;rw[w];intro u o e q;rcases zQ9.1 o with o|o;exact h.ent u o e q;rw[dC.1 o]at q;obtain⟨G,y⟩:=(L e).1 q;have y:=tN.1 y;exact .inr ⟨G,y.1,y.2.2.1,y.2.2.2⟩;simp only[dZ,_T]at _b;by_cases c:j<pre.length;exact up (h.hit e q _c E F j N M c D G y);have:j=pre.length:=by omega
 subst this;have n:eH (a,(pre.length:Int))=Z (lo,hi):=n;rw[n]at D;injection D with D;injection D with r1 r2;subst r1 r2;exact⟨((from_,to,lo,hi,0,sel es from_ to lo hi),b.1),by rw[w];exact _Z _ (dC.2 rfl),(L e).2 ⟨q,tN.2 ⟨_c,⟨G,y⟩,E,F⟩⟩⟩
theorem Cx.fin{b:Int×List aM}(n:Mi a es from_ to a.1.length b):Stp L from_ a (a.1,a.2.1,b.2,to+1,b.1):=by
 have G:=C.good;have ok:=G.ok;have h:=G.fit;have bl:=ok.len;have few:=C.few;have _c:=C.lt;have P:=C.top;have U:=C.nxt;have T:=C.hf;have Q:=C.hs;have nx:=ok.next;have N:=ok.ser;have S:J0 a.1=(a.1.length:Int):=rfl;have _e:=n.ser;have hlen:=n.len;have hR:cW (a.1,a.2.1,b.2,to+1,b.1)=b.2.filterMap (its a):=by show b.2.filterMap (its (a.1,a.2.1,b.2,to+1,b.1))=_;exact congrArg (λg=>List.filterMap g b.2) (funext λf=>zX (a:=a) (a':=(a.1,a.2.1,b.2,to+1,b.1)) rfl rfl f)
 have M:J0 b.2=(b.2.length:Int):=rfl;have R:J0 a.2.2.1=(a.2.2.1.length:Int):=rfl;have A: ∀e,EA (a.1,a.2.1,b.2,to+1,b.1) e↔EA a e\/(e∈L/\Chg e/\from_<=e.1/\e.1<to+1):=λe=>by
  constructor;rintro⟨x,w,y⟩;rw[hR]at w;rcases n.ent x w e y with k|⟨o,z,r,D⟩;exact .inl k.2;exact .inr ⟨C.inL e o,z,r,by omega⟩;rintro(k|⟨o,z,r,D⟩);obtain⟨x,w,y⟩:=n.keep e k;exact⟨x,by rw[hR];exact w,y⟩;obtain⟨j,B⟩:=fA.1 o;have v:=JNF (C.chn j e B).2.1 z;obtain⟨j,lo,hi,K,_d,F,H⟩:=JBM ok v (C.hp e o z);obtain⟨x,w,y⟩:=n.hit e (C.inE e o r oo) z r oo j lo hi oo _d F H;exact⟨x,by rw[hR];exact w,y⟩
 refine⟨⟨⟨ok.pages,ok.len,ok.zero,ok.asc,ok.last,⟨by dsimp only;omega,by dsimp only;omega⟩,⟨by dsimp only;omega,by dsimp only;omega⟩,by dsimp only;omega,n._p,n.inr⟩,⟨n.fit,by dsimp only;omega,h.2.2⟩,λf hf=>?_,?_,?_⟩,rfl,rfl,by dsimp only;omega,.inr (by dsimp only;omega),by dsimp only;omega,by dsimp only;omega,A⟩;obtain⟨x,e,k⟩:=n.all f hf;exact⟨x,(zX (a:=a) (a':=(a.1,a.2.1,b.2,to+1,b.1)) rfl rfl f).trans e,by dsimp only;omega⟩;rw[hR];exact n.dis;have lo: ∀e,EA a e->e.1<from_:=λe ⟨x,w,y⟩=>by
  have:=G.to w;have:=(tG (oB G.ok G.hf w).choose_spec.2.2.2.1 y).2;omega
 intro e e' y E q;rcases(A e).1 y with o|⟨o,_,z,_⟩<;>rcases(A e').1 E with r|⟨r,_,D,_⟩
 exact G.one e e' o r q;have:=lo e o;omega;have:=lo e' r;omega;obtain⟨j,B⟩:=fA.1 o;obtain⟨i,hi⟩:=fA.1 r;have V:=C.chn.at B;have W:=C.chn.at hi;have:j=i:=by omega
 subst this;rw[B]at hi;injection hi
end
end
section
theorem JQG{a:aB}{es:List aA}(hl:J0 es<=4096)(h: ∀e∈es,Chg e->aV e<a.2.1):jb (es,a)=Z (J,a):=by
 have j:_n (i5 (es,a)) λy=>y=(-1,a):=by
  unfold i5;refine gQ (l:=es) (λi (_:Unit)=>(es,J0 es,i,a)) (λ_ _=>True) (λpre x t _ g _=>?_) (λ_ _=>?_) es [] () _ rfl rfl trivial;have q:x∈es:=by rw[g];simp
  have r:im (x,a)=Z (J,a):=by
   unfold im;dsimp only;by_cases c:aT x.2.2.2.2.2.2.1.1 a.2.1=O;have o: ¬Chg x:=λk=>by
    have:=h x q k;have:=kD.1 c;unfold aV at*;omega
   rw[if_pos c];unfold Jh;rw[if_pos (Bool.eq_false_iff.2 λk=>o (.inl (gM.1 k))),show aO x.2.1 2=J from Bool.eq_false_iff.2 λk=>o (.inr (gM.1 k))];rfl;rw[if_neg c]
  unfold zd;dsimp only;rw[if_pos (JI.2 (eJ g)),iB g (n:=4096) hl];exact .w (gO g) (.w r (.i (λc=>by cases c) λ_=>.s ⟨(),rfl,_g⟩));unfold zd;dsimp only;rw[if_neg (by rw[JI];exact Int.lt_irrefl _)];exact .s rfl
 obtain⟨y,e,rfl⟩:=j;unfold jb;rw[e];rfl
theorem JR2{a:aB}{l:Jx}{L:List aA}{n:Int}(G:Gd a)(P:Lu L l)(hp: ∀e∈L,Chg e->aV e<a.2.1)(hn:1<=n/\n<=4096)(hf:J0 a.2.2.1<=240)(hs:a.2.2.2.2<=1000000000):
  _n (gz (a,l,n)) λy=>y.2=0/\Stp L (bP a.2.2.2.1 l.1) a y.1/\y.1.2.2.2.1=if J0 L<bP a.2.2.2.1 l.1 then a.2.2.2.1 else min (bP a.2.2.2.1 l.1+n-1) (J0 L)+1:=by
 have ok:=G.ok;have few:=P.few;unfold gz;refine .b (ft a) λy2 h2=>.n (λc=>by have:=h2.2 ok;rw[c]at this;cases this) λ_=>.w ((JMA l).trans P.val) (.n (λc=>by cases c) λ_=>.j (λ_=>.g (λc=>by dsimp only at c;omega) λ_=>?_) λc=>by dsimp only at c;omega);have nx:=ok.next;have lf:=P.fst;have Q:=P.dur;have T:=oD a.2.2.2.1 l.1;have o1:=Jb (bP a.2.2.2.1 l.1) n;have o2:=JX (J1 I (bP a.2.2.2.1 l.1) n) 1;have m2:=VS (Ji I (J1 I (bP a.2.2.2.1 l.1) n) 1) l.2.2;dsimp only at Q⊢;generalize bP a.2.2.2.1 l.1=from_ at*;generalize gX (Ji I (J1 I from_ n) 1) l.2.2=to at*;have W:=J7 (l:=L);refine .l (λc=>.s ⟨rfl,⟨G,rfl,rfl,bC _,.inl rfl,by dsimp only;omega,by dsimp only;omega,λe=>⟨.inl,λk=>?_⟩⟩,?_⟩) λc6=>?_;rcases k with k|⟨_,_,k1,_c⟩;exact k;dsimp only at _c;omega;rw[if_pos oo];have bl:=ok.len;have fl:=ok.few;have _a:=JX from_ l.1;have o4:=JX to l.1;have _b:=Jb (Ji I to l.1) 1;have o6:=Jb (J0 a.2.2.1) (J0 a.1);have o7:=Jb a.2.2.2.2 (J0 a.1);have fn:=J7 (l:=a.2.2.1);have sr:=ok.ser;refine .k (λ_=>.g (λc=>by omega) λ_=>?_) λc=>by omega
 have ll:J0 l.2.1=J0 L-(l.1-1):=by rw[P.ent];unfold J0 at*;rw[sN];omega
 obtain⟨es,M,des,_⟩:=vV (l:=l.2.1) (j:=Ji I from_ l.1) (k:=J1 I (Ji I to l.1) 1) oo oo oo;have fe:Ty.fit 16384 1073741824 (.l J3) es:=by rw[des];exact nj (WY P.fit.2.1)
 have C:Cx a L es from_ to:=⟨G,P.chn,few,hp,hf,hs,T.1,by omega,by omega,by
  rw[des,P.ent,vA]
  congr 1
  omega
  congr 1;omega,fe⟩
 have le:=C.le;refine .w M (.w (JQG le λe U=>hp e (C.inL e U)) (.i (λc=>by cases c) λ_=>.w (show y1 a.2.2.1=Z a.2.2.1 from DD oo _k) ?_));refine gQ (l:=a.1) (λi (b:Int×List aM)=>(from_,to,es,J0 a.1,i,a,l,[],[],0,0,0,[],a.1,a.2.1,a.2.2.2.1,b.1,b.2)) (λpre b=>Mi a es from_ to pre.length b) (λpre x t b g q=>?_) (λb q=>?_) a.1 [] (a.2.2.2.2,a.2.2.1) _ rfl rfl C.zero;have lt:=eJ g;have np:=J7 (l:=pre);have lp:J0 pre=(pre.length:Int):=rfl;unfold tx;dsimp only;rw[if_pos (JI.2 lt),iB g (n:=16) bl.2,Q9];refine .b (pe ok np lt)._B λK E=>?_;obtain⟨D,w⟩:=E;obtain⟨lo,hi⟩:=K;obtain⟨S,R⟩:=C.num np lt w;have r:fU (from_,to,lo,hi,0,[]):=⟨J2.2 (show -9223372036854775808<=from_/\from_<=9223372036854775807 by omega),J2.2 (show -9223372036854775808<=to/\to<=9223372036854775807 by omega),D.1.u,D.2.u,kS I 0,show J0 ([]:List aA)<=16384 by decide,nofun⟩;have z: ∀x∈es,Ty.fit 16384 9223372036854775807 J3 x:=λx B=>Ty.fit.up _k _k (fe.2 x B);obtain⟨v,ev,V⟩:=Ei S;subst V;refine .b (JJ7 (f:=from_) (t:=to) (lo:=lo) (hi:=hi) (lv:=0) (λx B=>(UV x).trans (C.val x B)) z oo ev C.dst r) λN h=>?_;have _d:N=((from_,to,lo,hi,0,sel es from_ to lo hi),0):=by unfold mkO at h;have hl:J0 (sel es from_ to lo hi)<=4096:=R.2.1;rw[if_neg oo,qe R]at h;injection h with h;exact h.symm
 subst _d;have hR:fU (from_,to,lo,hi,0,sel es from_ to lo hi):=⟨r.1,r.2.1,r.2.2.1,r.2.2.2.1,r.2.2.2.2.1,show J0 (sel es from_ to lo hi)<=16384 by have:J0 (sel es from_ to lo hi)<=4096:=R.2.1;omega,λx B=>z x (((jx C.dst from_ to lo hi).2.1 x).1 B).1⟩;obtain⟨s,A,H⟩:=jg R hR;have sb:b.1=a.2.2.2.2+pre.length:=q.ser;have F:J1 I b.1 1=b.1+1:=by have o:=Jb b.1 1;omega
 refine .d (λk=>absurd rfl k) λ_=>.w ((JMx hR).trans A) (.d (λk=>absurd rfl k) λ_=>.w (gK (by rw[cI];have:=q.len;omega) _k) (.s ⟨(J1 I b.1 1,b.2++[(1,b.1,s)]),rfl,?_⟩));rw[F];exact C.next g q w H A;unfold tx;dsimp only;rw[if_neg (by rw[JI];exact Int.lt_irrefl _)];have _e:J1 I to 1=to+1:=by have o:=Jb to 1;omega
 rw[_e];refine .s ⟨rfl,C.fin q,?_⟩;rw[if_neg oo];show to+1=_;omega
theorem JPa{a:aB}(G:Gd a):YK a=Z ((EL a).foldl cA [],O):=by
 apply _n.go;unfold YK;rw[JQP G];dsimp only[_Q];have B: ∀r∈(CR a).map (·.1),J0 (ent r)<=4096:=λr B=>by obtain⟨e,M,rfl⟩:=iN.1 B;exact(OA G.ok G.hf M).1.2.1
 have hl:((CR a).map (·.1)).length<=256:=by rw[eN];exact VM G.ok G.hf
 have v:=(UX (wz G)).2.2;rw[show EL a=((CR a).map (·.1)).flatMap ent by rw[List.flatMap_map];rfl]at v⊢;generalize (CR a).map (·.1)=R at B hl v⊢;refine gQ (l:=R) (λi (b:List aA×Int)=>(b.1,R,b.2,i,a)) (λpre b=>b.1=(pre.flatMap ent).foldl cA []/\b.2=J0 (pre.flatMap ent)/\J0 b.1<=4096*(pre.length:Int)/\b.2<=4096*(pre.length:Int)) (λpre x t b g hp=>?_) (λb hp=>?_) R [] ([],0) _ rfl rfl ⟨rfl,rfl,bC _,bC _⟩;obtain⟨b,m⟩:=b;obtain⟨h,q,H,_e⟩:=hp;dsimp only at h H q _e;have C:=gO g;have Q:R.length=pre.length+(t.length+1):=by rw[g];simp
 have L:=B x (by rw[g];simp);unfold rl;dsimp only;rw[if_pos (JI.2 (eJ g))];refine gQ (l:=ent x) (λj (c:List aA×Int)=>(c.1,R,c.2,J0 pre,j,a)) (λp c=>c.1=p.foldl cA b/\c.2=m+J0 p/\J0 c.1<=J0 b+(p.length:Int)) (λp e u c k D=>?_) (λc D=>?_) (ent x) [] (b,m) _ rfl rfl ⟨rfl,by simp[J0],by simp⟩;obtain⟨c,n⟩:=c;obtain⟨z,A,E⟩:=D;dsimp only at z E A;have K:(ent x).length=p.length+(u.length+1):=by rw[k];simp
 have _c:J0 (ent x)=((ent x).length:Int):=rfl;have N:J0 p=(p.length:Int):=rfl;have P:0<=m:=by rw[q];exact J7
 unfold r5;dsimp only;refine .w C ?_;refine .l (λ_=>.w C (.w (show idx x.2.2.2.2.2 (J0 p)=Z e from gO k) (.b (j7 (l:=c) (e:=e) oo) λy _d=>.s ⟨(y.1,J1 I n 1),?_,?_,?_,?_⟩))) λw=>absurd (eJ k) w;rw[show J1 I (J0 p) 1=J0 (p++[e])from iB k (n:=4096) L];show y.1=_;rw[_d,z,List.foldl_append];rfl;have o:=Jb n 1;show J1 I n 1=_;rw[cU,cI];omega;show J0 y.1<=_;rw[_d];have:=Bv c e;simp only[dZ,_T];omega;obtain⟨c,n⟩:=c;obtain⟨z,A,E⟩:=D;dsimp only at z E A;unfold r5;dsimp only;refine .w C ?_;have K:J0 (ent x)=((ent x).length:Int):=rfl;have F:(pre++[x]).flatMap ent=pre.flatMap ent++ent x:=by rw[List.flatMap_append];simp
 refine .l (λw=>absurd w (Int.lt_irrefl _)) λ_=>.s ⟨(c,n),?_,?_,?_,?_,?_⟩;rw[show J1 I (J0 pre) 1=J0 (pre++[x])from km g (by unfold J0;omega)];show c=_;rw[z,h,F,List.foldl_append];show n=_;rw[F,cU,A,q];show J0 c<=_;simp only[dZ,_T];omega;show n<=_;simp only[dZ,_T];omega;obtain⟨b,m⟩:=b;obtain⟨h,q,_,_⟩:=hp;dsimp only at h q;unfold rl;dsimp only;rw[if_neg (by rw[JI];exact Int.lt_irrefl _)];refine .s (show(b,aO m (J0 b))=_ from ?_);have:aO m (J0 b)=O:=gM.2 (by rw[q,h];unfold J0;exact congrArg Int.ofNat v.symm);rw[this,h]
end
section
theorem JRw{n:Int}{l:_E}(h0:1<=n)(hn:n<=64)(hl:GS l n):dc (n,l)=Z ((l,n,[],1,1),0)/\Gd (l,n,[],1,1):=by
 obtain⟨h1,h2,o,g,h⟩:=hl;have ok:gZ (l,n,[],1,1):=⟨⟨h0,hn⟩,⟨h1,h2⟩,o,g,λz j=>h z (zQ5 (bT j).2),show(1:Int)<=1/\(1:Int)<=1099511627777 by decide,show(1:Int)<=1/\(1:Int)<=1073741825 by decide,show(0:Int)<=256 by decide,List.Pairwise.nil,nofun⟩;have r:xK (l,n,[],1,1)=Z O:=by obtain⟨y,e,k⟩:=ft (l,n,[],1,1);rw[e,k.2 ok]
 refine⟨?_,ok,⟨nofun,by show J0 ([]:List aM)<=257;decide,h2⟩,nofun,List.Pairwise.nil,λe _ ⟨x,q,_⟩=>by cases q⟩;apply _n.go;unfold dc;exact .w (show yu l=Z l from DD oo _k) (.w r (.n (λc=>by cases c) λ_=>.s rfl))
theorem JLN:ZX ()=Z O:=by
 have bd:GS [0,4] 8:=⟨by decide,by decide,rfl,by unfold Asc;decide,by decide⟩;obtain⟨n,G⟩:=JRw (n:=8) _k _k bd;have v:xK ([0,4],8,[],1,1)=Z O:=by obtain⟨y,e,k⟩:=ft ([0,4],8,[],1,1);rw[e,k.2 G.ok]
 have b:yy ([0,4],3)=Z (1,J):=by
  have g:iv ([0,4],3,J0 [0,4],0,J0 [0,4])=Z (.inl ([0,4],3,2,0,1)):=by rfl
  have o:iv ([0,4],3,2,0,1)=Z (.inl ([0,4],3,2,1,1)):=by rfl
  have h:iv ([0,4],3,2,1,1)=Z (.inr (1,J)):=by rfl
  exact(eX g).trans ((eX o).trans (dY h))
 have p:_n (g6 (([0,4],8,[],1,1),3)) λy=>y=(0,3,O):=.w v (.r (λ_=>.j (λ_=>.h (λc=>absurd c _k) λ_=>.w b (.n (λ_=>.w (w:=(0,3)) (by rfl) (.s rfl)) λc=>by cases c)) λc=>absurd c _k) λc=>by cases c)
 apply _n.go;unfold ZX;refine .w n (.b p λy j=>?_);subst j;exact .e (λ_=>.e (λ_=>.i (λ_=>.s (by rfl)) λc=>by cases c) λc=>absurd rfl c) λc=>absurd rfl c
end
section
theorem Ql: ∀{l:List aM} {lo hi:Int},(l.Pairwise λf g=>f.2.1<g.2.1)->(∀f∈l,lo<f.2.1/\f.2.1<hi)->lo<hi->(l.length:Int)+lo<hi
 |[],_,_,_,_,h=>by simpa using h
 |f::t,lo,hi,h,k,_=>by have e:=_O.1 h;have kf:=k f _L;have:=Ql (l:=t) (lo:=f.2.1) (hi:=hi) e.2 (λg j=>⟨e.1 g j,(k g (fR _ j)).2⟩) kf.2;simp only[pH];omega
theorem JM0{a:aB}{l:Jx}{n:Int}:_s (AR (a,l,n)) λy=>y.2=0->y.1.2.1=a.2.1:=by unfold AR;refine .b λ_ _=>.n (λ_=>.s λh=>absurd h _k) λ_=>.b λ_ _=>.n (λ_=>.s λh=>absurd h _k) λ_=>.j (λ_=>.g (λ_=>.s λh=>absurd h _k) λ_=>.l (λ_=>.s λ_=>rfl) λ_=>.k (λ_=>.g (λ_=>.s λh=>absurd h _k) λ_=>.b λes _=>.z (λz=>z.2.2.2.2.1=a) rfl λz e=>?_) λ_=>.s λh=>absurd h _k) λ_=>.s λh=>absurd h _k;unfold dj;refine .l (λ_=>.b λ_ _=>.p (λ_=>.b λ_ _=>.e (λ_=>.b λ_ _=>.h (λ_=>.s λh=>absurd h _k) λ_=>.s e) λ_=>.s e) λ_=>.b λ_ _=>.h (λ_=>.s λh=>absurd h _k) λ_=>.s e) λ_=>.map (.b λ_ _=>.z (λz=>z.2.2.2.2.2.2.2.2.2.2.2.2.2.1=a.2.1) (congrArg (λz:aB=>z.2.1) e) λw g=>?_);unfold SF;exact .l (λ_=>.b λ_ _=>.b λ_ _=>.d (λc=>.s λh=>absurd h c) λ_=>.b λ_ _=>.b λ_ _=>.s g) λ_=>.s λ_=>g
theorem JMt{a:aB}{fan:Int}{y:vG}(o:vX a fan y)(h:y.2.2=0):y.1.2.1=a.2.1:=by
 rcases o with⟨_,rfl⟩|⟨_,_,rfl⟩|⟨_,_,⟨_,rfl⟩|⟨r,w,_,⟨_,rfl⟩|⟨_,s,_,_,rfl⟩⟩⟩;exact absurd h _k;exact absurd h _k;rfl;exact absurd h _k;rfl
theorem An{fan:Int}(e:2<=fan/\fan<=8): ∀(n:Nat) (a:aB),Gd a->a.2.2.2.2+a.2.2.1.length<=1073741824->a.2.2.1.length<=n->
  ∃b,J4 ch (fan,a,[],0,[],0,0)=Z (b,0)/\Gd b/\b.2.1=a.2.1/\b.2.2.2.2+b.2.2.1.length<=a.2.2.2.2+a.2.2.1.length
 |n,a,G,hb,hn=>by
  obtain⟨z,q,h⟩:=JQD G.hf (fan:=fan);have g:ch (fan,a,[],0,[],0,0)=if aQ z.2.2 0=O then Z (.inr (([],0,[],0,0),z.2.2))else if Jj z.2.1=O then Z (.inr (a,0))else Z (.inl (fan,z.1,[],0,[],0,0)):=by unfold ch;dsimp only;rw[q];rfl
  rcases JGw G e h oo with⟨h1,rfl⟩|⟨b,rfl,h2,y,w,x,r⟩;rw[if_neg (show¬aQ (0:Int) 0=O by decide),if_pos (show Jj J=O from rfl)]at g;exact⟨a,dY g,G,rfl,bC _⟩;rw[if_neg (show¬aQ (0:Int) 0=O by decide),if_neg (show¬Jj O=O by decide)]at g
  match n,hn with
  |0,hn=>omega
  |n+1,hn=>obtain⟨c,j,o,k,v⟩:=An e n b h2 oo oo;exact⟨c,by rw[eX g];exact j,o,k.trans (JMt h rfl),by omega⟩
structure Am(n:Int)(m:Int)(a:aB):Prop where
 good:Gd a
 pgs:a.2.1=n
 bud:a.2.2.2.2+a.2.2.1.length<=m
theorem JMk{n:Int}{l:Jx}{c:Jd}(h0:1<=n)(hn:n<=64)(hl:Ty.fit 16384 1073741824 JR l)(hc:yH c):_n (cr (n,l,c)) λy=>Am n 321 y.1:=by
 have xP: ∀{a:aB} {m k:Int},Am n m a-> -9223372036854775808<=k/\k<=9223372036854775807->_n (AR (a,l,k)) λy=>y.2=0->Am n (m+32) y.1:=fun{a m k} A hk=>
  ((JHw A.good hl hk).both JM0).mono λy h e=>⟨(h.1 e).1,(h.2 e).trans A.pgs,by have:=(h.1 e).2;have:=A.bud;omega⟩
 unfold cr;refine .b (JIH h0 hn hc) λ_b h2=>.b ((JKs h0 hn h2.1).both (Q:=λy=>y.2=0->y.1.2.1=n) (by unfold ER;exact .b λ_ _=>.n (λ_=>.s λh=>absurd h _k) λ_=>.b λ_ _=>.s λ_=>rfl))._B λ_d C=>.b (nx (n:=8) _k h2.2.1 h2.2.2) λN G=>?_;obtain⟨⟨C,M⟩,_c⟩:=C;have b4:=G.1.2.2 _k;have H:_d.1.2.1=n:=M (by
  have k:_s (ER (n,_b.1)) λy=>1<=y.1.2.1->y.2=0:=.b λ_ _=>.n (λ_=>.s λh=>absurd h _k) λ_=>.b λ_ _=>.s λ_=>rfl
  exact k _ _c C.1.ok.pages.1)
 refine Jl (τ:=Ko) (λq=>(q.1,q.2.1,l,([],0,[],0,0),q.2.2)) (λq=>q.1<=7/\yH q.2.1/\Am n (257-32*q.1) q.2.2/\ -1<=q.1) (λq=>q.1) ?_ (N.1,N.2,_d.1) rfl ⟨by dsimp only;omega,G.2,⟨C.1,H,by dsimp only;omega⟩,by have:=G.1.1;dsimp only;omega⟩;rintro⟨i,c,a⟩ ⟨_a,x,r,W⟩;dsimp only at _a x r W;unfold Il;dsimp only;have o:=JX i 1;have nxt: ∀{c':Jd} {a':aB},0<i->yH c'->Am n (257-32*i+32) a'-> ∃q:Ko,(Ji I i 1,c',l,(([],0,[],0,0):aB),a')=(q.1,q.2.1,l,([],0,[],0,0),q.2.2)/\(q.1<=7/\yH q.2.1/\Am n (257-32*q.1) q.2.2/\ -1<=q.1)/\q.1<i/\0<=i:=fun{c' a'} h R F=>
  ⟨(Ji I i 1,c',a'),rfl,⟨by dsimp only;omega,R,⟨F.good,F.pgs,by have:=F.bud;dsimp only;omega⟩,by dsimp only;omega⟩,by dsimp only;omega,by omega⟩
 have td: ∀{b:aB} {k:Int},0<=k->k<3->Am n (257-32*i+32) b->_n (YT (b,J1 I 2 k)) λy=>y.2=0->Am n (257-32*i+32) y.1:=fun{b k} k0 k3 h=>by have o:=Jb 2 k;have hb:=h.bud;obtain⟨d,e,K,T,K3⟩:=An (fan:=J1 I 2 k) ⟨by omega,by omega⟩ _ b h.good oo (zQ0 _);exact⟨_,e,λ_=>⟨K,T.trans h.pgs,by dsimp only;omega⟩⟩
 have same:Am n (257-32*i+32) a:=⟨r.good,r.pgs,by have:=r.bud;omega⟩;refine .g (λk=>.b (nx (n:=12) _k x.1 x.2) λy6 z=>.b (xP r (J2.1 (Jm (B:=0) (S:=0)))) λy7 E=>.e (λD=>.b (nx (n:=4) _k z.2.1 z.2.2) λU j=>.e (λ_=>.b (nx (n:=3) _k j.2.1 j.2.2) λV g=>.b (td g.1.1 (g.1.2.2 _k) (E D)) λ_e v=>.e (λw=>.s (nxt k g.2 (v w))) λ_=>.s (nxt k g.2 (E D))) λ_=>.s (nxt k j.2 (E D))) λ_=>.b (nx (n:=4) _k z.2.1 z.2.2) λU j=>.e (λ_=>.b (nx (n:=3) _k j.2.1 j.2.2) λV g=>.b (td g.1.1 (g.1.2.2 _k) same) λ_e v=>.e (λw=>.s (nxt k g.2 (v w))) λ_=>.s (nxt k g.2 same)) λ_=>.s (nxt k j.2 same)) λ_=>?_;have fin: ∀{b:aB},Am n (257-32*i+32) b->Am n 321 b:=λh=>⟨h.good,h.pgs,by have:=h.bud;omega⟩;exact .map (P:=λy:BP=>Am n 321 y.1) (.b (nx (n:=2) _k x.1 x.2) λa2 a0=>.e (λ_=>.b (xP r _k) λa1 L=>.e (λe=>.s (fin (L e))) λ_=>.s (fin same)) λ_=>.s (fin same)) λ_ h=>h
theorem Bo{L:List aA}{x:Int}(h:dJ L)(hl:J0 L<=4096)(h0:1<=x)(h1:x<=J0 L+1):JU (x,L.drop (x-1).toNat,J0 L)=Z O:=by
 have w:J0 (L.drop (x-1).toNat)=J0 L-(x-1):=by unfold J0 at*;rw[sN];omega
 have o:=JX x 1;have r:=Jb x (J0 (L.drop (x-1).toNat));have k:=JX (J1 I x (J0 (L.drop (x-1).toNat))) 1;apply _n.go;unfold JU;dsimp only;refine .j (λ_=>.k (λ_=>.k (λ_=>.j (λ_=>.w (show gT (x,L.drop (x-1).toNat,J0 L)=Z (Ji I (J1 I x (J0 (L.drop (x-1).toNat))) 1)from rfl) (.g (λc=>by omega) λ_=>?_)) λc=>by omega) λc=>by omega) λc=>by omega) λc=>by omega
 refine gQ (l:=L.drop (x-1).toNat) (λi (_:Unit)=>(i,x,L.drop (x-1).toNat,J0 L)) (λ_ _=>True) (λpre e t _ g _=>?_) (λ_ _=>?_) (L.drop (x-1).toNat) [] () _ rfl rfl trivial;have lt:=eJ g;have j:=gO g;have np:=J7 (l:=pre);have q:L[(x-1).toNat+pre.length]?=Z e:=by rw[<-vm,g];simp
 have ea:=h _ _ q;have y:=h.at q;have lp:J0 pre=(pre.length:Int):=rfl;have v:=Jb x (J0 pre);unfold BM;dsimp only;rw[if_pos (JI.2 lt),iB g (n:=4096) oo];exact .w j (.q (λ_=>.w j (.w ea.2.1 (.n (λc=>by cases c) λ_=>.s ⟨(),rfl,_g⟩))) λc=>absurd oo c);unfold BM;dsimp only;rw[if_neg (by rw[JI];exact Int.lt_irrefl _)];exact .s rfl
theorem JPZ{L:List aA}{l:Jx}{x:Int}(h:dJ L)(hl:J0 L<=4096)(e1:l.1=1)(e2:l.2.1=L)(e3:l.2.2=J0 L)(h0:1<=x)(h1:x<=J0 L+1):YM (l,x)=Z ((x,L.drop (x-1).toNat,J0 L),0):=by
 have n:=J7 (l:=L);have v:JU l=Z O:=by have:=Bo h hl (x:=1) (bC _) oo;obtain⟨f,es,d⟩:=l;dsimp only at e1 e2 e3;subst e1 e2 e3;exact this
 have q:=Jb 1 (J0 L);have o:=JX (J1 I 1 (J0 L)) 1;have w:=Jb (Ji I (J1 I 1 (J0 L)) 1) 1;have y:=Jb (J0 L) 1;have j:=JX x 1;apply _n.go;unfold YM;dsimp only;refine .w v (.n (λc=>by cases c) λ_=>?_);rw[e1,e2,e3];refine .j (λ_=>.w (show gT l=Z (Ji I (J1 I 1 (J0 L)) 1) by unfold gT;rw[e1,e2]) (.k (λ_=>.g (λc=>by omega) λ_=>.g (λc=>by omega) λ_=>?_) λc=>by omega)) λc=>by omega
 obtain⟨r,g,e,_⟩:=DH (l:=L) (k:=Ji I x 1) oo oo;rw[show Ji I x 1=x-1 by omega]at g e⊢;have z:J0 r<=J0 L:=by rw[e];unfold J0;rw[sN];omega
 exact .w g (.w (DD oo _k) (.s (by rw[e])))
theorem N7{α β:Type}{f:α->List β}{k:Nat}: ∀{l:List α},(∀x∈l,(f x).length<=k)->(l.flatMap f).length<=l.length*k|[],_=>by simp|x::t,h=>by have h1:=h x _L;have h2:=N7 (l:=t) λy e=>h y (fR _ e);rw[List.flatMap_cons,dZ,pH,zQ8];omega
theorem JOX{a:aB}(G:Gd a):(EL a).length<=1048576:=by
 have g:=VM G.ok G.hf;have h:=N7 (f:=λx:aC=>ent x.1) (k:=4096) (l:=CR a) λx e=>by have:=(OA G.ok G.hf e).1.2.1;unfold J0 at this;unfold ent;omega
 unfold EL;omega
theorem Ji5{x0:_E}{X:Int}(w0:Ty.inR (.l (.i .u8)) x0)(w1:Ty.inR (.i .u8) X):yv (x0,X)=Z O:=by
 apply _n.go;unfold yv;refine .w JLN (.n (λc=>by cases c) λ_=>.b (JHc w0) λV v=>.b (JFW (B:=16384) (S:=1073741824) (X:=(25,V)) ⟨kS I 25,v.1⟩ v.2 (by show(0:Int)<=25;decide) (by show(25:Int)<=1000;decide))._B λ_c _e=>?_);obtain⟨G,R⟩:=_e;obtain⟨⟨M,L⟩,hp⟩:=JGK v.1 v.2 R;obtain⟨⟨N,C⟩,hD⟩:=JHU v.1 v.2 R;have hl:=G.1.2.1;have hc:yH _c.2.2:=⟨G.1.2.2,G.2⟩;obtain⟨pages,l,c⟩:=_c;dsimp only at M L hp N C hD hl hc⊢;obtain⟨i1,_,_,i4⟩:=N;have nn:=J7 (l:=l.2.1);have _b:0<=X/\X<=255:=w1;have c2:=NB X;have od:=Jb l.2.2 1;refine .b (JMk M L hl hc) λj A=>?_;obtain⟨r,r1,r2⟩:=M2 (x:=aX I X) (y:=J1 I l.2.2 1) oo;have m0:0<=r/\r<J0 l.2.1+1:=by
  have e1:aX I X=X:=by omega
  have e2:J1 I l.2.2 1=J0 l.2.1+1:=by omega
  rw[r2,e1,e2];exact⟨Int.tmod_nonneg _ _b.1,Int.tmod_lt_of_pos _ oo⟩
 have or:=Jb 1 r;have T:J1 I 1 r=1+r:=by omega
 refine .w r1 ?_;rw[T];have Q:=JPZ C i4 i1 rfl hD (x:=1+r) oo oo;have F:Ty.fit 16384 1073741824 JR (1+r,l.2.1.drop (1+r-1).toNat,J0 l.2.1):=⟨J2.2 (show -9223372036854775808<=1+r/\1+r<=9223372036854775807 by omega),WY hl.2.1,J2.2 (show -9223372036854775808<=J0 l.2.1/\J0 l.2.1<=9223372036854775807 by omega)⟩;have P:Lu l.2.1 (1+r,l.2.1.drop (1+r-1).toNat,J0 l.2.1):=⟨C,i4,⟨by dsimp only;omega,by dsimp only;omega⟩,rfl,rfl,Bo C i4 oo oo,F⟩;have bud:=A.bud;have ser:=A.good.ok.ser;have il:=Ql A.good.ok._p (lo:=0) (hi:=j.1.2.2.2.2) A.good.ok.inr oo;have ln:J0 j.1.2.2.1=(j.1.2.2.1.length:Int):=rfl;refine .w Q (.b (JR2 A.good P (λe w ce=>by rw[A.pgs];exact hp e w ce) (n:=4096) ⟨by decide,by decide⟩ oo oo) λz _a=>?_);obtain⟨W,S,D⟩:=_a;dsimp only at S D;have mx:=oD j.1.2.2.2.1 (1+r);have a6:bP j.1.2.2.2.1 (1+r)=j.1.2.2.2.1\/bP j.1.2.2.2.1 (1+r)=1+r:=by unfold bP;split<;>simp
 have n1:=A.good.ok.next.1;refine .q (λ_=>.d (λc=>absurd W c) λ_=>.w (JPa S.good) ?_) λc=>absurd rfl c;have U:=(UX (wz S.good)).2.1;have sl:=(UX (wz S.good)).2.2;have K:J0 ((EL z.1).foldl cA [])<=4611686018427387904:=by have q:=JOX S.good;have sl:((EL z.1).foldl cA []).length=(EL z.1).length:=sl;unfold J0;omega
 generalize hg:(EL z.1).foldl cA []=o at K⊢;have E: ∀e∈o,e.1<j.1.2.2.2.1\/1+r<=e.1:=λe w=>by
  rw[<-hg]at w;have w:=(JPQ S.good e).1 ((U e).1 w);rcases(S.ea e).1 w with k|⟨_,_,k,_⟩;obtain⟨x,H,_d⟩:=k;have:=A.good.to H;have:=(tG (oB A.good.ok A.good.hf H).choose_spec.2.2.2.1 _d).2;exact .inl oo;exact .inr oo
 refine gQ (l:=o) (λi (_:Unit)=>(o,O,i,j.2,l,j.1,(1+r,l.2.1.drop (1+r-1).toNat,J0 l.2.1),z.1)) (λ_ _=>True) (λpre x t _ g _=>?_) (λ_ _=>?_) o [] () _ rfl rfl trivial;have H:=E x (by rw[g];simp);unfold yw;dsimp only;rw[if_pos (JI.2 (eJ g)),km g K];exact .w (gO g) (.h (λk=>.w (gO g) (.l (λc=>by omega) λ_=>.s ⟨(),rfl,_g⟩)) λ_=>.s ⟨(),rfl,_g⟩);unfold yw;dsimp only;rw[if_neg (by rw[JI];exact Int.lt_irrefl _)];refine .map (P:=λy=>y=O) (.g (λc=>.i (λ_=>.s (gM.2 ?_)) λc=>by cases c) λc=>.i (λ_=>.s (gM.2 ?_)) λc=>by cases c) λ_ h=>h;rw[D,if_pos oo];rw[D,if_neg oo];omega
end
def FY{α:Type}(f:FuncId):List (FuncId×α)->Option α|[]=>Y|(g,a)::r=>if f=g then Z a else FY f r
noncomputable def w6:List (FuncId×AFn):=[(65,aP JlK),(64,aP JmF),(32,aP Jp1),(66,aP JpG),(151,aP Y4),(218,aP Jls),(217,aP Z4),(181,aP Ym),(180,aP Tm),(179,aP JoK),(182,aP Jor),(183,aP JoG),(152,aP Wz),(113,aP V5),(112,aP Uy),(62,aP JqS),(125,aP Jq2),(74,aP Jnw),(84,aP JAr),(122,aP Yu),(115,aP Jr3),(153,aP Z3),(117,aP V3),(92,aP T7)]
noncomputable def xu:List (FuncId×AFn):=[(102,aP JBs),(178,aP Jmu),(146,aP JBq),(101,aP Ww),(147,aP JBb),(103,aP Zs),(116,aP Zg),(119,aP Zl),(120,aP Jav),(114,aP J9t),(63,aP J8z),(184,aP J98),(240,aP JaB),(219,aP Jcc),(185,aP za),(154,aP Jcr),(118,aP J7Z),(67,aP JCi),(26,aP Z1),(10,aP JEH),(83,aP JlX),(85,aP Job),(77,aP JnD),(170,aP JBx)]
noncomputable def ya:List (FuncId×AFn):=[(140,aP Jqt),(173,aP JiF),(175,aP Jl8),(174,aP Jl6),(142,aP Yf),(172,aP JlL),(216,aP Jcq),(171,aP Jl9),(141,aP JpW),(98,aP Xh),(71,aP Jnv),(161,aP J7Y),(227,aP J8F),(197,aP J9X),(162,aP zb),(126,aP Ja0),(82,aP J5D),(35,aP JqL),(111,aP JqC),(60,aP Y9),(27,aP JC6),(23,aP Zb),(130,aP Y6),(131,aP Jmc)]
noncomputable def xv:List (FuncId×AFn):=[(87,aP JdB),(39,aP Jqp),(22,aP Wa),(25,aP tq),(24,aP U2),(79,aP Y5),(31,aP JBH),(158,aP Zq),(225,aP Jnx),(195,aP Ve),(157,aP U9),(123,aP Vg),(70,aP Tk),(69,aP W8),(148,aP JBP),(149,aP JBt),(108,aP Vs),(150,aP Uw),(110,aP JrN),(109,aP Td),(68,aP JqE),(134,aP Jr9),(107,aP Xa),(58,aP Z8)]
noncomputable def xw:List (FuncId×AFn):=[(90,aP Uk),(88,aP Xf),(33,aP Ws),(42,aP S5),(198,aP JB8),(163,aP Z2),(201,aP JjO),(199,aP Jj2),(200,aP Jl3),(165,aP Yg),(164,aP Yw),(135,aP Z5),(136,aP Jny),(91,aP Z9),(106,aP Jr1),(56,aP Xj),(57,aP Wm),(16,aP Tn),(19,aP S4),(12,aP JrL),(133,aP Jnt),(14,aP Jp5),(215,aP Jl5),(169,aP JnE)]
noncomputable def x7:List (FuncId×AFn):=[(139,aP Jin),(205,aP JrE),(167,aP JB7),(204,aP JBe),(202,aP JC1),(203,aP JBA),(166,aP JBE),(137,aP JC9),(46,aP Wx),(47,aP Ug),(214,aP Zr),(317,aP Xx),(272,aP Vj),(273,aP Uh),(242,aP W9),(260,aP Uz),(328,aP Joz),(343,aP U0),(344,aP To),(345,aP T1),(302,aP Wg),(331,aP Xm),(330,aP Jqn),(280,aP Vy)]
noncomputable def ww:List (FuncId×AFn):=[(248,aP U5),(346,aP JC0),(303,aP Xg),(304,aP Jlg),(259,aP V0),(236,aP Wh),(228,aP Wi),(206,aP Xs),(293,aP Y1),(294,aP JCc),(339,aP JBc),(296,aP S6),(292,aP Ur),(336,aP Zu),(337,aP JBK),(338,aP JrG),(295,aP Us),(249,aP Uo),(231,aP Tr),(246,aP JBi),(263,aP JAy),(255,aP JBp),(291,aP Yt),(335,aP JpN)]
noncomputable def xg:List (FuncId×AFn):=[(290,aP Yv),(289,aP Xw),(254,aP Zo),(288,aP Xv),(253,aP JG1),(233,aP Um),(210,aP Jlw),(247,aP Xz),(230,aP V2),(281,aP Xl),(282,aP U7),(250,aP Za),(284,aP Sx),(333,aP Jr5),(285,aP Vz),(366,aP X1),(332,aP Vr),(283,aP Zm),(286,aP Tv),(251,aP Vd),(334,aP JC5),(287,aP Wn),(252,aP JqR),(232,aP V8)]
noncomputable def yb:List (FuncId×AFn):=[(209,aP Wl),(311,aP JAK),(353,aP JB1),(354,aP T4),(310,aP Zw),(269,aP JqZ),(268,aP JpR),(270,aP JA4),(313,aP Vc),(312,aP JpV),(316,aP JAL),(355,aP Yl),(314,aP JBg),(356,aP JFC),(315,aP Zy),(271,aP JAC),(239,aP Tt),(267,aP Zd),(238,aP JAx),(306,aP JCb),(262,aP Tb),(370,aP Wy),(349,aP Zk),(350,aP JBw)]
noncomputable def wu:List (FuncId×AFn):=[(307,aP JoF),(264,aP Wb),(309,aP JBr),(266,aP Ze),(352,aP Vf),(374,aP V4),(371,aP T5),(351,aP Vb),(308,aP JAo),(265,aP T9),(348,aP Uj),(347,aP Yy),(305,aP Tl),(261,aP JAm),(237,aP Xe),(213,aP Tg),(211,aP Zt),(277,aP Jpp),(329,aP T0),(278,aP JBC),(244,aP Jpy),(361,aP X0),(324,aP JpO),(363,aP JqM)]
noncomputable def jc:List (FuncId×AFn):=[(364,aP ss),(326,aP Xi),(360,aP Yo),(322,aP Tu),(321,aP Ul),(365,aP Vt),(327,aP JBd),(362,aP JCe),(325,aP Y3),(319,aP Z6),(358,aP Yh),(359,aP Jr0),(320,aP Vh),(323,aP JB2),(357,aP Y2),(318,aP Jqd),(274,aP JED),(275,aP Jr7),(276,aP JoT),(243,aP JGa),(279,aP T6),(245,aP JAE),(229,aP JEz),(208,aP Jkq)]
noncomputable def jy:List (FuncId×AFn):=[(256,aP S3),(298,aP U1),(297,aP S2),(257,aP Xt),(234,aP Vx),(299,aP Un),(373,aP Uu),(369,aP Ua),(342,aP Wj),(376,aP Y8),(377,aP JiB),(378,aP Jl7),(375,aP Y7),(372,aP X7),(367,aP X5),(340,aP Xy),(368,aP U8),(341,aP JAT),(300,aP Jqg),(301,aP Xr),(258,aP Ui),(235,aP JA6),(212,aP Jic),(207,aP JiD)]
noncomputable def yl:List (FuncId×AFn):=[(168,aP Jir),(138,aP JBQ),(95,aP Jki),(45,aP Jl2),(11,aP JER),(29,aP JBY),(6,aP Ji2)]
noncomputable def fns:List (FuncId×AFn):=w6++(xu++(ya++(xv++(xw++(x7++(ww++(xg++(yb++(wu++(jc++(jy++(yl))))))))))))
noncomputable def fks:List (FuncId×lN):=[(53,HW AG 32),(61,HW (.i I) 8)]
noncomputable def fps:List (FuncId×Prm):=[(145,JEu),(121,Jna 13 122 (Jif J3 J9w) (_A J3) J8g)]
abbrev PS:=FuncId->Option (List AV->List _w->Option Res)
noncomputable def uV(p:PS):dS:=λf=>Lo (FY f fns) (FY f fks) (FY f fps) (p f)
def AE(l:List TE):Prop:= ∀p,uX (AF (uV p)) l
theorem ae0:AE []:=λ_=>_g
theorem xP{i g S l f}(hf: ∀p,uV p i=Z (.fn (aP f)))(A:AE l)(q: ∀x,onO (hO g x) (λy=>mL (TG.of l) f y.1 y.2 (iP g))=S x)(hs:HY g=O:=by rfl):AE (aH i g S::l):=λp=>⟨xb (hf p) (A p) hs q,A p⟩
end Go.Am
end
