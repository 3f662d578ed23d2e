/-
  Parts of a proof.
-/
import Derived.Test.YtknpcflejohnoaaGreatM2
import Derived.Test.YtknpcflejohnoaaGreatM3
set_option linter.unusedSimpArgs false
set_option linter.unusedVariables false
section
namespace Go.Am
abbrev zI:Ty:=.i .i64
def Tot{ρ:Type}(o:Option ρ)(Q:ρ->Prop):Prop:= ∃r,o=some r/\Q r
section
variable {α β ρ σ τ:Type} {Q:ρ->Prop}
theorem Tot.bind{P:α->Prop}{o:Option α}{f:α->Option ρ}(h:Tot o P)(h2: ∀r,P r->Tot (f r) Q):Tot (o.bind f) Q:=by obtain⟨r,rfl,e⟩:=h;exact h2 r e
theorem Tot.some{r:ρ}(h:Q r):Tot (some r) Q:=⟨r,rfl,h⟩
theorem Tot.mono{P:ρ->Prop}{o:Option ρ}(h:Tot o P)(h2: ∀r,P r->Q r):Tot o Q:=by obtain⟨r,e,g⟩:=h;exact⟨r,e,h2 r g⟩
theorem Tot.map{P:α->Prop}{o:Option α}{f:α->ρ}(h:Tot o P)(h2: ∀r,P r->Q (f r)):Tot (Option.map f o) Q:=by obtain⟨r,rfl,e⟩:=h;exact⟨f r,rfl,h2 r e⟩
theorem Tot.get{o:Option ρ}{r:ρ}(h:Tot o Q)(e:o=Option.some r):Q r:=by obtain⟨r',e',h⟩:=h;simp_all
variable {u v:Option ρ}
theorem Tot.ite{c:Bool}(h1:c=true->Tot u Q)(h2:c=false->Tot v Q):Tot (if c=true then u else v) Q:=by
 grind
theorem Tot.itf{c:Bool}(h1:c=false->Tot u Q)(h2:c=true->Tot v Q):Tot (if c=false then u else v) Q:=by
 grind
theorem Tot.not{c:Bool}(h1:c=false->Tot u Q)(h2:c=true->Tot v Q):Tot (if Jp c=true then u else v) Q:=by
 cases c with
 |true=>exact h2 rfl
 |false=>exact h1 rfl
theorem Tot.nof{c:Bool}(h1:c=true->Tot u Q)(h2:c=false->Tot v Q):Tot (if Jp c=false then u else v) Q:=by
 cases c with
 |true=>exact h1 rfl
 |false=>exact h2 rfl
variable {a c:Int}
theorem hE:aK a c=true↔a<c:=by simp[aK]
theorem jS:aO a c=true↔c<a:=by simp[aO]
theorem jQ:bJ a c=true↔a<=c:=by simp[bJ]
theorem EM:aQ a c=true↔c<=a:=by simp[aQ]
theorem qV:aH a c=true↔a=c:=by simp[aH]
theorem KO:aM a c=true↔ ¬a=c:=by simp[aM]
theorem Tot.by{p:Prop}{x:Bool}(hp:x=true↔p)(h1:p->Tot u Q)(h2: ¬p->Tot v Q):Tot (if x=true then u else v) Q:=.ite (λh=>h1 (hp.1 h)) λh=>h2 λh3=>by simp_all
theorem Tot.byf{p:Prop}{x:Bool}(hp:x=true↔p)(h1: ¬p->Tot u Q)(h2:p->Tot v Q):Tot (if x=false then u else v) Q:=.itf (λh=>h1 λh3=>by simp_all) λh=>h2 (hp.1 h)
theorem Tot.lt(h1:a<c->Tot u Q)(h2: ¬a<c->Tot v Q):Tot (if aK a c=true then u else v) Q:=.by hE h1 h2
theorem Tot.gt(h1:c<a->Tot u Q)(h2: ¬c<a->Tot v Q):Tot (if aO a c=true then u else v) Q:=.by jS h1 h2
theorem Tot.le(h1:a<=c->Tot u Q)(h2: ¬a<=c->Tot v Q):Tot (if bJ a c=true then u else v) Q:=.by jQ h1 h2
theorem Tot.ge(h1:c<=a->Tot u Q)(h2: ¬c<=a->Tot v Q):Tot (if aQ a c=true then u else v) Q:=.by EM h1 h2
theorem Tot.eq(h1:a=c->Tot u Q)(h2: ¬a=c->Tot v Q):Tot (if aH a c=true then u else v) Q:=.by qV h1 h2
theorem Tot.ne(h1: ¬a=c->Tot u Q)(h2:a=c->Tot v Q):Tot (if aM a c=true then u else v) Q:=.by KO h1 (λh=>h2 (Decidable.of_not_not h))
theorem Tot.ltf(h1: ¬a<c->Tot u Q)(h2:a<c->Tot v Q):Tot (if aK a c=false then u else v) Q:=.byf hE h1 h2
theorem Tot.gtf(h1: ¬c<a->Tot u Q)(h2:c<a->Tot v Q):Tot (if aO a c=false then u else v) Q:=.byf jS h1 h2
theorem Tot.lef(h1: ¬a<=c->Tot u Q)(h2:a<=c->Tot v Q):Tot (if bJ a c=false then u else v) Q:=.byf jQ h1 h2
theorem Tot.gef(h1: ¬c<=a->Tot u Q)(h2:c<=a->Tot v Q):Tot (if aQ a c=false then u else v) Q:=.byf EM h1 h2
theorem Tot.eqf(h1: ¬a=c->Tot u Q)(h2:a=c->Tot v Q):Tot (if aH a c=false then u else v) Q:=.byf qV h1 h2
theorem Tot.nef(h1:a=c->Tot u Q)(h2: ¬a=c->Tot v Q):Tot (if aM a c=false then u else v) Q:=.byf KO (λh=>h1 (Decidable.of_not_not h)) h2
end
def Ty.fit(B S:Int):(t:Ty)->t.D->Prop| .b,_=>True| .i k,z=>k.min<=z/\z<=k.max| .s,z=>J0 (α:=UInt8) z<=S| .l t,z=>J0 (α:=t.D) z<=B/\ ∀x∈(z:List t.D),t.fit B S x| .pr a c,x=>a.fit B S x.1/\c.fit B S x.2| .ar n t,v=> ∀(i:Nat) (h:i<n),t.fit B S ((v:Vector t.D n)[i])| .u,_=>True| .f,_=>True
abbrev aB:= @Ty.fit
theorem Ty.fit.up{B S g e:Int}(h1:B<=g)(h2:S<=e): ∀{t:Ty} {x:t.D},t.fit B S x->t.fit g e x| .b,_,_=>trivial| .i _,_,h=>h| .s,_,h=>oG h h2| .l _,_,h=>⟨oG h.1 h1,λx j=>(h.2 x j).up h1 h2⟩| .pr _ _,_,h=>⟨h.1.up h1 h2,h.2.up h1 h2⟩| .ar _ _,_,h=>λi hi=>(h i hi).up h1 h2| .u,_,_=>trivial| .f,_,_=>trivial
section
variable {α:Type} {l:List α}
theorem Jh:0<=J0 l:=Int.natCast_nonneg _
theorem QB:J0 ([]:List α)=0:=rfl
theorem zC{x:α}:J0 [x]=1:=rfl
theorem ES{m:List α}:J0 (l++m)=J0 l+J0 m:=by simp[J0]
end
theorem IP(n:Int):IntKind.i64.wrap n=(n+9223372036854775808)%18446744073709551616-9223372036854775808:=by simp[IntKind.wrap,IntKind.bits,IntKind.signed];omega
theorem pH(k:IntKind)(n:Int):k.min<=k.wrap n/\k.wrap n<=k.max:=by cases k<;>simp[IntKind.wrap,IntKind.min,IntKind.max,IntKind.bits,IntKind.signed]<;>omega
theorem Jm(a b:Int):J1 .i64 a b=(a+b+9223372036854775808)%18446744073709551616-9223372036854775808:=IP _
theorem bC(a b:Int):JJ .i64 a b=(a-b+9223372036854775808)%18446744073709551616-9223372036854775808:=IP _
theorem IL(a b:Int):cV .i64 a b=(a*b+9223372036854775808)%18446744073709551616-9223372036854775808:=IP _
theorem k7(a:Int):bS .i64 a=(a+9223372036854775808)%18446744073709551616-9223372036854775808:=IP _
section
variable {B S:Int} {k:IntKind} {a b:Int}
theorem J2:Ty.fit B S (.i .i64) a↔ -9223372036854775808<=a/\a<=9223372036854775807:=by simp[Ty.fit,IntKind.min,IntKind.signed,IntKind.bits]
theorem cS(k:IntKind)(n:Int)(h:k.min<=n/\n<=k.max:=by decide):Ty.fit B S (.i k) n:=h
theorem Je:Ty.fit B S (.i k) (J1 k a b):=pH _ _
theorem dX:Ty.fit B S (.i k) (JJ k a b):=pH _ _
theorem JHO:Ty.fit B S (.i k) (cV k a b):=pH _ _
theorem sX:Ty.fit B S (.i k) (bS k a):=pH _ _
theorem cvu(k:IntKind)(a:Int)(h:k.min=0:=by rfl):0<=bS k a:=by have:=(pH k a).1;rw[h]at this;exact this
theorem JJf:Ty.fit B S (.i k) (orI k a b):=pH _ _
theorem EG:Ty.fit B S (.i k) (fT k a b):=pH _ _
theorem Ds:Ty.fit B S (.i k) (UQ k a):=pH _ _
theorem Ej(ha:Ty.fit B S (.i k) a)(hb:Ty.fit B S (.i k) b):Ty.fit B S (.i k) (gV a b):=by
 grind [gV]
theorem kJ(ha:Ty.fit B S (.i k) a)(hb:Ty.fit B S (.i k) b):Ty.fit B S (.i k) (cP a b):=by
 grind [cP]
theorem jR{α:Type}{l:List α}{n:Int}(h:J0 l<=n)(hn:n<=9223372036854775807):Ty.fit B S (.i .i64) (J0 l):=by
 have:=Jh (l:=l);grind [J2]
theorem Jc{t:Ty}(e:0<=B:=by omega):Ty.fit B S (.l t) ([]:List t.D):=⟨e,λ_ h=>by cases h⟩
theorem cF{t:Ty}{x:t.D}(e:1<=B)(h:t.fit B S x):Ty.fit B S (.l t) ([x]:List t.D):=⟨e,λy g=>by simp_all⟩
theorem eC{t:Ty}{x:t.D}{l:List t.D}(g:J0 (x::l)<=B)(h:t.fit B S x)(hl:Ty.fit B S (.l t) l):Ty.fit B S (.l t) (x::l):=⟨g,λy e=>by
 rcases dZ.1 e with rfl|e;exact h;exact hl.2 y e⟩
theorem XD:Ty.fit B S (.i .u8) a↔0<=a/\a<=255:=by simp[Ty.fit,IntKind.min,IntKind.max,IntKind.signed,IntKind.bits]
theorem bZ(g:0<=B)(e:0<=S): ∀t:Ty,t.fit B S t.zero
 | .b=>trivial
 | .i k=>by cases k<;>simp[Ty.fit,Ty.zero,IntKind.min,IntKind.max,IntKind.signed,IntKind.bits]
 | .s=>e
 | .l _=>Jc g
 | .pr a c=>⟨bZ g e a,bZ g e c⟩
 | .ar n t=>λi hi=>by show t.fit B S ((Vector.replicate n t.zero)[i]);rw[Vector.getElem_replicate];exact bZ g e t
 | .u=>trivial
 | .f=>trivial
end
theorem JE{B S:Int}{t:Ty}{l:List t.D}(_:Ty.fit B S (.l t) l): @J0 t.D l= @J0 t.D l:=rfl
section
variable {B S:Int} {t:Ty}
theorem Jl{l:List t.D}{i:Int}(h:Ty.fit B S (.l t) l)(h0:0<=i:=by omega)(h1:i<J0 l:=by omega):Tot (idx l i) λr=>t.fit B S r/\r∈l:=by
 have e:i.toNat<l.length:=by grind [J0]
 refine⟨l[i.toNat],?_,h.2 _ (kU e),kU e⟩;grind [idx]
theorem ZQ{n bytes:Nat}(h:(n:Int)<=34359738368)(hb:bytes<=2048):nG n bytes=true:=by unfold nG;rw[decide_eq_true_eq];have:(2*n+512)*bytes<=(2*34359738368+512)*2048:=Nat.mul_le_mul (by omega) hb;omega
theorem bT{bytes:Nat}{l m:List t.D}{Bl Bm:Int}(k n:Int)(hl:Ty.fit Bl S (.l t) l)(hm:Ty.fit Bm S (.l t) m)(hk:J0 l=k:=by rfl)(hn:J0 m=n:=by rfl)(h1:Bl<=B:=by omega)(h2:Bm<=B:=by omega)(h3:k+n<=B:=by omega)(g:B<=34359738368:=by omega)(hb:bytes<=2048:=by decide):
  Tot (JO bytes l m) λr=>Ty.fit B S (.l t) r/\J0 r=k+n/\r=l++m:=by
 subst hn hk;refine⟨l++m,?_,⟨by grind [ES],λx e=>?_⟩,ES,rfl⟩;grind [JO,ZQ,J0];rcases cN.1 e with h|h;exact(hl.2 x h).up h1 (aZ _);exact(hm.2 x h).up h2 (aZ _)
theorem HQ{bytes:Nat}{l:List t.D}(hl:Ty.fit B S (.l t) l)(e:B<=34359738368)(hb:bytes<=2048):Tot (cZ bytes l) λr=>r=l:=by refine⟨l,?_,rfl⟩;unfold cZ;rw[if_pos (ZQ (by have:=hl.1;grind [J0]) hb)]
theorem TU{α:Type}{l:List α}{k:Int}(h0:0<=k)(h1:k<=J0 l):Tot (bG l none (some k)) λr=>r=l.take k.toNat/\J0 r=k:=by
 refine⟨l.take k.toNat,?_,rfl,?_⟩
 all_goals grind [bG,qD,sJ,J0]
theorem KK{α:Type}{l:List α}{k:Int}(h0:0<=k)(h1:k<=J0 l):Tot (bG l (some k) none) λr=>r=l.drop k.toNat/\J0 r=J0 l-k:=by
 refine⟨l.drop k.toNat,?_,rfl,?_⟩
 all_goals grind [bG,qD,sJ,J0]
theorem KI{α:Type}{l:List α}{j k:Int}(h0:0<=j)(h2:j<=k)(h1:k<=J0 l):Tot (bG l (some j) (some k)) λr=>r=(l.drop j.toNat).take (k-j).toNat/\J0 r=k-j:=by
 refine⟨(l.drop j.toNat).take (k-j).toNat,?_,rfl,?_⟩
 all_goals grind [bG,qD,sJ,J0]
theorem JFj{l:List t.D}{n:Nat}(h:Ty.fit B S (.l t) l):Ty.fit B S (.l t) (l.take n):=⟨by
 have:=h.1;grind [J0],λx e=>h.2 x (jg e)⟩
theorem JGc{l:List t.D}{n:Nat}(h:Ty.fit B S (.l t) l):Ty.fit B S (.l t) (l.drop n):=⟨by
 have:=h.1;grind [J0],λx e=>h.2 x (zQ7 e)⟩
theorem gJ{a b:List UInt8}(h:J0 a+J0 b<=4611686018427387904:=by omega):Tot (eJ a b) λr=>J0 r=J0 a+J0 b/\r=a++b:=by
 refine⟨a++b,?_,ES,rfl⟩;grind [eJ,J0]
theorem xR{bytes:Nat}{n m:Int}{z:t.D}(hz:t.fit B S z)(h0:0<=n:=by omega)(h1:n<=m:=by omega)(h2:m<=34359738368:=by omega)(hn:n<=B:=by omega)(hb:bytes<=2048:=by decide):Tot (mkS bytes n m z) λr=>Ty.fit B S (.l t) r/\J0 r=n:=by
 refine⟨List.replicate n.toNat z,?_,⟨?_,λx e=>?_⟩,?_⟩;unfold mkS;have:(bytes:Int)*m<=2048*34359738368:=oG (Int.mul_le_mul_of_nonneg_right (by omega) (by omega)) (Int.mul_le_mul_of_nonneg_left h2 (by omega));grind
 all_goals grind [J0]
theorem Z3{x y:Int}(h: ¬y=0):Tot (uV x y) λr=>r=x.tmod y:=⟨_,by grind [uV],rfl⟩
theorem JL4{k:IntKind}{x y:Int}(h:0<=y):Tot (sE k x y) λr=>r=k.wrap (x*2^(min y.toNat k.bits)):=⟨_,by grind [sE],rfl⟩
theorem JLN{k:IntKind}{x y:Int}(h:0<=y):Tot (lY k x y) λr=>r=x.fdiv (2^(min y.toNat k.bits)):=⟨_,by grind [lY],rfl⟩
theorem Cr{n:Nat}{v:Vector t.D n}{i:Int}(h:Ty.fit B S (.ar n t) v)(h0:0<=i:=by omega)(h1:i<n:=by omega):Tot (qB v i) λr=>t.fit B S r:=by
 have e:i.toNat<n:=by omega
 refine⟨v[i.toNat],?_,h _ e⟩;grind [qB]
theorem fK{n:Nat}{i:Int}(h0:0<=i:=by omega)(h1:i<n:=by omega):Tot (aV n i) λ_=>True:=⟨(),by grind [aV],trivial⟩
theorem jF{l:List t.D}{i:Int}(h:Ty.fit B S (.l t) l)(h0:0<=i:=by omega)(h1:i<J0 l:=by omega):Tot (bF l i.toNat) λr=>t.fit B S r/\r∈l:=by
 have e:i.toNat<l.length:=by grind [J0]
 exact⟨l[i.toNat],by simp[bF],h.2 _ (kU e),kU e⟩
theorem iS{n:Nat}{v:Vector t.D n}{i:Nat}(h:Ty.fit B S (.ar n t) v)(h1:i<n:=by omega):Tot (vat v i) λr=>t.fit B S r:=
 ⟨v[i],by simp[vat],h _ h1⟩
theorem kL{l:List t.D}{i:Nat}{x:t.D}(h:Ty.fit B S (.l t) l)(hx:t.fit B S x):Ty.fit B S (.l t) (aW l i x):=⟨by
 have:=h.1;grind [aW,J0],λy e=>by
 rcases kt e with h1|rfl;exact h.2 y h1;exact hx⟩
theorem pJ{α:Type}{l:List α}{i:Nat}{x:α}:J0 (aW l i x)=J0 l:=by simp[aW,J0]
theorem vY{n:Nat}{v:Vector t.D n}{i:Nat}{x:t.D}(h:Ty.fit B S (.ar n t) v)(hx:t.fit B S x):Ty.fit B S (.ar n t) (hU v i x):=λj e=>by
 unfold hU;show t.fit B S ((v.setIfInBounds i x)[j]);rw[Vector.getElem_setIfInBounds];split;exact hx;exact h j e
theorem NP{l:List UInt8}{i:Int}(h0:0<=i:=by omega)(h1:i<J0 l:=by omega):Tot (oD l i) λr=>0<=r/\r<=255:=by
 have e:i.toNat<l.length:=by grind [J0]
 refine⟨(l[i.toNat].toNat:Int),?_,by omega,?_⟩;grind [oD];have:=l[i.toNat].toNat_lt;omega
theorem JDu{l:List UInt8}:J0 (aR l)=J0 l:=by simp[aR,J0]
theorem zF{l:List Int}:J0 (toStr l)=J0 l:=by simp[toStr,J0]
end
theorem Ty.fit.u{B S g e:Int}{t:Ty}{x:t.D}(h:t.fit B S x)(h1:B<=g:=by omega)(h2:S<=e:=by omega):t.fit g e x:=h.up h1 h2
theorem Tot.inr{σ ρ:Type}{o:Option ρ}{Q:σ⊕ρ->Prop}(h:Tot o λy=>Q (.inr y)):Tot (Option.map .inr o) Q:=h.map λ_ h=>h
section
variable {B S:Int} {t:Ty}
theorem Tot.clo{ρ:Type}{Q:ρ->Prop}{bytes:Nat}{l:List t.D}{f:List t.D->Option ρ}(hl:Ty.fit B S (.l t) l)(g:B<=34359738368)(hb:bytes<=2048)(h:Tot (f l) Q):Tot ((cZ bytes l).bind f) Q:=
 .bind (HQ hl g hb) λr e=>by simp_all
theorem J9(h:0<=S:=by omega):Ty.fit B S .s ([]:List UInt8):=h
theorem OQ{l:List UInt8}(n:Int)(h:J0 l=n)(h2:n<=S):Ty.fit B S .s l:=by show J0 l<=S;omega
theorem fC{α:Type}{l:List α}{i:Int}(h0:0<=i:=by omega)(h1:i<J0 l:=by omega):Tot (aV l.length i) λ_=>True:=fK h0 h1
theorem qO{l:List t.D}{k:Int}(h:Ty.fit B S (.l t) l)(h0:0<=k:=by omega)(h1:k<=J0 l:=by omega):Tot (bG l none (some k)) λr=>Ty.fit B S (.l t) r/\J0 r=k:=
 (TU h0 h1).mono λ_ ⟨e,h2⟩=>⟨e▸JFj h,h2⟩
theorem pI{l:List t.D}{k:Int}(h:Ty.fit B S (.l t) l)(h0:0<=k:=by omega)(h1:k<=J0 l:=by omega):Tot (bG l (some k) none) λr=>Ty.fit B S (.l t) r/\J0 r=J0 l-k:=
 (KK h0 h1).mono λ_ ⟨e,h2⟩=>⟨e▸JGc h,h2⟩
theorem vS{l:List UInt8}{k:Int}(h:J0 l<=S)(h0:0<=k:=by omega)(h1:k<=J0 l:=by omega):Tot (bG l none (some k)) λr=>J0 r<=S/\J0 r=k:=
 (TU h0 h1).mono λ_ ⟨_,h2⟩=>⟨by omega,h2⟩
theorem pb{l:List UInt8}{k:Int}(h:J0 l<=S)(h0:0<=k:=by omega)(h1:k<=J0 l:=by omega):Tot (bG l (some k) none) λr=>J0 r<=S/\J0 r=J0 l-k:=
 (KK h0 h1).mono λ_ ⟨_,h2⟩=>⟨by omega,h2⟩
theorem LI{l:List UInt8}{j k:Int}(h:J0 l<=S)(h0:0<=j:=by omega)(h2:j<=k:=by omega)(h1:k<=J0 l:=by omega):Tot (bG l (some j) (some k)) λr=>J0 r<=S/\J0 r=k-j:=
 (KI h0 h2 h1).mono λ_ ⟨_,h3⟩=>⟨by omega,h3⟩
theorem LJ{l:List Int}(h:J0 l<=S):Ty.fit B S .s (toStr l):=by
 show J0 (toStr l)<=S;grind [zF]
theorem YF(a b:Int):gV a b<=a/\gV a b<=b/\(gV a b=a\/gV a b=b):=by grind [gV]
theorem tD(a b:Int):a<=cP a b/\b<=cP a b/\(cP a b=a\/cP a b=b):=by grind [cP]
theorem n9{x y:Int}(h:0<=x):x.tmod y<=x:=by
 obtain⟨m,rfl⟩:=Int.eq_ofNat_of_zero_le h;cases y with
 |ofNat n=>show((m%n:Nat):Int)<=m;exact Int.ofNat_le.2 (Nat.mod_le _ _)
 |negSucc n=>show((m%(n+1):Nat):Int)<=m;exact Int.ofNat_le.2 (Nat.mod_le _ _)
theorem JIi{x y:Int}:(0<=x->0<=x.tmod y)/\(0<y->x.tmod y<y)/\(x<=0->x.tmod y<=0)/\(0<=x->x.tmod y<=x)/\(x<=0->x<=x.tmod y):=by
 refine⟨λh=>Int.tmod_nonneg _ h,λh=>Int.tmod_lt_of_pos _ h,λh=>?_,λh=>?_,λh=>?_⟩;have:=Int.tmod_nonneg (a:= -x) y (by omega);simp_all;exact n9 h;have h2:(-x).tmod y<= -x:=n9 (by omega);simp_all
theorem XS{k:IntKind}{x y:Int}(hx:Ty.fit B S (.i k) x)(h: ¬y=0):Tot (uV x y) λr=>Ty.fit B S (.i k) r/\((0<=x->0<=r)/\(0<y->r<y)):=
 (Z3 h).mono λr e=>by
  subst e;obtain⟨h1,h2,h3,g,n⟩:=JIi (x:=x) (y:=y);refine⟨?_,h1,h2⟩;have q:k.min<=0/\0<=k.max:=by cases k<;>simp[IntKind.min,IntKind.max,IntKind.bits,IntKind.signed]
  obtain⟨j,o⟩:k.min<=x/\x<=k.max:=hx;show k.min<=x.tmod y/\x.tmod y<=k.max;grind
theorem JKG{k:IntKind}{x y:Int}(h:0<=y):Tot (sE k x y) λr=>Ty.fit B S (.i k) r:=(JL4 h).mono λr e=>e▸pH _ _
theorem JHF{k:IntKind}{x:Int}{n:Nat}(hx:Ty.fit B S (.i k) x):Ty.fit B S (.i k) (x.fdiv (2^n)):=by
 have e:(0:Int)<2^n:=Int.pow_pos (by decide);have o:k.min<=0/\0<=k.max:=by cases k<;>simp[IntKind.min,IntKind.max,IntKind.bits,IntKind.signed]
 obtain⟨g,j⟩:k.min<=x/\x<=k.max:=hx;show k.min<=x.fdiv (2^n)/\x.fdiv (2^n)<=k.max;rw[Int.fdiv_eq_ediv_of_nonneg _ (Int.le_of_lt e)];rcases Int.le_total 0 x with h|h;have h1:=Int.ediv_nonneg h (Int.le_of_lt e);have h2:=Int.ediv_le_self (2^n:Int) h;omega;have h1:x/(2^n)<=0:=(by have:=Int.ediv_le_ediv e h;simp_all);have h2:x<=x/(2^n):=by rw[Int.le_ediv_iff_mul_le e];have:x*(2^n)<=x*1:=Int.mul_le_mul_of_nonpos_left h (by omega);omega
 omega
theorem yO{k:IntKind}{x y:Int}(hx:Ty.fit B S (.i k) x)(h:0<=y):Tot (lY k x y) λr=>Ty.fit B S (.i k) r:=(JLN h).mono λr e=>e▸JHF hx
end
theorem Jq{σ τ ρ:Type}{L:σ->Option (σ⊕ρ)}{Q:ρ->Prop}(e:τ->σ)(I:τ->Prop)(m:τ->Int)
  (h: ∀c,I c->Tot (L (e c)) λr=>match r with| .inl z=> ∃c',z=e c'/\I c'/\m c'<m c/\0<=m c| .inr y=>Q y) {z:σ} (c:τ) (hz:z=e c) (g:I c):Tot (Jg L z) Q:=by
 subst hz;have j: ∀(n:Nat) (c:τ),(m c+1).toNat<n->I c->Tot (Jg L (e c)) Q:=by
  intro n
  induction n with
  |zero=>simp_all
  |succ n ih=>
   intro c h1 g;obtain⟨r,h2,h3⟩:=h c g;cases r with
   |inl z=>
    grind [gb]
   |inr y=>rw[EX h2];exact⟨y,rfl,h3⟩
 exact j _ c (Nat.lt_succ_self _) g
theorem TT(x m:Int)(h0:0<=m:=by decide)(hm:m<4294967296:=by decide):0<=pZ .u32 x m/\pZ .u32 x m<=m:=by
 have e:pZ .u32 x m=IntKind.wrap .u32 (((BitVec.ofInt 32 x&&&BitVec.ofInt 32 m).toNat:Nat):Int):=rfl;have h2:(BitVec.ofInt 32 m).toNat=m.toNat:=by grind
 have h3:(BitVec.ofInt 32 x&&&BitVec.ofInt 32 m).toNat<=m.toNat:=(by grind [Nat.and_le_right]);generalize (BitVec.ofInt 32 x&&&BitVec.ofInt 32 m).toNat=z at e h3;have g:IntKind.wrap .u32 (z:Int)=(z:Int)%4294967296:=rfl;grind
theorem om{p:Prop}(h:p:=by first|omega|(dsimp only;omega)|(simp only[QB,zC]<;>omega)):p:=h
abbrev BS(B S b s:Int):Prop:=b<=B/\s<=S
theorem aC{B S:Int}:Ty.fit B S (.i .i64) 0:=cS .i64 0
theorem aG{B S:Int}(n:Int)(h:IntKind.i64.min<=n/\n<=IntKind.i64.max:=by decide):Ty.fit B S (.i .i64) n:=h
abbrev BC(B S b s:Int):Prop:=b<=B/\s<=S/\B<=4611686018427387903
abbrev BH(B S:Int):Prop:=16384<=B/\1073741824<=S
abbrev BG(B S:Int):Prop:=16384<=B/\1073741824<=S/\B<=4611686018427387903
theorem aP{B S:Int}{t:Ty}{x:t.D}(e:x=t.zero:=by rfl)(h:0<=B:=by omega)(h2:0<=S:=by omega):Ty.fit B S t x:=e▸bZ h h2 t
def Ty.nl:Ty->Bool| .l _=>false| .pr a c=>a.nl&&c.nl| .ar _ t=>t.nl|_=>true
theorem Ty.fit.z'{B S:Int}: ∀{t:Ty} {x:t.D},t.nl=true->Ty.fit B S t x->Ty.fit 0 S t x
 | .b,_,_,_=>trivial
 | .i _,_,_,h=>h
 | .s,_,_,h=>h
 | .l _,_,n,_=>by cases n
 | .pr a c,_,n,h=>by have n:(a.nl&&c.nl)=true:=n;rw[aS]at n;exact⟨Ty.fit.z' n.1 h.1,Ty.fit.z' n.2 h.2⟩
 | .ar _ _,_,n,h=>λi hi=>Ty.fit.z' n (h i hi)
 | .u,_,_,_=>trivial
 | .f,_,_,_=>trivial
theorem Ty.fit.z{B S:Int}{t:Ty}{x:t.D}(h:Ty.fit B S t x)(n:t.nl=true:=by rfl):Ty.fit 0 S t x:=Ty.fit.z' n h
theorem omc{p q:Prop}(o:q)(h:q->p:=by intro o;first|omega|(dsimp only;omega)|(simp only[QB,zC]<;>omega)):p:=h o
theorem oo{p:Prop}(h:p:=by omega):p:=h
end Go.Am
end
section
namespace Go.Am
theorem Tot.eqn{ρ:Type}{o:Option ρ}{Q:ρ->Prop}(h:Tot o Q):Tot o λr=>Q r/\o=Option.some r:=by obtain⟨r,e,h⟩:=h;exact⟨r,e,h,e⟩
theorem Tot.same{α ρ:Type}{o:Option α}{f:α->Option ρ}{w:α}{Q:ρ->Prop}(e:o=Option.some w)(h:Tot (f w) Q):Tot (o.bind f) Q:=by rw[e];exact h
def Par{ρ:Type}(o:Option ρ)(Q:ρ->Prop):Prop:= ∀r,o=Option.some r->Q r
section
variable {α β ρ σ:Type} {Q:ρ->Prop} {u v:Option ρ}
theorem Par.bind{o:Option α}{f:α->Option ρ}(h: ∀a,o=Option.some a->Par (f a) Q):Par (o.bind f) Q:=by
 intro r e;cases o with
 |none=>cases e
 |some a=>exact h a rfl r e
theorem Par.map{o:Option α}{f:α->ρ}(h:Par o λa=>Q (f a)):Par (Option.map f o) Q:=by
 intro r e;cases o with
 |none=>cases e
 |some a=>injection e with e;subst e;exact h a rfl
theorem Par.some{r:ρ}(h:Q r):Par (Option.some r) Q:=by intro r' e;simp_all
theorem Par.none:Par (Option.none:Option ρ) Q:=by intro r e;cases e
theorem Par.mono{o:Option ρ}{P:ρ->Prop}(h:Par o P)(h2: ∀r,P r->Q r):Par o Q:=λr e=>h2 r (h r e)
theorem Par.ite{c:Bool}(h1:c=true->Par u Q)(h2:c=false->Par v Q):Par (if c=true then u else v) Q:=by
 grind
theorem Par.itf{c:Bool}(h1:c=false->Par u Q)(h2:c=true->Par v Q):Par (if c=false then u else v) Q:=by
 grind
theorem Par.not{c:Bool}(h1:c=false->Par u Q)(h2:c=true->Par v Q):Par (if Jp c=true then u else v) Q:=by
 cases c with
 |true=>exact h2 rfl
 |false=>exact h1 rfl
theorem Par.nof{c:Bool}(h1:c=true->Par u Q)(h2:c=false->Par v Q):Par (if Jp c=false then u else v) Q:=by
 cases c with
 |true=>exact h1 rfl
 |false=>exact h2 rfl
variable {a c:Int}
theorem Par.by{p:Prop}{x:Bool}(hp:x=true↔p)(h1:p->Par u Q)(h2: ¬p->Par v Q):Par (if x=true then u else v) Q:=.ite (λh=>h1 (hp.1 h)) λh=>h2 λh3=>by simp_all
theorem Par.byf{p:Prop}{x:Bool}(hp:x=true↔p)(h1: ¬p->Par u Q)(h2:p->Par v Q):Par (if x=false then u else v) Q:=.itf (λh=>h1 λh3=>by simp_all) λh=>h2 (hp.1 h)
theorem Par.lt(h1:a<c->Par u Q)(h2: ¬a<c->Par v Q):Par (if aK a c=true then u else v) Q:=.by hE h1 h2
theorem Par.gt(h1:c<a->Par u Q)(h2: ¬c<a->Par v Q):Par (if aO a c=true then u else v) Q:=.by jS h1 h2
theorem Par.le(h1:a<=c->Par u Q)(h2: ¬a<=c->Par v Q):Par (if bJ a c=true then u else v) Q:=.by jQ h1 h2
theorem Par.ge(h1:c<=a->Par u Q)(h2: ¬c<=a->Par v Q):Par (if aQ a c=true then u else v) Q:=.by EM h1 h2
theorem Par.eq(h1:a=c->Par u Q)(h2: ¬a=c->Par v Q):Par (if aH a c=true then u else v) Q:=.by qV h1 h2
theorem Par.ne(h1: ¬a=c->Par u Q)(h2:a=c->Par v Q):Par (if aM a c=true then u else v) Q:=.by KO h1 (λh=>h2 (Decidable.of_not_not h))
theorem Par.ltf(h1: ¬a<c->Par u Q)(h2:a<c->Par v Q):Par (if aK a c=false then u else v) Q:=.byf hE h1 h2
theorem Par.gtf(h1: ¬c<a->Par u Q)(h2:c<a->Par v Q):Par (if aO a c=false then u else v) Q:=.byf jS h1 h2
theorem Par.lef(h1: ¬a<=c->Par u Q)(h2:a<=c->Par v Q):Par (if bJ a c=false then u else v) Q:=.byf jQ h1 h2
theorem Par.gef(h1: ¬c<=a->Par u Q)(h2:c<=a->Par v Q):Par (if aQ a c=false then u else v) Q:=.byf EM h1 h2
theorem Par.eqf(h1: ¬a=c->Par u Q)(h2:a=c->Par v Q):Par (if aH a c=false then u else v) Q:=.byf qV h1 h2
theorem Par.nef(h1:a=c->Par u Q)(h2: ¬a=c->Par v Q):Par (if aM a c=false then u else v) Q:=.byf KO (λh=>h1 (Decidable.of_not_not h)) h2
theorem Par.while{L:σ->Option (σ⊕ρ)}(I:σ->Prop){z:σ}(hz:I z)(h: ∀z,I z->Par (L z) λr=>match r with| .inl j=>I j| .inr y=>Q y):Par (Jg L z) Q:=by intro r k;refine fg (P:=λs r=>I s->Q r) (λs r e g=>h s g _ e) (λs s' r e ih g=>ih (h s g _ e)) k hz
end
theorem cL{α:Type}{l:List α}{i:Int}{r:α}(h:idx l i=Option.some r):0<=i/\l[i.toNat]?=Option.some r:=by
 grind [idx]
theorem sY{α:Type}{l:List α}{j:Nat}{e:α}(h:l[j]?=some e):(j:Int)<J0 l:=by
 grind [J0]
theorem jo(a b:Int):cV .i64 a b=a*b\/a*b< -9223372036854775808\/9223372036854775807<a*b:=by
 grind [cV,IP]
theorem mV(a b:Int):J1 .i64 a b=a+b\/a+b< -9223372036854775808\/9223372036854775807<a+b:=by
 grind [Jm]
theorem xS(a b:Int):JJ .i64 a b=a-b\/a-b< -9223372036854775808\/9223372036854775807<a-b:=by
 grind [bC]
def GQ{α:Type}(P:α->Prop)(l:List α)(i:Int):Prop:=0<=i/\ ∀x∈l.take i.toNat,P x
theorem JKl{α:Type}{P:α->Prop}{l:List α}:GQ P l 0:=⟨by omega,λx h=>by simp at h⟩
theorem JEf{α:Type}{P:α->Prop}{l:List α}{i j:Int}{x:α}(h:GQ P l i)(e:idx l i=Option.some x)(hx:P x)(hj:j=i+1):GQ P l j:=by
 obtain⟨h0,h⟩:=h;obtain⟨_,e⟩:=cL e;subst hj;refine⟨by omega,λy g=>?_⟩;have:(i+1).toNat=i.toNat+1:=by omega
 grind [List.take_add_one]
theorem JEZ{α:Type}{P:α->Prop}{l:List α}{i:Int}(h:GQ P l i)(hi: ¬i<J0 l): ∀x∈l,P x:=λx e=>h.2 x (by
 grind [List.take_of_length_le,J0])
end Go.Am
end
section
namespace Go.Am
theorem qd{α:Type}{n:Nat}: ∀{l m:List (List α)},(∀x∈l,x.length=n)->(∀x∈m,x.length=n)->l.length=m.length->l.flatten=m.flatten->l=m|[],[],_,_,_,_=>rfl|[],_::_,_,_,h,_=>by simp at h|_::_,[],_,_,h,_=>by simp at h|x::l,y::m,k,j,h,e=>by simp only[nF]at e;have h1:=k x List.mem_cons_self;have h2:=j y List.mem_cons_self;obtain⟨o,q⟩:=List.append_inj e (by omega);subst o;rw[qd (λz g=>k z (xU _ g)) (λz g=>j z (xU _ g)) (by simpa using h) q]
theorem dg{α β:Type}{f:α->β}(hf: ∀x y,f x=f y->x=y): ∀{l m:List α},l.map f=m.map f->l=m|[],[],_=>rfl|[],_::_,h=>by simp at h|_::_,[],h=>by simp at h|x::l,y::m,h=>by simp only[bU,List.cons.injEq]at h;rw[hf _ _ h.1,dg hf h.2]
theorem LA: ∀(t:Ty) (x y:t.D),cel t x=cel t y->x=y| .b,x,y,h=>by grind [cel]| .i k,x,y,h=>by grind [cel]| .s,x,y,h=>by grind [cel]| .l t,x,y,h=>by simp only[cel,List.cons.injEq,PV.sl.injEq,and_true,true_and]at h;exact dg (LA t) h| .pr a c,x,y,h=>by simp only[cel]at h;obtain⟨e,g⟩:=List.append_inj h (by simp[eO]);exact Prod.ext (LA a _ _ e) (LA c _ _ g)| .ar n t,x,y,h=>by have h2:(x.toList.map (cel t)).flatten=(y.toList.map (cel t)).flatten:=h;have h3:=qd (n:=t.sz) (λz j=>by grind [eO]) (λz j=>by grind [eO]) (by simp) h2;exact Vector.toList_inj.1 (dg (LA t) h3)| .u,_,_,_=>rfl| .f,_,_,_=>rfl
open Classical in
noncomputable def unc(t:Ty)(cs:List PV):Option t.D:=if h: ∃x:t.D,cel t x=cs then some (Classical.choose h)else none
theorem JJY(t:Ty)(x:t.D):unc t (cel t x)=some x:=by
 unfold unc;have h: ∃z:t.D,cel t z=cel t x:=⟨x,rfl⟩;grind [LA]
theorem JFf{t:Ty}{cs:List PV}{x:t.D}(h:unc t cs=some x):cel t x=cs:=by
 unfold unc at h;split at h
 all_goals grind
end Go.Am
end
section
namespace Go.Am
noncomputable def pgP(g e:Ty)(S:g.D×Int×Int×Int->Option (List e.D×Int)):Prm|[.data cs,.p (.i .i64 a),.p (.i .i64 b),.p (.i .i64 c)],blks=>(unc g cs).bind λx=>(S (x,a,b,c)).map λy=>(.tup [.p (.sl e.sz (y.1.map (cel e))),.p (.i .i64 y.2)],blks)|_,_=>none
theorem JIZ{e g:Ty}{S:e.D×Int×Int×Int->Option (List g.D×Int)}(x:e.D)(a b c:Int)(blks:List Blk):
  pgP e g S [.data (cel e x),.p (.i .i64 a),.p (.i .i64 b),.p (.i .i64 c)] blks=(S (x,a,b,c)).map λy=>(.tup [.p (.sl g.sz (y.1.map (cel g))),.p (.i .i64 y.2)],blks):=by
 show(unc e (cel e x)).bind _=_;simp[JJY]
theorem JJx{P:Program}{f:FuncId}{g e:Ty}{S:g.D×Int×Int×Int->Option (List e.D×Int)}
  (hw: ∀x a b c y blks,S (x,a,b,c)=some y->J5O P f [.data (cel g x),.p (.i .i64 a),.p (.i .i64 b),.p (.i .i64 c)] blks (.tup [.p (.sl e.sz (y.1.map (cel e))),.p (.i .i64 y.2)],blks)) (args:List AV) (blks:List Blk) (r:Res)
  (h:pgP g e S args blks=some r):J5O P f args blks r:=by
 unfold pgP at h;split at h;obtain⟨x,k,h⟩:=cK.1 h;obtain⟨y,j,rfl⟩:=fZ.1 h;rw[<-JFf k];exact hw x _ _ _ y _ j;cases h
def gPg(g e:Ty):Sig:=⟨[.dt g,.c (.d (.i .i64)),.c (.d (.i .i64)),.c (.d (.i .i64))],[],[g,.i .i64,.i .i64,.i .i64],.tup [.c (.d (.l e)),.c (.d (.i .i64))],[],[],[.l e,.i .i64]⟩
theorem Z5(e g:Ty)(x:e.D×Int×Int×Int):mY (gPg e g) x=some ([.dt e x.1,.c (.d (.i .i64) x.2.1),.c (.d (.i .i64) x.2.2.1),.c (.d (.i .i64) x.2.2.2)],[]):=by
 have h: ∀r,lf1 e (⟨e,x.1⟩::r)=some (x.1,r):=JGy e x.1;show(match mkL mkA [.dt e,.c (.d (.i .i64)),.c (.d (.i .i64)),.c (.d (.i .i64))] [(⟨e,x.1⟩:Lf),⟨.i .i64,x.2.1⟩,⟨.i .i64,x.2.2.1⟩,⟨.i .i64,x.2.2.2⟩]with
  |some (xs,l)=>match mkL mkB (gPg e g).blks l with|some (bl,[])=>some (xs,bl)|_=>none
  |none=>none)=_
 simp only[mkL,mkA,mkC,h];rfl
theorem JJ3{T:eN}{f:FuncId}{g e:Ty}{S:g.D×Int×Int×Int->Option (List e.D×Int)}(hf:T f=some (.prim (pgP g e S))):EOk (AF T) (aE f (gPg g e) S):=by
 refine KE rfl λx xs bl y h j=>?_;rw[Z5 g e x]at h;injection h with h;injection h with h1 h2;subst h1 h2;refine⟨.tup [.c (.d (.l e) y.1),.c (.d (.i .i64) y.2)],[],?_,?_⟩;rw[YJ hf];refine(JIZ x.1 x.2.1 x.2.2.1 x.2.2.2 []).trans ?_;rw[show S (x.1,x.2.1,x.2.2.1,x.2.2.2)=some y from j];rfl;show(if(ShV.tup [.c (.d (.l e)),.c (.d (.i .i64))]=(gPg g e).res/\([]:List ShB)=(gPg g e).out)then asL [.l e,.i .i64] [⟨.l e,y.1⟩,⟨.i .i64,y.2⟩]else none)=some y;rw[if_pos ⟨rfl,rfl⟩];simp[asL,CJ];rfl
end Go.Am
end
section
namespace Go.Am
set_option linter.unusedVariables false
set_option maxRecDepth 20000
set_option maxHeartbeats 1000000
theorem i1(c x:Bool):(if c=true then some x else some false)=some (c&&x):=by cases c<;>rfl
theorem i2(c x:Bool):(if c=false then some x else some false)=some (!c&&x):=by cases c<;>rfl
theorem i3(c x:Bool):(if c=true then some false else some x)=some (!c&&x):=by cases c<;>rfl
theorem i4{α:Type}(c x:Bool)(E:α):(if c=true then some (E,x)else some (E,false))=some (E,c&&x):=by cases c<;>rfl
theorem ov(c:dG):WI c=iY c:=rfl
theorem Df(c:dG): ∃b,iY c=some b:=by unfold iY;split<;>(try split)<;>exact⟨_,rfl⟩
theorem r8(c:aN): ∃b,FR c=some b/\mK c=some b:=by obtain⟨b1,e⟩:=Df c.2.2.1;obtain⟨b2,h⟩:=Df c.2.2.2;unfold FR iu mK;rw[ov,ov,e,h];simp only[JQ];by_cases h1:aQ c.1 0=true<;>by_cases h2:aK c.1 64=true<;>by_cases h3:aQ c.2.1 0=true<;>by_cases g:aK c.2.1 16=true<;>cases b1<;>simp[h1,h2,h3,g]
theorem te{x:JP}(e:lL x=some true):0<=x.1/\x.1<x.2:=by
 unfold lL at e;split at e;injection e with e;rename_i h;exact⟨EM.1 h,hE.1 e⟩;cases e
theorem ex(x:JP): ∃b,lL x=some b:=by unfold lL;split<;>exact⟨_,rfl⟩
theorem JIL(c:aN): ∃z,zT c=some z/\(z=true↔c=(0,0,(false,[]),false,[])):=⟨_,rfl,dY (t:=dQ)⟩
theorem JLq(c:aN): ∃z,NB c=some z/\(z=true↔c=(c.1,0,(false,[]),false,[])/\0<=c.1/\c.1<64):=by
 have e:Tot (NB c) λz=>(z=true↔c=(c.1,0,(false,[]),false,[])/\0<=c.1/\c.1<64):=by unfold NB;exact .ite (λh=>.ge (λg=>.some ⟨λk=>⟨(dY (t:=dQ)).1 h,g,hE.1 k⟩,λk=>hE.2 k.2.2⟩) λg=>.some ⟨nofun,λk=>absurd k.2.1 g⟩) λh=>.some ⟨nofun,λk=>(Bool.false_ne_true (h.symm.trans ((dY (t:=dQ)).2 k.1))).elim⟩
 exact e
theorem By(e:J5):MP e=Js e:=by
 obtain⟨l,k,t,q,v,r,c,bl⟩:=e;obtain⟨T,x,A⟩:=r8 c;obtain⟨b1,w⟩:=ex (q,l);obtain⟨b2,M⟩:=ex (v,l);obtain⟨b3,I⟩:=ex (r,l);have N:AJ (q,l,k,t,q,v,r,c,bl)=some b1:=w;have O:AJ (v,l,k,t,q,v,r,c,bl)=some b2:=M;have P:AJ (r,l,k,t,q,v,r,c,bl)=some b3:=I;have S: ∀b:Bool,Jp b= !b:=λ_=>rfl;unfold MP Js pO;dsimp only;rw[N,O,P,w,M,I,x,A];have j: ∀a b:J5,(eqT J8 a b=true)=(a=b):=λa b=>propext (dY (t:=J8));have g: ∀a b:aN,(eqT dQ a b=true)=(a=b):=λa b=>propext (dY (t:=dQ));have U:b1=true->0<=q/\q<l:=λh=>by subst h;exact te w
 have L:k=1\/k=2\/k=3\/k=4\/k=5\/k=6\/k=7\/k=8\/k<1\/8<k:=by omega
 clear w M I N O P x A;have V:J0 ([]:List UInt8)=0:=rfl;obtain⟨z,n,R⟩:=JIL c;obtain⟨y,o,Q⟩:=JLq c;rcases L with rfl|rfl|rfl|rfl|rfl|rfl|rfl|rfl|L|L;simp only[show aK 1 1=false from rfl,show aO 1 8=false from rfl,show aH 1 8=false from rfl,show aH 1 7=false from rfl,show aH 1 6=false from rfl,show aH 1 5=false from rfl,show aH 1 4=false from rfl,show aH 1 3=false from rfl,show aH 1 2=false from rfl,show aH 1 1=true from rfl,if_true,if_false,eK,reduceCtorEq,JQ,jX,rY,n,o,i1,i2,i3,i4]
 congr 1
 rw[Bool.eq_iff_iff];simp only[aS,lX,j,g];simp only[aK,aO,aQ,bJ,aM,aH,Jp,neS,decide_eq_true_eq,decide_eq_false_iff_not,Prod.mk.injEq,Bool.not_eq_false',Decidable.not_not,true_and,and_true];grind;simp only[show aK 2 1=false from rfl,show aO 2 8=false from rfl,show aH 2 8=false from rfl,show aH 2 7=false from rfl,show aH 2 6=false from rfl,show aH 2 5=false from rfl,show aH 2 4=false from rfl,show aH 2 3=false from rfl,show aH 2 2=true from rfl,show aH 2 1=false from rfl,if_true,if_false,eK,reduceCtorEq,JQ,jX,rY,n,o,i1,i2,i3,i4]
 congr 1
 rw[Bool.eq_iff_iff];simp only[aS,lX,j,g];simp only[aK,aO,aQ,bJ,aM,aH,Jp,neS,decide_eq_true_eq,decide_eq_false_iff_not,Prod.mk.injEq,Bool.not_eq_false',Decidable.not_not,true_and,and_true];grind;simp only[show aK 3 1=false from rfl,show aO 3 8=false from rfl,show aH 3 8=false from rfl,show aH 3 7=false from rfl,show aH 3 6=false from rfl,show aH 3 5=false from rfl,show aH 3 4=false from rfl,show aH 3 3=true from rfl,show aH 3 2=false from rfl,show aH 3 1=false from rfl,if_true,if_false,eK,reduceCtorEq,JQ,jX,rY,n,o,i1,i2,i3,i4]
 congr 1
 rw[Bool.eq_iff_iff];simp only[aS,lX,j,g];simp only[aK,aO,aQ,bJ,aM,aH,Jp,neS,decide_eq_true_eq,decide_eq_false_iff_not,Prod.mk.injEq,Bool.not_eq_false',Decidable.not_not,true_and,and_true];grind;simp only[show aK 4 1=false from rfl,show aO 4 8=false from rfl,show aH 4 8=false from rfl,show aH 4 7=false from rfl,show aH 4 6=false from rfl,show aH 4 5=false from rfl,show aH 4 4=true from rfl,show aH 4 3=false from rfl,show aH 4 2=false from rfl,show aH 4 1=false from rfl,if_true,if_false,eK,reduceCtorEq,JQ,jX,rY,n,o,i1,i2,i3,i4]
 congr 1
 rw[Bool.eq_iff_iff];simp only[aS,lX,j,g];simp only[aK,aO,aQ,bJ,aM,aH,Jp,neS,decide_eq_true_eq,decide_eq_false_iff_not,Prod.mk.injEq,Bool.not_eq_false',Decidable.not_not,true_and,and_true];grind;simp only[show aK 5 1=false from rfl,show aO 5 8=false from rfl,show aH 5 8=false from rfl,show aH 5 7=false from rfl,show aH 5 6=false from rfl,show aH 5 5=true from rfl,show aH 5 4=false from rfl,show aH 5 3=false from rfl,show aH 5 2=false from rfl,show aH 5 1=false from rfl,if_true,if_false,eK,reduceCtorEq,JQ,jX,rY,n,o,i1,i2,i3,i4]
 congr 1
 rw[Bool.eq_iff_iff];simp only[aS,lX,j,g];simp only[aK,aO,aQ,bJ,aM,aH,Jp,neS,decide_eq_true_eq,decide_eq_false_iff_not,Prod.mk.injEq,Bool.not_eq_false',Decidable.not_not,true_and,and_true];grind;simp only[show aK 6 1=false from rfl,show aO 6 8=false from rfl,show aH 6 8=false from rfl,show aH 6 7=false from rfl,show aH 6 6=true from rfl,show aH 6 5=false from rfl,show aH 6 4=false from rfl,show aH 6 3=false from rfl,show aH 6 2=false from rfl,show aH 6 1=false from rfl,if_true,if_false,eK,reduceCtorEq,JQ,jX,rY,n,o,i1,i2,i3,i4]
 congr 1
 rw[Bool.eq_iff_iff];simp only[aS,lX,j,g];simp only[aK,aO,aQ,bJ,aM,aH,Jp,neS,decide_eq_true_eq,decide_eq_false_iff_not,Prod.mk.injEq,Bool.not_eq_false',Decidable.not_not,true_and,and_true];grind;simp only[show aK 7 1=false from rfl,show aO 7 8=false from rfl,show aH 7 8=false from rfl,show aH 7 7=true from rfl,show aH 7 6=false from rfl,show aH 7 5=false from rfl,show aH 7 4=false from rfl,show aH 7 3=false from rfl,show aH 7 2=false from rfl,show aH 7 1=false from rfl,if_true,if_false,eK,reduceCtorEq,JQ,jX,rY,n,o,i1,i2,i3,i4]
 congr 1
 rw[Bool.eq_iff_iff];simp only[aS,lX,j,g];simp only[aK,aO,aQ,bJ,aM,aH,Jp,neS,decide_eq_true_eq,decide_eq_false_iff_not,Prod.mk.injEq,Bool.not_eq_false',Decidable.not_not,true_and,and_true];grind;simp only[show aK 8 1=false from rfl,show aO 8 8=false from rfl,show aH 8 8=true from rfl,show aH 8 7=false from rfl,show aH 8 6=false from rfl,show aH 8 5=false from rfl,show aH 8 4=false from rfl,show aH 8 3=false from rfl,show aH 8 2=false from rfl,show aH 8 1=false from rfl,if_true,if_false,eK,reduceCtorEq,JQ,jX,rY,n,o,i1,i2,i3,i4]
 congr 1
 rw[Bool.eq_iff_iff];simp only[aS,lX,j,g];simp only[aK,aO,aQ,bJ,aM,aH,Jp,neS,decide_eq_true_eq,decide_eq_false_iff_not,Prod.mk.injEq,Bool.not_eq_false',Decidable.not_not,true_and,and_true];grind;have J:aH k 1=false:=by simp[aH];omega
 have K:aH k 2=false:=by simp[aH];omega
 have C:aH k 3=false:=by simp[aH];omega
 have D:aH k 4=false:=by simp[aH];omega
 have B:aH k 5=false:=by simp[aH];omega
 have F:aH k 6=false:=by simp[aH];omega
 have G:aH k 7=false:=by simp[aH];omega
 have H:aH k 8=false:=by simp[aH];omega
 have E:aK k 1=true:=by simp[aK];omega
 simp only[J,K,C,D,B,F,G,H,E,if_true,if_false,eK,reduceCtorEq,JQ,i1,i2,i3,i4];simp;have J:aH k 1=false:=by simp[aH];omega
 have K:aH k 2=false:=by simp[aH];omega
 have C:aH k 3=false:=by simp[aH];omega
 have D:aH k 4=false:=by simp[aH];omega
 have B:aH k 5=false:=by simp[aH];omega
 have F:aH k 6=false:=by simp[aH];omega
 have G:aH k 7=false:=by simp[aH];omega
 have H:aH k 8=false:=by simp[aH];omega
 have E:aO k 8=true:=by simp[aO];omega
 simp only[J,K,C,D,B,F,G,H,E,if_true,if_false,eK,reduceCtorEq,JQ,i1,i2,i3,i4];simp
end Go.Am
end
section
namespace Go.Am
set_option linter.unusedVariables false
set_option maxRecDepth 20000
set_option maxHeartbeats 1000000
theorem et{σ τ ρ:Type}{f:σ->Option (σ⊕ρ)}{g:τ->Option (τ⊕ρ)}(R:σ->τ->Prop)
  (h: ∀s t,R s t->(f s=none/\g t=none)\/(∃r,f s=some (.inr r)/\g t=some (.inr r))\/ ∃s' t',f s=some (.inl s')/\g t=some (.inl t')/\R s' t'):
  ∀(n:Nat) s t,R s t->cH f n s=cH g n t
 |0,s,t,_=>rfl
 |n+1,s,t,hR=>by
  rcases h s t hR with⟨h1,h2⟩|⟨r,h1,h2⟩|⟨s',t',h1,h2,h3⟩;simp only[cH,h1,h2];simp only[cH,h1,h2];simp only[cH,h1,h2];exact et R h n s' t' h3
theorem re{σ τ ρ:Type}{f:σ->Option (σ⊕ρ)}{g:τ->Option (τ⊕ρ)}(R:σ->τ->Prop)
  (h: ∀s t,R s t->(f s=none/\g t=none)\/(∃r,f s=some (.inr r)/\g t=some (.inr r))\/ ∃s' t',f s=some (.inl s')/\g t=some (.inl t')/\R s' t') {s:σ} {t:τ} (hR:R s t):
  Jg f s=Jg g t:=by
 apply Option.ext;intro r;rw[gE,gE];constructor;rintro⟨n,e⟩;exact⟨n,by rw[<-et R h n s t hR];exact e⟩;rintro⟨n,e⟩;exact⟨n,by rw[et R h n s t hR];exact e⟩
theorem Db(l:Jt):xE l=JB l:=by
 have e:Jg nj (l.2.1,J0 l.2.1,0,l)=Jg wZ (0,l):=by
  refine re (λs t=>s=(l.2.1,J0 l.2.1,t.1,l)/\t.2=l) ?_ ⟨rfl,rfl⟩;rintro s ⟨i,l'⟩ ⟨rfl,rfl⟩;unfold nj wZ;dsimp only;by_cases h1:aK i (J0 l'.2.1)=true;rw[if_pos h1,if_pos h1];cases h2:idx l'.2.1 i with
  |none=>exact .inl ⟨rfl,rfl⟩
  |some y=>
   simp only[JQ,By];by_cases h3:aM y.1 (J1 .i64 l'.1 i)=false;rw[if_pos h3,if_pos h3];cases h4:Js y with
   |none=>exact .inl ⟨rfl,rfl⟩
   |some b=>
    cases b with
    |false=>exact .inr (.inl ⟨_,rfl,rfl⟩)
    |true=>exact .inr (.inr ⟨_,_,rfl,rfl,rfl,rfl⟩)
   rw[if_neg h3,if_neg h3];exact .inr (.inl ⟨_,rfl,rfl⟩)
  rw[if_neg h1,if_neg h1];exact .inr (.inl ⟨_,rfl,rfl⟩)
 unfold xE JB;rw[show ic l=iV l from rfl,e]
theorem JIP(x:SW):VP x=rS x:=by obtain⟨b,h1,h2⟩:=r8 x.2;unfold VP rS;rw[h1,h2]
theorem JFF(p:Ji):rF p=iI p:=by
 unfold rF iI;refine re (λs t=>s=(p.2.2,t.1,p)/\t.2=p/\0<=t.1) ?_ ⟨rfl,rfl,aZ _⟩;rintro s ⟨i,j⟩ ⟨rfl,rfl,h0⟩;unfold ii MU
 (try dsimp only at h0⊢)
 by_cases h1:aK i 16=true;rw[if_pos h1,if_pos h1];have hi:=hE.1 h1;have r:i.toNat<16:=by omega
 have A:qB j.2.2 i=some j.2.2[i.toNat]:=by unfold qB;rw[if_pos ⟨h0,hi⟩];exact Vector.getElem?_eq_getElem r
 have y:vat j.2.2 i.toNat=some j.2.2[i.toNat]:=Vector.getElem?_eq_getElem r;have w:aV 16 i=some ():=by unfold aV;rw[if_pos ⟨h0,hi⟩]
 rw[A,y,w];obtain⟨b,d⟩:dG:=j.2.2[i.toNat];have ep: ∀{n:Int},J1 .i64 i 1=n->n=J1 .i64 i 1:=λh=>h.symm;have k:0<=J1 .i64 i 1:=by have:=Jm i 1;omega
 simp only[JQ,iY];by_cases z:J0 d<=12;have e:aO (J0 d) 12=false:=by simp[aO];omega
 have g:bJ (J0 d) 12=true:=jQ.2 z;cases b;by_cases o:d=[];subst o;simp[e,g,Jp,neS,eqS,k];have v:neS d []=true:=by simp[neS,o]
 have x:eqS d []=false:=by simp[eqS,o]
 simp[e,g,v,x,Jp];by_cases q:aH j.2.1 0=true;simp[e,g,Jp,q];simp[e,g,Jp,q,k];have e:aO (J0 d) 12=true:=by simp[aO];omega
 have g:bJ (J0 d) 12=false:=by simp[bJ];omega
 simp[e,g,Jp];rw[if_neg h1,if_neg h1];exact .inr (.inl ⟨_,rfl,rfl⟩)
end Go.Am
end
section
namespace Go.Am
set_option linter.unusedVariables false
set_option maxRecDepth 20000
set_option maxHeartbeats 1000000
theorem JDb(p:Ji):FM p=jW p:=by unfold FM MQ jW;by_cases h1:aQ p.1 0=true<;>by_cases h2:aK p.1 64=true<;>simp[h1,h2]
theorem JIf(p:Ji):Par (tV p) λy=>iJ p=some y.2:=by
 unfold tV iJ;rw[JDb,JFF];refine .bind λh h2=>.not (λd=>.some (by rw[h2];subst d;rfl)) λd=>.bind λg h3=>.not (λe=>.some (by rw[h2,h3];subst d;simp[e,Jp])) λe=>.bind λB _=>.bind λz _=>?_;have j:((jW p).bind λh=>if Jp h=true then some (1:Int)else(iI p).bind λg=>if Jp g=true then some 22 else some 0)=some 0:=by rw[h2,h3];subst d e;rfl
 refine .while (λ_=>True) trivial ?_;rintro⟨v,i,q,s⟩ _;unfold i5;exact .lt (λ_=>.bind λw _=>.bind λx _=>.some trivial) λ_=>.map (.bind λA _=>.bind λk _=>.bind λr _=>.bind λo _=>.bind λn _=>.some j)
theorem JJR{l:Jt}(hv:JB l=some true)(hf:1<=l.1/\l.1<=1099511627776)(hl:J0 l.2.1<=4096){n:Int}(h0:0<=n)(hn:n<9223372036854775808):
  (n<l.1\/n-l.1>=l.2.1.length)/\(∃e,eB (l,n)=some e/\e.2=14)\/(¬(n<l.1\/n-l.1>=l.2.1.length))/\ ∃e,l.2.1[(n-l.1).toNat]?=some e/\eB (l,n)=some (e,0):=by
 have hL:J0 l.2.1=l.2.1.length:=rfl;have o:=Jm l.1 (J0 l.2.1);have q:=bC (J1 .i64 l.1 (J0 l.2.1)) 1;have k:=bC n l.1;unfold eB;rw[hv];simp only[JQ];rw[if_neg (by decide)];by_cases h1:n<l.1;rw[if_neg (by rw[hE.2 h1];decide)];exact .inl ⟨.inl h1,_,rfl,rfl⟩;have j:aK n l.1=false:=by simp[aK];omega
 rw[if_pos j,show iV l=some (JJ .i64 (J1 .i64 l.1 (J0 l.2.1)) 1)from rfl];simp only[JQ];by_cases h2:n-l.1>=l.2.1.length;rw[if_pos (jS.2 (by omega))];exact .inl ⟨.inr h2,_,rfl,rfl⟩;rw[if_neg (λh=>by have:=jS.1 h;omega)];have g:(n-l.1).toNat<l.2.1.length:=by omega
 refine .inr ⟨λh=>h.elim h1 h2,l.2.1[(n-l.1).toNat],zQ9 g,?_⟩;have:idx l.2.1 (JJ .i64 n l.1)=some l.2.1[(n-l.1).toNat]:=by rw[show JJ .i64 n l.1=n-l.1 by omega];unfold idx;rw[if_pos (by omega)];exact zQ9 g
 rw[this];rfl
end Go.Am
end
section
namespace Go.Am
set_option linter.unusedVariables false
set_option maxRecDepth 20000
set_option maxHeartbeats 1000000
theorem JJZ{e:J5}(h:Js e=some true):0<=e.2.2.2.2.1/\e.2.2.2.2.1<e.1:=by
 have g:Par (Js e) λy=>y=true->0<=e.2.2.2.2.1/\e.2.2.2.2.1<e.1:=by unfold Js;refine .bind λa _=>.ite (λ_=>.ite (λ_=>.ge (λ_=>.le (λ_=>.bind λb1 _=>.ite (λ_=>.bind λb2 j=>.ite (λk=>.bind λb3 _=>.some λ_=>te (x:=(e.2.2.2.2.1,e.1)) (k▸j)) λ_=>.some nofun) λ_=>.some nofun) λ_=>.some nofun) λ_=>.some nofun) λ_=>.some nofun) λ_=>.some nofun
 exact g _ h rfl
theorem KJ{l:Jt}(h:JB l=some true):(1<=l.1/\l.1<=1099511627776)/\J0 l.2.1<=4096/\ ∀(i:Nat) e,l.2.1[i]?=some e->e.1=l.1+i/\Js e=some true:=by
 have w:Par (JB l) λy=>y=true->(1<=l.1/\l.1<=1099511627776)/\J0 l.2.1<=4096/\ ∀(i:Nat) e,l.2.1[i]?=some e->e.1=l.1+i/\Js e=some true:=by
  unfold JB;refine .ltf (λc1=>.gtf (λC=>.gtf (λE=>.ltf (λM=>.bind λN _=>.gt (λ_=>.some nofun) λ_=>?_) λ_=>.some nofun) λ_=>.some nofun) λ_=>.some nofun) λ_=>.some nofun;have hL:J0 l.2.1=l.2.1.length:=rfl;refine .while (λz=>z.2=l/\0<=z.1/\z.1<=J0 l.2.1/\ ∀(i:Nat) e,(i:Int)<z.1->l.2.1[i]?=some e->e.1=l.1+i/\Js e=some true) ⟨rfl,aZ _,by show(0:Int)<=_;omega,λi e hi=>by omega⟩ ?_;rintro⟨i,l'⟩ ⟨rfl,h0,h1,h2⟩;have I:J0 l'.2.1=l'.2.1.length:=rfl;have G: ¬l'.1<1:=c1;have H: ¬(1099511627776:Int)<l'.1:=C;have J: ¬(4096:Int)<J0 l'.2.1:=E;unfold wZ;refine .lt (λo=>.bind λx q=>.nef (λA=>.bind λK k=>.bind λL D=>.not (λ_=>.some nofun) λB=>.some ?_) λ_=>.some nofun) λo=>.some λ_=>⟨⟨by omega,by omega⟩,by omega,λj e n=>h2 j e (by have:j<l'.2.1.length:=(eP.1 n).1;simp only at o h1⊢;omega) n⟩;simp only at h0 h1 h2 o A q k;have P:=Jm l'.1 i;have O:=Jm i 1;rw[q]at k;injection k with k;subst k;refine⟨rfl,by show 0<=J1 .i64 i 1;omega,by show J1 .i64 i 1<=J0 l'.2.1;omega,λj e F n=>?_⟩;by_cases r:(j:Int)<i;exact h2 j e r n;have v:(j:Int)=i:=(by have:(j:Int)<J1 .i64 i 1:=F;omega);have g:l'.2.1[j]?=some x:=by have:idx l'.2.1 i=some x:=q;unfold idx at this;rw[if_pos h0]at this;rw[<-this,<-v];rfl
  rw[n]at g;injection g with g;subst g B;exact⟨by show e.1=l'.1+j;omega,D⟩
 exact w _ h rfl
theorem mc{l:Jt}(h:JB l=some true):NW l.1 l.2.1:=λi e g=>by obtain⟨_,_,h3⟩:=KJ h;obtain⟨k,j⟩:=h3 i e g;have:=(JJZ j).2;omega
end Go.Am
end
section
namespace Go.Am
set_option linter.unusedVariables false
set_option maxRecDepth 20000
set_option maxHeartbeats 1000000
theorem EW(e:J5):JN e=some (decide (e.2.1=1\/e.2.1=2)):=by
 unfold JN;by_cases h1:e.2.1=1;rw[if_neg (by rw[qV.2 h1];decide)];simp[h1];rw[if_pos (by simp[aH,h1])];simp[aH,h1]
theorem ro{l:Jt}(hv:JB l=some true)(page above:Int)(h0:0<=above):
  ∀(k:Nat) (g:Int) (out:List J5),(g-above).toNat<k->g<9223372036854775808->out.length+(bK l.1 l.2.1 above k g).length<=1000000->
   Jg wX (page,above,out.reverse,g,l)=some (kZ page above (bK l.1 l.2.1 above k g) g out)
 |0,g,out,hk,_,_=>by omega
 |k+1,g,out,hk,ha,hlen=>by
  obtain⟨y,x,_⟩:=KJ hv;by_cases j:g>above;rcases JJR hv y x (n:=g) (by omega) ha with⟨v,e,h1,h2⟩|⟨v,e,h1,h2⟩;have q:bK l.1 l.2.1 above (k+1) g=[(g,pg0,14)]:=by rw[bK,if_pos j,if_pos v]
  rw[q];refine EX ?_;unfold wX;dsimp only;rw[if_pos (jS.2 j),h1];simp only[JQ];rw[if_pos (by rw[h2];decide)];rfl;have q:bK l.1 l.2.1 above (k+1) g=(g,e,0)::bK l.1 l.2.1 above k e.2.2.2.2.1:=by rw[bK,if_pos j,if_neg v,h1]
  rw[q]at hlen⊢;rw[uL]at hlen;have B:=mc hv _ e h1;have A: ¬g<l.1:=λh=>v (.inl h);rw[kZ,if_neg (by intro h;exact h rfl)];by_cases r:e.2.1=1\/e.2.1=2;by_cases w:e.2.2.2.2.2.2.1.1=page;rw[if_neg (λh=>h.elim (λh=>h r) (λh=>h w))];have ih:=ro hv page above h0 k e.2.2.2.2.1 (out++[e]) (by omega) (by omega) (by rw[eI,List.length_singleton];omega);rw[List.reverse_append]at ih;rw[<-ih];refine gb ?_;unfold wX;dsimp only;rw[if_pos (jS.2 j),h2];simp only[JQ,EW];rw[if_neg (by decide),if_pos (by simp[Jp,r]),if_neg (λh=>by simp[aM,w]at h)];have z:MK (e,out.reverse)=some ([e].reverse++out.reverse):=by unfold MK JO;rw[if_pos (ZQ (by simp;omega) (by decide))];rfl
  rw[z];rfl;rw[if_pos (.inr w)];refine EX ?_;unfold wX;dsimp only;rw[if_pos (jS.2 j),h2];simp only[JQ,EW];rw[if_neg (by decide),if_pos (by simp[Jp,r]),if_pos (by simp[aM,w])];rw[if_pos (.inl r)];refine EX ?_;unfold wX;dsimp only;rw[if_pos (jS.2 j),h2];simp only[JQ,EW];rw[if_neg (by decide),if_neg (by simp[Jp,r])];have q:bK l.1 l.2.1 above (k+1) g=[]:=by rw[bK,if_neg j]
  rw[q,kZ];refine EX ?_;unfold wX;dsimp only;rw[if_neg (λh=>j (jS.1 h))];by_cases o:g<above;rw[if_pos (hE.2 o),if_pos o];rfl;rw[if_neg (λh=>o (hE.1 h)),if_neg o];rfl
theorem JIJ(x:NQ)(hr:x.2.2.1<9223372036854775808):FH x=FJ x:=by
 obtain⟨l,page,last,above⟩:=x;show IK (xE l) (l,page,last,above)=_;unfold FJ IK;rw[Db]
 (try dsimp only at hr⊢)
 cases hv:JB l with
 |none=>rfl
 |some b=>
  cases b with
  |false=>rfl
  |true=>
   simp only[JQ];rw[if_neg (show¬(true=false) by decide),if_neg (show¬Jp true=true by decide)];obtain⟨k,n,_⟩:=KJ hv;have hL:J0 l.2.1=l.2.1.length:=rfl;by_cases c1:page<0;rw[if_pos (.inl c1),if_neg (by rw[hE.2 c1];decide)];rw[if_pos (show aK page 0=false by simp[aK];omega)];by_cases g:page>=64;rw[if_pos (.inr (.inl g)),if_neg (by rw[EM.2 g];decide)];rw[if_pos (show aQ page 64=false by simp[aQ];omega)];by_cases j:last<0;rw[if_pos (.inr (.inr (.inl j))),if_neg (by rw[hE.2 j];decide)];rw[if_pos (show aK last 0=false by simp[aK];omega)];by_cases e:above<0;rw[if_pos (.inr (.inr (.inr e))),if_pos (hE.2 e)];rw[if_neg (λh=>h.elim c1 λh=>h.elim g λh=>h.elim j e),if_neg (λh=>e (hE.1 h)),if_pos ⟨k.1,by omega,hr,by omega,mc hv⟩];have:=ro hv page above (by omega) ((last-above).toNat+1) last [] (by omega) hr (by have:=sv l.1 l.2.1 above (mc hv) ((last-above).toNat+1) last (by omega);simp only[List.length_nil];omega);exact this.symm
end Go.Am
end
section
namespace Go.Am
set_option linter.unusedVariables false
set_option maxRecDepth 20000
set_option maxHeartbeats 1000000
def PF(p:Ji):Prop:= ∃y,tV p=some y
theorem PF.check{p:Ji}(h:PF p): ∃y,tV p=some y/\iJ p=some y.2:=by obtain⟨y,e⟩:=h;exact⟨y,e,JIf p y e⟩
theorem QG(x:IE)(h:PF x.1):wP x=iK x:=by obtain⟨y,h1,h2⟩:=h.check;unfold wP iK;rw[By,h1,h2,JIP];rfl
theorem JGT(x:kS)(h:PF x.2.1)(hr:x.2.2<9223372036854775808):ML x=xB x:=by obtain⟨y,h1,h2⟩:=h.check;unfold ML xB;rw[Db,h1,h2,JIJ _ hr];rfl
theorem ZO{σ τ ρ e:Type}{f:σ->Option (σ⊕ρ)}{g:τ->Option (τ⊕e)}(R:σ->τ->Prop)(K:e->ρ)
  (h: ∀s t,R s t->(f s=none/\g t=none)\/(∃r,f s=some (.inr (K r))/\g t=some (.inr r))\/ ∃s' t',f s=some (.inl s')/\g t=some (.inl t')/\R s' t'):
  ∀(n:Nat) s t,R s t->cH f n s=(cH g n t).map K
 |0,s,t,_=>rfl
 |n+1,s,t,hR=>by
  rcases h s t hR with⟨h1,h2⟩|⟨r,h1,h2⟩|⟨s',t',h1,h2,h3⟩;simp only[cH,h1,h2];rfl;simp only[cH,h1,h2];rfl;simp only[cH,h1,h2];exact ZO R K h n s' t' h3
theorem JEC{σ τ ρ j:Type}{f:σ->Option (σ⊕ρ)}{g:τ->Option (τ⊕j)}(R:σ->τ->Prop)(K:j->ρ)
  (h: ∀s t,R s t->(f s=none/\g t=none)\/(∃r,f s=some (.inr (K r))/\g t=some (.inr r))\/ ∃s' t',f s=some (.inl s')/\g t=some (.inl t')/\R s' t') {s:σ} {t:τ} (hR:R s t):
  Jg f s=(Jg g t).map K:=by
 apply Option.ext;intro r;rw[gE];constructor;rintro⟨n,e⟩;rw[ZO R K h n s t hR]at e;obtain⟨r',h1,h2⟩:=fZ.1 e;rw[gE.2 ⟨n,h1⟩];exact congrArg _ h2;intro k;obtain⟨r',h1,h2⟩:=fZ.1 k;obtain⟨n,e⟩:=gE.1 h1;exact⟨n,by rw[ZO R K h n s t hR,e];exact congrArg some h2⟩
abbrev noP:Ji:=(0,0,Vector.replicate 16 (false,[]))
theorem JDm(L:List J5)(l:Jt)(p:Ji)(I:Ji->Prop)(j: ∀q,I q->PF q)(hp:I p)(hs: ∀q e r,I q->e∈L->iK (q,e)=some r->I r.1):
  NH (L,p)=(Jg wV (L,0,l,p,0,0,Vector.replicate 16 (false,[]))).map λy=>(y.1,y.2.2):=by
 unfold NH;refine JEC (λs t=> ∃i q,s=(L,J0 L,i,q,noP,noP)/\t=(L,i,l,q,noP)/\I q) _ ?_ ⟨0,p,rfl,rfl,hp⟩;rintro s t ⟨i,q,rfl,rfl,h⟩;unfold Eo wV;dsimp only;by_cases h1:aK i (J0 L)=true;rw[if_pos h1,if_pos h1];cases h2:idx L i with
 |none=>exact .inl ⟨rfl,rfl⟩
 |some e=>
  have k:e∈L:=(by unfold idx at h2;split at h2;exact zQ5 h2;cases h2);simp only[JQ];rw[QG (q,e) (j q h)];cases h3:iK (q,e)with
  |none=>exact .inl ⟨rfl,rfl⟩
  |some r=>
   simp only[JQ];by_cases g:aM r.2 0=true;rw[if_pos g,if_pos g];exact .inr (.inl ⟨_,rfl,rfl⟩);rw[if_neg g,if_neg g];exact .inr (.inr ⟨_,_,rfl,rfl,_,_,rfl,rfl,hs q e r h k h3⟩)
 rw[if_neg h1,if_neg h1];exact .inr (.inl ⟨_,rfl,rfl⟩)
end Go.Am
end
section
namespace Go.Am
set_option linter.unusedVariables false
set_option maxRecDepth 20000
set_option maxHeartbeats 1000000
theorem JEG(L:List J5)(l:Jt)(p:Ji):Par (Jg wV (L,0,l,p,0,0,Vector.replicate 16 (false,[]))) λy=>(¬y.2.2=0->y.2.1=0)/\(y.2.2=0->y.2.1=J0 L):=by refine .while (λz=>z.1=L) rfl ?_;rintro⟨L',i,l',q,z⟩ rfl;unfold wV;exact .lt (λ_=>.bind λe _=>.bind λg _=>.ne (λh=>.some ⟨λ_=>rfl,λk=>absurd k h⟩) λ_=>.some rfl) λ_=>.some ⟨λk=>absurd rfl k,λ_=>rfl⟩
theorem JEE(x:kS)(I:Ji->Prop)(k: ∀q,I q->PF q)(hp:I x.2.1)(hr:x.2.2<9223372036854775808)
  (hs: ∀y,xB x=some y-> ∀q e r,I q->e∈y.1->iK (q,e)=some r->I r.1):LU x=pU x/\ME x=BB x:=by
 obtain⟨l,p,n⟩:=x;have o:=JGT (l,p,n) (k _ hp) hr;unfold LU ME pU BB tX
 (try dsimp only at o⊢)
 rw[o];cases h1:xB (l,p,n)with
 |none=>exact⟨rfl,rfl⟩
 |some y=>
  simp only[JQ];by_cases h2:y.2=0;have h:aM y.2 0=false:=by simp[aM,h2]
  have j:aH y.2 0=true:=qV.2 h2;rw[h,j,JDm y.1 l p I k hp (hs y h1)];simp only[eK,if_false,if_true];cases h3:Jg wV (y.1,0,l,p,0,0,Vector.replicate 16 (false,[]))with
  |none=>exact⟨rfl,rfl⟩
  |some r=>
   obtain⟨v,w⟩:=JEG y.1 l p r h3;refine⟨rfl,?_⟩;simp only[dJ,JQ];by_cases g:r.2.2=0;rw[if_neg (by simp[aM,g])];exact congrArg some (Prod.ext (w g).symm g.symm);rw[if_pos (by simp[aM,g])];exact congrArg some (Prod.ext (v g).symm rfl)
  have h:aM y.2 0=true:=by simp[aM,h2]
  have j:aH y.2 0=false:=by simp[aH,h2]
  rw[h,j];simp only[if_true,eK,if_false,h];exact⟨rfl,rfl⟩
end Go.Am
end
section
namespace Go.Am
def Fw{α:Type}(o e:Option α):Prop:= ∀y,o=some y->e=some y
variable {α β σ τ ρ:Type}
theorem Fw.rfl{o:Option α}:Fw o o:=λ_ h=>h
theorem Fw.of{o g:Option α}(h:o=g):Fw o g:=λ_ e=>h▸e
theorem Fw.ite{c v:Bool}{a b e g:Option α}(h1:c=v->Fw a e)(h2: ¬c=v->Fw b g):Fw (if c=v then a else b) (if c=v then e else g):=by
 grind
theorem Fw.bind{o j:Option α}{f g:α->Option β}(h:Fw o j)(k: ∀y,o=some y->Fw (f y) (g y)):Fw (o.bind f) (j.bind g):=λr e=>by obtain⟨y,h1,h2⟩:=cK.1 e;rw[h y h1];exact k y h1 r h2
theorem Fw.while{L:σ->Option (σ⊕ρ)}{M:τ->Option (τ⊕ρ)}(R:σ->τ->Prop)
  (h: ∀a b,R a b-> ∀r,L a=some r->match r with| .inl n=> ∃j,M b=some (.inl j)/\R n j| .inr y=>M b=some (.inr y)) {z:σ} {g:τ} (hz:R z g):Fw (Jg L z) (Jg M g):=λy o=>by
 refine fg (P:=λs r=> ∀b,R s b->Jg M b=some r) (λs r e b k=>EX (h s b k _ e)) (λs s' r e ih b k=>?_) o g hz;grind [gb]
end Go.Am
end
section
namespace Go.Am
theorem cU{σ ρ:Type}{L:σ->Option (σ⊕ρ)}{Q:ρ->Prop}(n:Int)(e:Int->σ)
  (h: ∀q:Int,Ty.fit 0 0 (.i .i64) q->0<=q->q<=n->Tot (L (e q)) λr=>match r with| .inl z=>q<n/\z=e (J1 .i64 q 1)| .inr y=>Q y)
  (hn:n<=9223372036854775807:=by omega) (h0:0<=n:=by omega):Tot (Jg L (e 0)) Q:=by
 refine Jq e (λq=>0<=q/\q<=n) (λq=>n-q) (λq j=>?_) 0 rfl ⟨aZ 0,h0⟩;have h1:0<=q:=j.1;have h2:q<=n:=j.2;refine(h q (J2.2 (by omega)) h1 h2).mono λr g=>?_;cases r with
 |inl z=>have h3:q<n:=g.1;have:=Jm q 1;exact⟨J1 .i64 q 1,g.2,⟨by omega,by omega⟩,by omega,by omega⟩
 |inr y=>exact g
theorem lF{B S:Int}{t:Ty}{l:List t.D}(h:Ty.fit B S (.l t) l): @J0 t.D l= @J0 t.D l/\0<=J0 l/\J0 l<=B:=⟨rfl,Jh,h.1⟩
theorem sF{S:Int}{z:List UInt8}(h:J0 z<=S):0<=J0 z/\J0 z<=S:=⟨Jh,h⟩
end Go.Am
end
section
namespace Go.Am
set_option linter.unusedVariables false
set_option maxRecDepth 20000
set_option maxHeartbeats 4000000
section
variable {B S:Int}
theorem Xb{x:dG}(e:iY x=some true):J0 x.2<=12:=by
 have g:Par (iY x) λy=>y=true->J0 x.2<=12:=by unfold iY;exact .le (λc r _ _=>c) λ_=>.some nofun
 exact g _ e rfl
theorem Oo{x:Ji}(e:iI x=some true): ∀(j:Nat) (hj:j<16),J0 (x.2.2[j]).2<=12:=by
 have n:Par (iI x) λy=>y=true-> ∀(j:Nat) (hj:j<16),J0 (x.2.2[j]).2<=12:=by
  unfold iI;refine .while (λz=>z.2=x/\0<=z.1/\z.1<=16/\ ∀(j:Nat) (hj:j<16),(j:Int)<z.1->J0 (x.2.2[j]).2<=12) ⟨rfl,aZ _,by dsimp only;omega,λj e h1=>by dsimp only at h1;omega⟩ ?_;rintro⟨i,z⟩ ⟨rfl,h0,k,h⟩;dsimp only at h0 h k;unfold MU;dsimp only;refine .lt (λc=>?_) λc=>.some λ_ j hj=>h j hj oo;refine .bind λ_ _=>.bind λA g=>.bind λb r=>.nof (λo=>?_) λ_=>.some nofun;subst o;have:=Jm i 1;have q:z.2=z.2/\(0<=J1 .i64 i 1/\J1 .i64 i 1<=16/\ ∀(j:Nat) (hj:j<16),(j:Int)<J1 .i64 i 1->J0 (z.2.2[j]).2<=12):=by
   refine⟨rfl,oo,oo,λj hj w=>?_⟩;by_cases v:(j:Int)<i;exact h j hj v;have:j=i.toNat:=by omega
   subst this;unfold vat at g;rw[Vector.getElem?_eq_getElem hj]at g;injection g with g;rw[g];exact Xb r
  exact .eq (λ_=>.bind λ_ _=>.bind λ_ _=>.ite (λ_=>.some nofun) λ_=>.some ⟨rfl,q.2⟩) λ_=>.some ⟨rfl,q.2⟩
 exact n _ e rfl
theorem yj{x:Ji}(e:jW x=some true):0<=x.1/\x.1<64/\0<=x.2.1/\x.2.1<=1099511627776:=by
 have g:Par (jW x) λy=>y=true->0<=x.1/\x.1<64/\0<=x.2.1/\x.2.1<=1099511627776:=by unfold jW;exact .ge (λ_=>.lt (λ_=>.ge (λ_=>.some λc=>by have:=jQ.1 c;omega) λ_=>.some nofun) λ_=>.some nofun) λ_=>.some nofun
 exact g _ e rfl
theorem Pb{x:Ji}(e:mP x=some true):jW x=some true/\iI x=some true:=by
 have g:Par (mP x) λy=>y=true->jW x=some true/\iI x=some true:=by unfold mP;exact .bind λa h=>.ite (λc=>.bind λb j=>.some λd=>⟨c▸h,d▸j⟩) λ_=>.some nofun
 exact g _ e rfl
theorem Eg{x:Ji}(h:aB B S Jd x)(e:iI x=some true):aB 0 12 Jd x:=
 ⟨h.1,h.2.1,λi hi=>⟨trivial,Oo e i hi⟩⟩
theorem vu{x:Ji}{y:Bool}(h:aB B S Jd x)(e:mP x=some y)(c:y=true):(0<=x.1/\x.1<64/\0<=x.2.1/\x.2.1<=1099511627776)/\aB 0 12 Jd x:=by subst c;obtain⟨h1,h2⟩:=Pb e;exact⟨yj h1,Eg h h2⟩
theorem MI{x:Ji}{y:Int}(h:aB B S Jd x)(e:iJ x=some y)(c:y=0):(0<=x.1/\x.1<64/\0<=x.2.1/\x.2.1<=1099511627776)/\aB 0 12 Jd x:=by
 subst c;have g:Par (iJ x) λy=>y=0->jW x=some true/\iI x=some true:=by unfold iJ;exact .bind λa j=>.not (λ_=>.some nofun) λc=>.bind λb k=>.not (λ_=>.some nofun) λd=>.some λ_=>⟨c▸j,d▸k⟩
 obtain⟨h1,h2⟩:=g _ e rfl;exact⟨yj h1,Eg h h2⟩
def JKU(n i:Int)(p:JK)(r:(cJ)⊕Bool):Prop:=r=.inl (n,J1 .i64 i 1,p)\/r=.inr false
theorem Gy(n i k:Int)(p:JK)(f:aF):Par (Jg fQ (n,i,k,p,f)) (JKU n i p):=by refine .while (λz=>z.1=n/\z.2.1=i/\z.2.2.2.1=p) ⟨rfl,rfl,rfl⟩ ?_;rintro⟨n,i,k,p,f⟩ ⟨rfl,rfl,rfl⟩;unfold fQ;exact .lt (λ_=>.bind λ_ _=>.eq (λ_=>.map (.some (.inr rfl))) λ_=>.some ⟨rfl,rfl,rfl⟩) λ_=>.some (.inl rfl)
theorem ia{x:JK}(e:JY x=some true):(1<=x.1/\x.1<=64/\J0 x.2.1<=x.1/\0<=x.2.2/\(x.2.2<J0 x.2.1\/x.2.2=0))/\ ∀(j:Nat) (f:aF),x.2.1[j]?=some f->mP f.1=some true:=by
 have o:Par (JY x) λy=>y=true->(1<=x.1/\x.1<=64/\J0 x.2.1<=x.1/\0<=x.2.2/\(x.2.2<J0 x.2.1\/x.2.2=0))/\ ∀(j:Nat) (f:aF),x.2.1[j]?=some f->mP f.1=some true:=by
  unfold JY;refine .ltf (λc1=>.gtf (λG=>.gtf (λE=>.ltf (λI=>.gt (λ_=>.some nofun) λH=>?_) λ_=>.some nofun) λ_=>.some nofun) λ_=>.some nofun) λ_=>.some nofun;have:=tD 0 (JJ .i64 (J0 x.2.1) 1);have:=bC (J0 x.2.1) 1;have:=Jh (l:=x.2.1);have v:1<=x.1/\x.1<=64/\J0 x.2.1<=x.1/\0<=x.2.2/\(x.2.2<J0 x.2.1\/x.2.2=0):=by omega
  refine .while (λz=>z.2.2=x/\0<=z.2.1/\z.1=J0 x.2.1/\ ∀(j:Nat) (f:aF),(j:Int)<z.2.1->x.2.1[j]?=some f->mP f.1=some true) ⟨rfl,aZ _,rfl,λj e h1=>by dsimp only at h1;omega⟩ ?_;rintro⟨n,i,z⟩ ⟨rfl,h0,w,k⟩;dsimp only at h0 k w v E;unfold WF;dsimp only;refine .lt (λc=>?_) λc=>.some λ_=>⟨v,λj f h=>k j f (by have:=sY h;omega) h⟩;refine .bind λf C=>.bind λb B=>.nof (λq=>?_) λ_=>.some nofun;subst q;have:=Jm i 1;have A:z=z/\0<=J1 .i64 i 1/\n=J0 z.2.1/\ ∀(j:Nat) (f:aF),(j:Int)<J1 .i64 i 1->z.2.1[j]?=some f->mP f.1=some true:=by
   refine⟨rfl,oo,w,λj g J h=>?_⟩;by_cases D:(j:Int)<i;exact k j g D h;have:j=i.toNat:=by omega
   subst this;rw[(cL C).2]at h;injection h with h;subst h;exact B
  refine .ite (λ_=>.ltf (λ_=>.gtf (λ_=>.not (λ_=>.ne (λ_=>.some nofun) λ_=>?_) λ_=>?_) λ_=>.some nofun) λ_=>.some nofun) λ_=>.not (λ_=>.ne (λ_=>.some nofun) λ_=>?_) λ_=>?_
  all_goals
   intro r F;rcases Gy n i 0 z f r F with rfl|rfl;exact A;nofun
 exact o _ e rfl
theorem rR{x:JK}{y:Bool}(h:aB B S JS x)(e:JY x=some y)(c:y=true):(1<=x.1/\x.1<=64/\J0 x.2.1<=x.1/\0<=x.2.2/\(x.2.2<J0 x.2.1\/x.2.2=0))/\aB 64 12 JS x:=by subst c;obtain⟨q,k⟩:=ia e;refine⟨q,h.1,⟨by show J0 x.2.1<=64;omega,λa g=>?_⟩,h.c⟩;obtain⟨j,n⟩:=kR.1 g;have h2:=h.2.1.2 a g;exact⟨(vu h2.1 (k j a n) rfl).2.u,h2.2⟩
theorem wU{x:dA}{y:Bool}(h:aB B S JH x)(e:lM x=some y)(c:y=true)(n:B<=4611686018427387903:=by omega):(J0 x.1+J0 x.2<=1024)/\aB 1024 0 JH x:=by
 subst c;have j:Par (lM x) λy=>y=true-> ¬1024<J1 .i64 (J0 x.1) (J0 x.2):=by unfold lM;exact .gt (λ_=>.some nofun) λc _ _ _=>c
 have o:=j _ e rfl;have:=Jm (J0 x.1) (J0 x.2);have:=Jh (l:=x.1);have:=Jh (l:=x.2);have:J0 x.1<=B:=h.1.1;have:J0 x.2<=B:=h.2.1;have k:J0 x.1+J0 x.2<=1024:=by omega
 refine⟨k,⟨?_,λa g=>?_⟩,?_,λa g=>?_⟩;show J0 x.1<=1024;omega;have q:=h.1.2 a g;exact q;show J0 x.2<=1024;omega;have q:=h.c a g;exact q
theorem Rp{x:Ju}(e:pN x=some true):1<=x.1/\x.1<=1073741824/\1<=x.2.1/\x.2.1<=3/\J0 x.2.2.2.2.1<=4096/\J0 x.2.2.2.2.2<=8:=by
 have g:Par (pN x) λy=>y=true->1<=x.1/\x.1<=1073741824/\1<=x.2.1/\x.2.1<=3/\J0 x.2.2.2.2.1<=4096/\J0 x.2.2.2.2.2<=8:=by unfold pN;refine .ltf (λc1=>.gtf (λh=>.ltf (λo=>.gtf (λn=>.ltf (λ_=>.gtf (λ_=>.gtf (λj=>.gt (λ_=>.some nofun) λk=>?_) λ_=>.some nofun) λ_=>.some nofun) λ_=>.some nofun) λ_=>.some nofun) λ_=>.some nofun) λ_=>.some nofun) λ_=>.some nofun;intro _ _ _;omega
 exact g _ e rfl
theorem N0{x:List Ju}(e:iW x=some true):J0 x<=64/\ ∀(j:Nat) (f:Ju),x[j]?=some f->pN f=some true:=by
 have n:Par (iW x) λy=>y=true->J0 x<=64/\ ∀(j:Nat) (f:Ju),x[j]?=some f->pN f=some true:=by
  unfold iW;refine .gt (λ_=>.some nofun) λc1=>?_;have r:J0 x<=64:=by omega
  refine .while (λz=>z.1=x/\0<=z.2/\ ∀(j:Nat) (f:Ju),(j:Int)<z.2->x[j]?=some f->pN f=some true) ⟨rfl,aZ _,λj e h1=>by dsimp only at h1;omega⟩ ?_;rintro⟨z,i⟩ ⟨rfl,h0,k⟩;dsimp only at h0 k r;unfold m5;dsimp only;refine .lt (λc=>?_) λc=>.some λ_=>⟨r,λj f h=>k j f (by have:=sY h;omega) h⟩;refine .bind λf w=>.bind λb v=>.nof (λo=>?_) λ_=>.some nofun;subst o;have:=Jm i 1;have q:z=z/\0<=J1 .i64 i 1/\ ∀(j:Nat) (f:Ju),(j:Int)<J1 .i64 i 1->z[j]?=some f->pN f=some true:=by
   refine⟨rfl,oo,λj g B h=>?_⟩;by_cases A:(j:Int)<i;exact k j g A h;have:j=i.toNat:=by omega
   subst this;rw[(cL w).2]at h;injection h with h;subst h;exact v
  exact .gt (λ_=>.bind λ_ _=>.bind λ_ _=>.ge (λ_=>.some nofun) λ_=>.some q) λ_=>.some q
 exact n _ e rfl
theorem rV{x:List Ju}{y:Bool}(h:aB B S (.l Jo) x)(e:iW x=some y)(c:y=true):(J0 x<=64)/\aB 4096 0 (.l Jo) x:=by
 subst c;obtain⟨q,k⟩:=N0 e;refine⟨q,?_,λa g=>?_⟩;show J0 x<=4096;omega;obtain⟨j,o⟩:=kR.1 g;have w:=Rp (k j a o);obtain⟨h1,h2,h3,r,v,n⟩:=h.2 a g;refine⟨h1,h2,h3,r,⟨?_,v.2⟩,?_,n.2⟩;show J0 _<=4096;omega;show J0 _<=4096;omega
theorem AT{x:List aA}{y:Bool}(h:aB B S (.l Jf) x)(e:hO x=some y)(c:y=true):(1<=J0 x/\J0 x<=64)/\aB 64 0 (.l Jf) x:=by
 subst c;have g:Par (hO x) λy=>y=true->(1<=J0 x/\J0 x<=64):=by unfold hO;exact .ltf (λ_=>.gt (λ_=>.some nofun) λ_ _ _ _=>by omega) λ_=>.some nofun
 have q:=g _ e rfl;exact⟨q,q.2,λa j=>h.2 a j⟩
theorem X0{l:List aA}{p:Int}(e:lQ (l,p)=some true)(hp:1<=p)(o:p<=64):J0 l<=p/\ ∀(j:Nat) (f:aA),l[j]?=some f->(j:Int)<=f.1/\f.1<p:=by
 have q:Par (lQ (l,p)) λy=>y=true->J0 l<=p/\ ∀(j:Nat) (f:aA),l[j]?=some f->(j:Int)<=f.1/\f.1<p:=by
  unfold lQ;refine .while (λz=>z.1=l/\z.2.1=p/\0<=z.2.2/\z.2.2<=p/\ ∀(j:Nat) (f:aA),(j:Int)<z.2.2->l[j]?=some f->(j:Int)<=f.1/\f.1<p) ⟨rfl,rfl,aZ _,by dsimp only;omega,λj e h1=>by dsimp only at h1;omega⟩ ?_;rintro⟨l,p,i⟩ ⟨rfl,rfl,h0,n,k⟩;dsimp only at h0 k n hp o;unfold WP;dsimp only;refine .lt (λc=>?_) λc=>.some λ_=>⟨oo,λj f h=>k j f (by have:=sY h;omega) h⟩;refine .bind λf A=>.ltf (λc1=>.gef (λE=>.ltf (λ_=>.gtf (λ_=>.gtf (λ_=>?_) λ_=>.some nofun) λ_=>.some nofun) λ_=>.some nofun) λ_=>.some nofun) λ_=>.some nofun;have:=Jm i 1;have:=bC i 1;have r:i<=f.1->(l=l/\p=p/\0<=J1 .i64 i 1/\J1 .i64 i 1<=p/\ ∀(j:Nat) (f:aA),(j:Int)<J1 .i64 i 1->l[j]?=some f->(j:Int)<=f.1/\f.1<p):=by
   intro C;refine⟨rfl,rfl,oo,oo,λj g G h=>?_⟩;by_cases B:(j:Int)<i;exact k j g B h;have:j=i.toNat:=by omega
   subst this;rw[(cL A).2]at h;injection h with h;subst h;omega
  refine .gt (λD=>.bind λv w=>.ge (λ_=>.some nofun) λF=>.some (r ?_)) λ_=>.some (r oo);obtain⟨_,x⟩:=cL w;have:=k _ v oo x;omega
 exact q _ e rfl
end
section
variable {B S:Int}
def Has(l:List Ju)(id:Int):Prop:= ∃j,gP (l,id)=some j/\0<=j
def InP(p:JK)(id:Int):Prop:= ∃j,gR (p,id)=some j/\0<=j
theorem ZW{l:List Ju}{id y:Int}(h:Has l id)(e:gP (l,id)=some y):0<=y:=by obtain⟨j,h,h0⟩:=h;rw[h]at e;injection e with e;omega
theorem dk{p:JK}{id y:Int}(h:InP p id)(e:gR (p,id)=some y):0<=y:=by obtain⟨j,h,h0⟩:=h;rw[h]at e;injection e with e;omega
theorem gm{p:JK}{id:Int}{y:Ji×Bool}(e:lJ (p,id)=some y):(y.2=true->InP p id)/\(InP p id->y.2=true):=by
 have g:Par (lJ (p,id)) λy=>(y.2=true->InP p id)/\(InP p id->y.2=true):=by unfold lJ;refine .bind λj k=>.lt (λc=>.some ⟨nofun,λh=>by have:=dk h k;omega⟩) λc=>.bind λf n=>.some ⟨λ_=>⟨j,k,oo⟩,λ_=>rfl⟩
 exact g _ e
end
section
variable {B S:Int}
theorem PN(n:Nat)(h:n<2^64):IntKind.wrap .u64 (n:Int)=(n:Int):=by
 have:(n:Int)<18446744073709551616:=by omega
 simp[IntKind.wrap,IntKind.bits,IntKind.signed];omega
theorem JKA{x y:Int}{k:Nat}(hk:k<=64)(hx:0<=x)(g:x<2^k)(hy:0<=y)(h:y<2^k):0<=orI .u64 x y/\orI .u64 x y<2^k:=by
 obtain⟨m,rfl⟩:=Int.eq_ofNat_of_zero_le hx;obtain⟨n,rfl⟩:=Int.eq_ofNat_of_zero_le hy;have e:((2:Int)^k)=((2^k:Nat):Int):=by simp
 rw[e]at g h⊢;have r:m<2^k:=by omega
 have o:n<2^k:=by omega
 have A:2^k<=2^64:=CE (by decide) hk;have q: ∀z:Nat,z<2^k->(BitVec.ofInt 64 (z:Int)).toNat=z:=λz B=>by rw[BitVec.toNat_ofInt];omega
 show 0<=IntKind.wrap .u64 (((BitVec.ofInt 64 (m:Int)|||BitVec.ofInt 64 (n:Int)).toNat:Nat):Int)/\_;have w:=Nat.or_lt_two_pow r o;have j:orI .u64 (m:Int) (n:Int)=((m|||n:Nat):Int):=by show IntKind.wrap .u64 (((BitVec.ofInt 64 (m:Int)|||BitVec.ofInt 64 (n:Int)).toNat:Nat):Int)=_;rw[BitVec.toNat_or,q m r,q n o,PN _ oo]
 have v:IntKind.wrap .u64 (((BitVec.ofInt 64 (m:Int)|||BitVec.ofInt 64 (n:Int)).toNat:Nat):Int)=((m|||n:Nat):Int):=j;rw[j,v];omega
theorem E5{s:List UInt8}{g size:Int}{y:JP}(e:dN (s,g,size)=some y)(c:y.2=0):0<=g/\g<=J0 s/\size<=J0 s-g/\1<=size/\size<=8/\(size<=4->0<=y.1/\y.1<2^(8*size.toNat)):=by
 have w:Par (dN (s,g,size)) λy=>y.2=0->(-9223372036854775808<=J0 s-g->J0 s-g<=9223372036854775807->size<=J0 s-g)/\0<=g/\g<=J0 s/\1<=size/\size<=8/\(size<=4->0<=y.1/\y.1<2^(8*size.toNat)):=by
  unfold dN;dsimp only;refine .ltf (λc1=>.gtf (λR=>.lt (λ_=>.some nofun) λT=>.gtf (λQ=>.lt (λ_=>.some nofun) λS=>?_) λ_=>.some nofun) λ_=>.some nofun) λ_=>.some nofun;have o:=bC (J0 s) g;refine .while (λz=>z.1=s/\z.2.1=g/\z.2.2.1=size/\0<=z.2.2.2.2/\z.2.2.2.2<=size/\0<=z.2.2.2.1/\z.2.2.2.1<2^(8*z.2.2.2.2.toNat)) ⟨rfl,rfl,rfl,aZ _,by dsimp only;omega,aZ _,by show(0:Int)<2^(8*0);decide⟩ ?_;rintro⟨s,g,size,n,i⟩ ⟨h1,h2,h3,h0,J,A,r⟩;dsimp only at h1 h2 h3;subst h1;subst h2;subst h3;dsimp only at h0 J A r;unfold VG;dsimp only;have:=Jm i 1;refine .lt (λc=>?_) λc=>.some λ_=>⟨λ_ _=>by omega,oo,oo,oo,oo,λh=>?_⟩;refine .bind λb j=>.bind λv k=>.some ⟨rfl,rfl,rfl,?_,?_,?_⟩;show 0<=J1 .i64 i 1;omega;show J1 .i64 i 1<=size;omega;have O:0<=b/\b<=255:=by
   unfold oD at j;split at j;cases hx:s[(J1 .i64 g i).toNat]? with
   |none=>rw[hx]at j;cases j
   |some u=>
    rw[hx]at j;injection j with j;subst j;have:=u.toNat_lt;omega
   cases j
  have hi:(J1 .i64 i 1).toNat=i.toNat+1:=by omega
  show 0<=orI .u64 n v/\orI .u64 n v<2^(8*(J1 .i64 i 1).toNat);rw[hi];have:=IL 8 i;have G:bS .u64 (cV .i64 8 i)=8*i:=by rw[show cV .i64 8 i=((8*i.toNat:Nat):Int) by omega];show IntKind.wrap .u64 _=_;rw[PN _ oo];omega
  have E:bS .u64 b=b:=by rw[show b=((b.toNat:Nat):Int) by omega];exact PN _ oo
  rw[G,E]at k;unfold sE at k;rw[if_neg oo]at k;injection k with k;have L:min (8*i).toNat IntKind.u64.bits=8*i.toNat:=by show min (8*i).toNat 64=_;omega
  rw[L]at k;have q:((2:Int)^(8*i.toNat))=((2^(8*i.toNat):Nat):Int):=by simp
  have M:b.toNat*2^(8*i.toNat)<2^(8*(i.toNat+1)):=by rw[show 8*(i.toNat+1)=8+8*i.toNat by omega,Nat.pow_add];exact Nat.mul_lt_mul_of_pos_right oo (Nat.pow_pos (by decide))
  have P:2^(8*(i.toNat+1))<=2^64:=CE (by decide) oo;have x:v=((b.toNat*2^(8*i.toNat):Nat):Int):=by rw[<-k,q,show b*((2^(8*i.toNat):Nat):Int)=((b.toNat*2^(8*i.toNat):Nat):Int) by rw[Int.natCast_mul];congr 1;omega];exact PN _ oo
  have K:n<2^(8*(i.toNat+1)):=Int.lt_of_lt_of_le r (by have:(2:Nat)^(8*i.toNat)<=2^(8*(i.toNat+1)):=CE (by decide) oo;rw[q,show((2:Int)^(8*(i.toNat+1)))=((2^(8*(i.toNat+1)):Nat):Int) by simp];omega);refine JKA oo A K (by rw[x];omega) ?_;rw[x,show((2:Int)^(8*(i.toNat+1)))=((2^(8*(i.toNat+1)):Nat):Int) by simp];omega;have hi:i.toNat=size.toNat:=by omega
  rw[hi]at r;have N:(2:Nat)^(8*size.toNat)<=2^32:=CE (by decide) oo;have q:((2:Int)^(8*size.toNat))=((2^(8*size.toNat):Nat):Int):=by simp
  rw[q]at r;have:=k7 n;show 0<=bS .i64 n/\bS .i64 n<2^(8*size.toNat);rw[q];omega
 obtain⟨B,H,C,I,D,F⟩:=w _ e c;have:=Jh (l:=s);exact⟨H,C,by
  by_cases h:J0 s-g<=9223372036854775807;exact B oo h;omega,I,D,F⟩
theorem FC{x:mS}{y:JP}(h:aB B S JF x)(e:dN x=some y)(c:y.2=0):(1<=x.2.2/\x.2.2<=8/\0<=x.2.1/\x.2.1<=J0 x.1/\x.2.2<=J0 x.1-x.2.1/\(x.2.2<=4->0<=y.1/\y.1<=4294967295)/\(x.2.2=1->y.1<=255)/\(x.2.2=2->y.1<=65535))/\True:=by
 obtain⟨s,n,size⟩:=x;obtain⟨h1,h2,h3,j,k,g⟩:=E5 e c;dsimp only;refine⟨⟨j,k,h1,h2,h3,λh=>?_,λh=>?_,λh=>?_⟩,trivial⟩;obtain⟨a,b⟩:=g h;refine⟨a,?_⟩;have o:(2:Nat)^(8*size.toNat)<=2^32:=CE (by decide) oo;rw[show((2:Int)^(8*size.toNat))=((2^(8*size.toNat):Nat):Int) by simp]at b;omega;subst h;obtain⟨a,b⟩:=g (by decide);have:y.1<256:=b;omega;subst h;obtain⟨a,b⟩:=g (by decide);have:y.1<65536:=b;omega
end
section
variable {B S:Int}
theorem JK3(k:Nat): ∀{n e:Int} {l:List Int},aB B S (.l (.i .u8)) l->aB 0 0 zI n->0<=e->aB 0 0 zI e->B<=4611686018427387903->(n<=256->1<=k)->(¬n<=256->2<=k)->Tot (pX FY k (n,l,e)) λy=>aB B S xH y/\(0<=y.1/\(1<=n->y.1<n)/\0<=y.2.2):=by
 induction k with
 |zero=>intro n e l h1 h2 h3 q w E z;omega
 |succ k ih=>
  intro n e l h1 h2 h3 q w E z;show Tot (FY (pX FY k) (n,l,e)) _;unfold FY;dsimp only;have:=Jm e 1;have:J0 l<=B:=h1.1;refine .gef (λc=>.lt (λc1=>.some ⟨⟨aC,h1,q⟩,aZ _,λc=>by omega,h3⟩) λc1=>.bind (Jl h1 h3 (by show e<J0 l;omega)) λh D=>?_) λc=>.some ⟨⟨aC,h1,q⟩,aZ _,λc=>c,h3⟩;have F:=(XD (B:=B) (S:=S)).1 D.1;have:=k7 h;have j:aB 0 0 zI (J1 .i64 e 1):=Je;refine .gt (λA=>.bind (ih (n:=256) h1 (aG 256) oo j w (λ_=>by omega) λc=>by omega) λv o=>?_) λA=>?_;have r:=o.2.2.1 (by decide);have:=IL 256 (bS .i64 h);have:=Jm (cV .i64 256 (bS .i64 h)) v.1;exact .bind (XS (k:=.i64) (B:=B) (S:=S) (x:=J1 .i64 (cV .i64 256 (bS .i64 h)) v.1) (y:=n) Je oo) λC g=>.some ⟨⟨g.1,o.1.2⟩,g.2.1 oo,λ_=>g.2.2 oo,o.2.2.2⟩;exact .bind (XS (k:=.i64) (B:=B) (S:=S) (x:=bS .i64 h) (y:=n) sX oo) λC g=>.some ⟨⟨g.1,h1,j⟩,g.2.1 oo,λ_=>g.2.2 oo,by show 0<=J1 .i64 e 1;omega⟩
theorem J4{X:iO}(h:aB B S xH X)(p0:0<=X.2.2)(g:BS B S 0 0:=by omega)(e:B<=4611686018427387903:=by omega):Tot (J6 X) λy=>aB B S xH y/\(0<=y.1/\(1<=X.1->y.1<X.1)/\0<=y.2.2):=by obtain⟨n,l,a⟩:=X;exact JK3 (B:=B) (S:=S) 100 h.2.1 h.1 p0 h.c e (λ_=>by decide) λ_=>by decide
end
theorem sB{B S:Int}{X:Jk}(h:aB B S J3 X)(p0:0<=X.2)(a8:BG B S:=by omega):Tot (mR X) λy=>aB B S (.pr .s J3) y/\(0<=y.2.2/\J0 y.1<=13):=by unfold mR;exact .bind (J4 (B:=B) (S:=S) ⟨aG 5,h⟩ om) λv h2=>have:=J2.1 h2.1.1;have:=J2.1 h2.1.c;have:0<=v.1/\v.1<5/\0<=v.2.2:=⟨h2.2.1,h2.c.1 (show(1:Int)<=5 by decide),h2.d⟩;.bind (J4 (B:=B) (S:=S) ⟨aG 6,h2.1.2⟩ om) λy3 K=>have:=J2.1 K.1.c;.eq (λV=>.bind (J4 (B:=B) (S:=S) ⟨aG 14,K.1.2⟩ om) λk j=>have:=J2.1 j.1.1;have:=J2.1 j.1.c;have:0<=k.1/\k.1<14/\0<=k.2.2:=⟨j.2.1,j.c.1 (show(1:Int)<=14 by decide),j.d⟩;.bind (xR (t:=(.i .u8)) (B:=0) (S:=0) (cS .u8 0)) λQ G=>Jq (τ:=zy) (λq=>(k.1,q.1,q.2.1,q.2.2)) (λq=>aB 0 0 zI q.1/\aB B S J3 q.2.1/\aB 13 0 (.l (.i .u8)) q.2.2/\(0<=q.1)/\(q.1<=k.1)/\(0<=q.2.1.2)/\(J0 q.2.2<=q.1)) (λq=>k.1-q.1) (by rintro⟨w,a2,g⟩ I;dsimp only at I;obtain⟨N,A,r,ac,a6,a9,a4⟩:=I;unfold zc;(try dsimp only);exact have:=J2.1 N;have:=J2.1 A.2;have:J0 g<=13:=r.1;have:=Jh (l:=g);.lt (λU=>.bind (J4 (B:=B) (S:=S) ⟨aG 3,A⟩ om) λy7 H=>have:=J2.1 H.1.c;.bind (bT (B:=14) (Bl:=13) (Bm:=1) (S:=0) (J0 g) 1 r (cF (B:=1) (S:=0) (t:=(.i .u8)) oo sX)) λJ R=>have Y:aB 13 0 (.l (.i .u8)) J:=⟨(by omega:J0 J<=13),λx L=>R.1.2 x L⟩;have:=Jm w 1;.some ⟨(J1 .i64 w 1,y7.2,J),rfl,⟨Je,H.1.2,Y,om,om,om,om⟩,om,om⟩) λU=>have:J0 (toStr g)<=13:=(zF▸r.1);have:=Jh (l:=toStr g);.some ⟨⟨(LJ (B:=0) (S:=13) r.1).u,A⟩,om⟩) (0,k.2,Q) rfl (have:J0 Q<=0:=G.1.1;⟨aC,j.1.2,G.1.u,om,om,om,om⟩)) λV=>.bind (xR (t:=(.i .u8)) (B:=0) (S:=0) (cS .u8 0)) λW E=>Jq (τ:=zy) (λq=>(v.1,q.1,q.2.1,q.2.2)) (λq=>aB 0 0 zI q.1/\aB B S J3 q.2.1/\aB 13 0 (.l (.i .u8)) q.2.2/\(0<=q.1)/\(q.1<=v.1)/\(0<=q.2.1.2)/\(J0 q.2.2<=q.1)) (λq=>v.1-q.1) (by rintro⟨o,a0,e⟩ D;dsimp only at D;obtain⟨M,C,n,a7,ab,a5,aa⟩:=D;unfold yz;(try dsimp only);exact have:=J2.1 M;have:=J2.1 C.2;have:J0 e<=13:=n.1;have:=Jh (l:=e);.lt (λT=>.bind (J4 (B:=B) (S:=S) ⟨aG 3,C⟩ om) λZ F=>have:=J2.1 F.1.c;.bind (bT (B:=14) (Bl:=13) (Bm:=1) (S:=0) (J0 e) 1 n (cF (B:=1) (S:=0) (t:=(.i .u8)) oo sX)) λz P=>have O:aB 13 0 (.l (.i .u8)) z:=⟨(by omega:J0 z<=13),λx L=>P.1.2 x L⟩;have:=Jm o 1;.some ⟨(J1 .i64 o 1,Z.2,z),rfl,⟨Je,F.1.2,O,om,om,om,om⟩,om,om⟩) λT=>have:J0 (toStr e)<=13:=(zF▸n.1);have:J0 (toStr e)=J0 e:=zF;.some ⟨⟨(LJ (B:=0) (S:=13) n.1).u,C⟩,om⟩) (0,y3.2,W) rfl (have:J0 W<=0:=E.1.1;⟨aC,K.1.2,E.1.u,om,om,om,om⟩)
theorem ND{B S:Int}{X:Jk}(h:aB B S J3 X)(p0:0<=X.2)(q:BG B S:=by omega):Tot (xF X) λy=>aB B S (.pr Jr J3) y/\(0<=y.2.2):=by unfold xF;exact .bind (J4 (B:=B) (S:=S) ⟨aG 3,h⟩ om) λr h2=>have:=J2.1 h2.1.c;.eq (λn=>.some ⟨⟨⟨trivial,J9⟩,h2.1.2⟩,om⟩) λn=>.bind (sB h2.1.2 om) λg e=>have:=J2.1 e.1.c;have:=Jh (l:=g.1);have:=YF (J0 g.1) 12;.bind (vS e.1.1.z) λo j=>have k:aB 0 S .s o:=j.1;.some ⟨⟨⟨trivial,k.u⟩,e.1.2⟩,om⟩
theorem zg{B S:Int}{X:Jk}(h:aB B S J3 X)(p0:0<=X.2)(o:BG B S:=by omega):Tot (NE X) λy=>aB B S ju y/\(0<=y.2.2):=by unfold NE;exact .bind (J4 (B:=B) (S:=S) ⟨aG 4,h⟩ om) λr h2=>have:=J2.1 h2.1.c;.bind (J4 (B:=B) (S:=S) ⟨aG 3,h2.1.2⟩ om) λq j=>have:=J2.1 j.1.c;.bind (ND j.1.2 om) λk g=>have:0<=k.2.2:=g.2;.bind (ND g.1.2 om) λn e=>have:0<=n.2.2:=e.2;.some ⟨⟨⟨h2.1.1,j.1.1,g.1.1.z.u,e.1.1.z.u⟩,e.1.2⟩,om⟩
theorem X3{B S:Int}{X:Jk}(h:aB B S J3 X)(p0:0<=X.2)(ad:BG B S:=by omega):Tot (WJ X) λy=>aB B S ka y/\(0<=y.2.2):=by unfold WJ;exact .bind (J4 (B:=B) (S:=S) ⟨aG 90,h⟩ om) λy2 h2=>have:=J2.1 h2.1.c;.bind (J4 (B:=B) (S:=S) ⟨aG 8,h2.1.2⟩ om) λw e=>have:=J2.1 e.1.1;have:=J2.1 e.1.c;have:0<=w.1/\w.1<8/\0<=w.2.2:=⟨e.2.1,e.c.1 (show(1:Int)<=8 by decide),e.d⟩;have:=Jm 1 w.1;.eq (λQ=>.bind (J4 (B:=B) (S:=S) ⟨aG 5,e.1.2⟩ om) λy4 C=>have:=J2.1 C.1.c;.bind (J4 (B:=B) (S:=S) ⟨aG 9,C.1.2⟩ om) λy5 D=>have:=J2.1 D.1.c;.bind (J4 (B:=B) (S:=S) ⟨aG 10,D.1.2⟩ om) λy6 k=>have:=J2.1 k.1.c;.bind (zg k.1.2 om) λZ g=>have:0<=Z.2.2:=g.2;.eq (λW=>.bind (J4 (B:=B) (S:=S) ⟨Je,g.1.2⟩ om) λy8 P=>.some ⟨⟨⟨Je,Je,Je,Je,k.1.1,Je,g.1.1.z.u,J9⟩,P.1.2⟩,om⟩) λW=>.some ⟨⟨⟨Je,Je,Je,Je,k.1.1,aC,g.1.1.z.u,J9⟩,g.1.2⟩,om⟩) λQ=>.eq (λR=>.bind (J4 (B:=B) (S:=S) ⟨aG 5,e.1.2⟩ om) λy9 G=>have:=J2.1 G.1.c;.bind (J4 (B:=B) (S:=S) ⟨aG 9,G.1.2⟩ om) λa0 K=>have:=J2.1 K.1.c;.bind (J4 (B:=B) (S:=S) ⟨aG 10,K.1.2⟩ om) λac n=>have:=J2.1 n.1.c;.bind (zg n.1.2 om) λU j=>have:0<=U.2.2:=j.2;.eq (λL=>.bind (J4 (B:=B) (S:=S) ⟨Je,j.1.2⟩ om) λa1 H=>have:=J2.1 H.1.c;.some ⟨⟨⟨Je,Je,Je,Je,n.1.1,Je,j.1.1.z.u,J9⟩,H.1.2⟩,om⟩) λL=>.some ⟨⟨⟨Je,Je,Je,Je,n.1.1,aC,j.1.1.z.u,J9⟩,j.1.2⟩,om⟩) λR=>.eq (λY=>.bind (J4 (B:=B) (S:=S) ⟨aG 5,e.1.2⟩ om) λa9 E=>have:=J2.1 E.1.c;.bind (J4 (B:=B) (S:=S) ⟨aG 9,E.1.2⟩ om) λa3 x=>have:=J2.1 x.1.c;.some ⟨⟨⟨Je,Je,Je,Je,aC,aC,⟨aC,aC,⟨trivial,J9⟩,trivial,J9⟩,J9⟩,x.1.2⟩,om⟩) λY=>.eq (λT=>.bind (J4 (B:=B) (S:=S) ⟨aG 5,e.1.2⟩ om) λaa J=>have:=J2.1 J.1.c;.bind (J4 (B:=B) (S:=S) ⟨aG 9,J.1.2⟩ om) λa5 I=>have:=J2.1 I.1.c;.some ⟨⟨⟨Je,Je,Je,Je,aC,aC,⟨aC,aC,⟨trivial,J9⟩,trivial,J9⟩,J9⟩,I.1.2⟩,om⟩) λT=>.eq (λV=>.bind (J4 (B:=B) (S:=S) ⟨aG 5,e.1.2⟩ om) λa6 A=>have:=J2.1 A.1.c;.bind (J4 (B:=B) (S:=S) ⟨aG 9,A.1.2⟩ om) λa8 F=>have:=J2.1 F.1.c;.some ⟨⟨⟨Je,Je,Je,Je,aC,aC,⟨aC,aC,⟨trivial,J9⟩,trivial,J9⟩,J9⟩,F.1.2⟩,om⟩) λV=>.eq (λN=>.bind (sB e.1.2 om) λa7 r=>have:=J2.1 r.1.c;.some ⟨⟨⟨Je,Je,aC,aC,aC,aC,⟨aC,aC,⟨trivial,J9⟩,trivial,J9⟩,r.1.1.z.u⟩,r.1.2⟩,om⟩) λN=>.eq (λO=>.bind (sB e.1.2 om) λa2 q=>have:=J2.1 q.1.c;.some ⟨⟨⟨Je,Je,aC,aC,aC,aC,⟨aC,aC,⟨trivial,J9⟩,trivial,J9⟩,q.1.1.z.u⟩,q.1.2⟩,om⟩) λO=>.eq (λM=>.bind (J4 (B:=B) (S:=S) ⟨aG 4,e.1.2⟩ om) λab o=>have:=J2.1 o.1.c;.bind (J4 (B:=B) (S:=S) ⟨aG 10,o.1.2⟩ om) λa4 v=>have:=J2.1 v.1.c;.some ⟨⟨⟨Je,Je,aC,aC,aC,v.1.1,⟨o.1.1,aC,⟨trivial,J9⟩,trivial,J9⟩,J9⟩,v.1.2⟩,om⟩) λM=>.some ⟨⟨⟨Je,Je,aC,aC,aC,aC,⟨aC,aC,⟨trivial,J9⟩,trivial,J9⟩,J9⟩,e.1.2⟩,om⟩
theorem JU{B S:Int}{X:Jk}(h:aB B S J3 X)(p0:0<=X.2)(v:BG B S:=by omega):Tot (JM X) λy=>aB B S xH y/\(0<=y.2.2):=by unfold JM;exact .bind (J4 (B:=B) (S:=S) ⟨aG 10,h⟩ om) λA h2=>have:=J2.1 h2.1.c;.eq (λr=>.bind (J4 (B:=B) (S:=S) ⟨aG 3,h2.1.2⟩ om) λw n=>have:=J2.1 n.1.c;.some ⟨⟨dX,n.1.2⟩,om⟩) λr=>.eq (λk=>.bind (J4 (B:=B) (S:=S) ⟨aG 16,h2.1.2⟩ om) λj e=>have:=J2.1 e.1.1;have:=J2.1 e.1.c;have:0<=j.1/\j.1<16/\0<=j.2.2:=⟨e.2.1,e.c.1 (show(1:Int)<=16 by decide),e.d⟩;.bind (Jl (eC (B:=16) (S:=0) (t:=zI) (by have q:((16:Nat):Int)<=16:=oo;exact q) (aG 9223372036854775807) (eC (B:=16) (S:=0) (t:=zI) (by have q:((15:Nat):Int)<=16:=oo;exact q) (aG (-9223372036854775808)) (eC (B:=16) (S:=0) (t:=zI) (by have q:((14:Nat):Int)<=16:=oo;exact q) (aG 1099511627776) (eC (B:=16) (S:=0) (t:=zI) (by have q:((13:Nat):Int)<=16:=oo;exact q) (aG 1099511627777) (eC (B:=16) (S:=0) (t:=zI) (by have q:((12:Nat):Int)<=16:=oo;exact q) (aG 1073741824) (eC (B:=16) (S:=0) (t:=zI) (by have q:((11:Nat):Int)<=16:=oo;exact q) (aG 1073741825) (eC (B:=16) (S:=0) (t:=zI) (by have q:((10:Nat):Int)<=16:=oo;exact q) (aG 64) (eC (B:=16) (S:=0) (t:=zI) (by have q:((9:Nat):Int)<=16:=oo;exact q) (aG 63) (eC (B:=16) (S:=0) (t:=zI) (by have q:((8:Nat):Int)<=16:=oo;exact q) (aG 16) (eC (B:=16) (S:=0) (t:=zI) (by have q:((7:Nat):Int)<=16:=oo;exact q) (aG 15) (eC (B:=16) (S:=0) (t:=zI) (by have q:((6:Nat):Int)<=16:=oo;exact q) (aG 256) (eC (B:=16) (S:=0) (t:=zI) (by have q:((5:Nat):Int)<=16:=oo;exact q) (aG 255) (eC (B:=16) (S:=0) (t:=zI) (by have q:((4:Nat):Int)<=16:=oo;exact q) (aG 4294967296) (eC (B:=16) (S:=0) (t:=zI) (by have q:((3:Nat):Int)<=16:=oo;exact q) (aG 65536) (eC (B:=16) (S:=0) (t:=zI) (by have q:((2:Nat):Int)<=16:=oo;exact q) (aG 256) (eC (B:=16) (S:=0) (t:=zI) (by have q:((1:Nat):Int)<=16:=oo;exact q) (aG 255) Jc)))))))))))))))) oo (show _<((16:Nat):Int) by omega)) λx o=>.some ⟨⟨o.1,e.1.2⟩,om⟩) λk=>.bind (J4 (B:=B) (S:=S) ⟨aG 20,h2.1.2⟩ om) λz g=>have:=J2.1 g.1.c;.some ⟨(g.1),om⟩
theorem y1{B S:Int}{X:iO}(h:aB B S xH X)(p0:0<=X.2.2)(be:BG B S:=by omega):Tot (NF X) λy=>aB B S (.pr eW J3) y/\(0<=y.2.2):=by unfold NF;exact .bind (J4 (B:=B) (S:=S) ⟨aG 12,h.2⟩ om) λy2 h2=>have:=J2.1 h2.1.1;have:=J2.1 h2.1.c;have:0<=y2.1/\y2.1<12/\0<=y2.2.2:=⟨h2.2.1,h2.c.1 (show(1:Int)<=12 by decide),h2.d⟩;.bind (Jl (eC (B:=12) (S:=0) (t:=zI) (by have q:((12:Nat):Int)<=12:=oo;exact q) (aG 1) (eC (B:=12) (S:=0) (t:=zI) (by have q:((11:Nat):Int)<=12:=oo;exact q) (aG 1) (eC (B:=12) (S:=0) (t:=zI) (by have q:((10:Nat):Int)<=12:=oo;exact q) (aG 2) (eC (B:=12) (S:=0) (t:=zI) (by have q:((9:Nat):Int)<=12:=oo;exact q) (aG 2) (eC (B:=12) (S:=0) (t:=zI) (by have q:((8:Nat):Int)<=12:=oo;exact q) (aG 2) (eC (B:=12) (S:=0) (t:=zI) (by have q:((7:Nat):Int)<=12:=oo;exact q) (aG 3) (eC (B:=12) (S:=0) (t:=zI) (by have q:((6:Nat):Int)<=12:=oo;exact q) (aG 4) (eC (B:=12) (S:=0) (t:=zI) (by have q:((5:Nat):Int)<=12:=oo;exact q) (aG 5) (eC (B:=12) (S:=0) (t:=zI) (by have q:((4:Nat):Int)<=12:=oo;exact q) (aG 6) (eC (B:=12) (S:=0) (t:=zI) (by have q:((3:Nat):Int)<=12:=oo;exact q) (aG 7) (eC (B:=12) (S:=0) (t:=zI) (by have q:((2:Nat):Int)<=12:=oo;exact q) (aG 2) (eC (B:=12) (S:=0) (t:=zI) (by have q:((1:Nat):Int)<=12:=oo;exact q) (aG 4) Jc)))))))))))) oo (show _<((12:Nat):Int) by omega)) λy3 e=>.eq (λc7=>.bind (J4 (B:=B) (S:=S) ⟨h.1,h2.1.2⟩ om) λy4 h9=>have:=J2.1 h9.1.c;.bind (J4 (B:=B) (S:=S) ⟨aG 2,h9.1.2⟩ om) λy5 j=>have:=J2.1 j.1.c;.eq (λal=>.bind (sB j.1.2 om) λy6 a4=>.bind (vS a4.1.1.z) λy7 ao=>have a3:aB 0 S .s y7:=ao.1;.bind (J4 (B:=B) (S:=S) ⟨aG 40,a4.1.2⟩ om) λy8 a5=>.eq (λb1=>.bind (JU a5.1.2 om) λy9 V=>have:0<=y9.2.2:=V.2;.bind (JU V.1.2 om) λaf K=>have:0<=af.2.2:=K.2;.some ⟨⟨⟨e.1,V.1.1,K.1.1,a3.u⟩,K.1.2⟩,om⟩) λb1=>.some ⟨⟨⟨e.1,h9.1.1,j.1.1,a3.u⟩,a5.1.2⟩,om⟩) λal=>.bind (J4 (B:=B) (S:=S) ⟨aG 40,j.1.2⟩ om) λbd R=>have:=J2.1 R.1.c;.eq (λai=>.bind (JU R.1.2 om) λah P=>have:0<=ah.2.2:=P.2;.bind (JU P.1.2 om) λb2 N=>have:0<=b2.2.2:=N.2;.some ⟨⟨⟨e.1,P.1.1,N.1.1,J9⟩,N.1.2⟩,om⟩) λai=>.some ⟨⟨⟨e.1,h9.1.1,j.1.1,J9⟩,R.1.2⟩,om⟩) λc7=>.eq (λb6=>.bind (J4 (B:=B) (S:=S) ⟨h.1,h2.1.2⟩ om) λbm I=>have:=J2.1 I.1.c;.bind (J4 (B:=B) (S:=S) ⟨aG 2,I.1.2⟩ om) λbp k=>have:=J2.1 k.1.c;.eq (λak=>.bind (sB k.1.2 om) λa6 Y=>have:=J2.1 Y.1.c;have:=Jh (l:=a6.1);have:=YF (J0 a6.1) 12;.bind (vS Y.1.1.z) λay au=>have a2:aB 0 S .s ay:=au.1;.bind (J4 (B:=B) (S:=S) ⟨aG 40,Y.1.2⟩ om) λbi W=>have:=J2.1 W.1.c;.eq (λax=>.bind (JU W.1.2 om) λaz U=>have:0<=az.2.2:=U.2;.bind (JU U.1.2 om) λb5 a0=>have:0<=b5.2.2:=a0.2;.some ⟨⟨⟨e.1,U.1.1,a0.1.1,a2.u⟩,a0.1.2⟩,om⟩) λax=>.some ⟨⟨⟨e.1,I.1.1,k.1.1,a2.u⟩,W.1.2⟩,om⟩) λak=>.bind (J4 (B:=B) (S:=S) ⟨aG 40,k.1.2⟩ om) λZ g=>have:=J2.1 g.1.1;have:=J2.1 g.1.c;have:0<=Z.1/\Z.1<40/\0<=Z.2.2:=⟨g.2.1,g.c.1 (show(1:Int)<=40 by decide),g.d⟩;.eq (λan=>.bind (JU g.1.2 om) λav T=>have:0<=av.2.2:=T.2;.bind (JU T.1.2 om) λb4 M=>have:0<=b4.2.2:=M.2;.some ⟨⟨⟨e.1,T.1.1,M.1.1,J9⟩,M.1.2⟩,om⟩) λan=>.some ⟨⟨⟨e.1,I.1.1,k.1.1,J9⟩,g.1.2⟩,om⟩) λb6=>.eq (λb7=>.bind (J4 (B:=B) (S:=S) ⟨h.1,h2.1.2⟩ om) λbh J=>have:=J2.1 J.1.c;.bind (J4 (B:=B) (S:=S) ⟨aG 2,J.1.2⟩ om) λbo n=>have:=J2.1 n.1.c;.eq (λad=>.bind (sB n.1.2 om) λbc Q=>.bind (vS Q.1.1.z) λaj a7=>have O:aB 0 S .s aj:=a7.1;.bind (J4 (B:=B) (S:=S) ⟨aG 40,Q.1.2⟩ om) λbq L=>.eq (λab=>.bind (JU L.1.2 om) λaw o=>have:0<=aw.2.2:=o.2;.bind (JU o.1.2 om) λaq D=>have:0<=aq.2.2:=D.2;.some ⟨⟨⟨e.1,o.1.1,D.1.1,O.u⟩,D.1.2⟩,om⟩) λab=>.some ⟨⟨⟨e.1,J.1.1,n.1.1,O.u⟩,L.1.2⟩,om⟩) λad=>.bind (J4 (B:=B) (S:=S) ⟨aG 40,n.1.2⟩ om) λbg A=>have:=J2.1 A.1.c;.eq (λa9=>.bind (JU A.1.2 om) λam C=>have:0<=am.2.2:=C.2;.bind (JU C.1.2 om) λb0 x=>have:0<=b0.2.2:=x.2;.some ⟨⟨⟨e.1,C.1.1,x.1.1,J9⟩,x.1.2⟩,om⟩) λa9=>.some ⟨⟨⟨e.1,J.1.1,n.1.1,J9⟩,A.1.2⟩,om⟩) λb7=>.eq (λaa=>.bind (J4 (B:=B) (S:=S) ⟨aG 2,h2.1.2⟩ om) λbn G=>have:=J2.1 G.1.c;.bind (J4 (B:=B) (S:=S) ⟨aG 40,G.1.2⟩ om) λbf r=>have:=J2.1 r.1.c;.eq (λa8=>.bind (JU r.1.2 om) λb3 E=>have:0<=b3.2.2:=E.2;.bind (JU E.1.2 om) λb8 H=>have:0<=b8.2.2:=H.2;.some ⟨⟨⟨e.1,E.1.1,H.1.1,J9⟩,H.1.2⟩,om⟩) λa8=>.some ⟨⟨⟨e.1,aC,G.1.1,J9⟩,r.1.2⟩,om⟩) λaa=>.bind (J4 (B:=B) (S:=S) ⟨aG 40,h2.1.2⟩ om) λbj v=>have:=J2.1 v.1.c;.eq (λac=>.bind (JU v.1.2 om) λag w=>have:0<=ag.2.2:=w.2;.bind (JU w.1.2 om) λap F=>have:0<=ap.2.2:=F.2;.some ⟨⟨⟨e.1,w.1.1,F.1.1,J9⟩,F.1.2⟩,om⟩) λac=>.some ⟨⟨⟨e.1,aP⟩,v.1.2⟩,om⟩
theorem Xj{B S:Int}{X:UH}(h:aB B S (.pr zI TM) X)(p0:0<=X.2.2.2.2)(K:BG B S:=by omega):Tot (WM X) λy=>aB B S (.pr fF J3) y/\(0<=y.2.2):=by unfold WM;exact .bind (J4 (B:=B) (S:=S) ⟨aG 16,h.d⟩ om) λR h2=>have:=J2.1 h2.1.c;.eq (λI=>.some ⟨⟨⟨aG 1,aP⟩,h2.1.2⟩,om⟩) λI=>.eq (λG=>.some ⟨⟨⟨aG 1,aP⟩,h2.1.2⟩,om⟩) λG=>.eq (λF=>.bind (J4 (B:=B) (S:=S) ⟨h.1,h2.1.2⟩ om) λM v=>have:=J2.1 v.1.c;.some ⟨⟨⟨aG 3,aC,v.1.1,aP⟩,v.1.2⟩,om⟩) λF=>.eq (λx=>.some ⟨⟨⟨aG 4,aP⟩,h2.1.2⟩,om⟩) λx=>.eq (λC=>.some ⟨⟨⟨aG 5,aP⟩,h2.1.2⟩,om⟩) λC=>.eq (λE=>.ite (λw=>.bind (J4 (B:=B) (S:=S) ⟨aG 4,h2.1.2⟩ om) λQ r=>have:=J2.1 r.1.c;.bind (J4 (B:=B) (S:=S) ⟨aG 90,r.1.2⟩ om) λO n=>have:=J2.1 n.1.c;.bind (J4 (B:=B) (S:=S) ⟨Je,n.1.2⟩ om) λP q=>have:=J2.1 q.1.c;.bind (J4 (B:=B) (S:=S) ⟨aG 257,q.1.2⟩ om) λL e=>have:=J2.1 e.1.c;.some ⟨⟨⟨aG 6,aC,dX,JHO,e.1.1,aP⟩,e.1.2⟩,om⟩) λw=>.bind (J4 (B:=B) (S:=S) ⟨h.2.1,h2.1.2⟩ om) λN k=>have:=J2.1 k.1.c;.bind (y1 (B:=B) (S:=S) ⟨h.1,k.1.2⟩ om) λH g=>have:0<=H.2.2:=g.2;.some ⟨⟨⟨aG 2,Je,aC,aC,aC,g.1.1.z.u⟩,g.1.2⟩,om⟩) λE=>.eq (λA=>.some ⟨⟨⟨aG 7,aP⟩,h2.1.2⟩,om⟩) λA=>.bind (J4 (B:=B) (S:=S) ⟨h.2.1,h2.1.2⟩ om) λJ o=>have:=J2.1 o.1.c;.bind (y1 (B:=B) (S:=S) ⟨h.1,o.1.2⟩ om) λD j=>have:0<=D.2.2:=j.2;.some ⟨⟨⟨aG 2,Je,aC,aC,aC,j.1.1.z.u⟩,j.1.2⟩,om⟩
theorem Y7{B S:Int}{X:UH}(h:aB B S (.pr zI TM) X)(p0:0<=X.2.2.2.2)(M:0<=X.2.1)(L:X.2.1<=1000)(K:BG B S:=by omega):Tot (WS X) λy=>aB B S (.pr (.l fF) J3) y/\(0<=y.2.2):=by unfold WS;exact .bind (J4 (B:=B) (S:=S) ⟨Je,h.d⟩ om) λe h3=>have:=J2.1 h3.1.1;have:=Jm X.2.1 1;have:=J2.1 h3.1.c;have:0<=e.1/\(1<=(J1 .i64 X.2.1 1)->e.1<(J1 .i64 X.2.1 1))/\0<=e.2.2:=h3.2;Jq (τ:=Int×Jk×(List pM)) (λq=>(X.1,X.2.2.1,q.1,q.2.1,q.2.2)) (λq=>aB 0 0 zI q.1/\aB B S J3 q.2.1/\aB 1003 S (.l fF) q.2.2/\(0<=q.1)/\(0<=q.2.1.2)/\(J0 q.2.2+q.1<=1003)) (λq=>q.1) (by rintro⟨j,F,n⟩ r;dsimp only at r;obtain⟨E,A,g,J,I,H⟩:=r;unfold En;(try dsimp only);exact have:=J2.1 E;have:J0 n=_/\_:=lF g;.gt (λC=>.bind (Xj (B:=B) (S:=S) ⟨h.1,aG 5,trivial,A⟩ om) λD k=>have:0<=D.2.2:=k.2;.bind (bT (B:=1004) (Bl:=1003) (Bm:=1) (S:=S) (J0 n) 1 g (cF (B:=1) (S:=S) (t:=fF) oo (k.1.1.z.u))) λo v=>have:J0 o=_:=JE v.1;have w:aB 1003 S (.l fF) o:=⟨(by omega:J0 o<=1003),λx G=>v.1.2 x G⟩;have:=bC j 1;.some ⟨(JJ .i64 j 1,D.2,o),rfl,⟨dX,k.1.2,w,om,om,om⟩,om,om⟩) λC=>.some ⟨⟨g.u,A⟩,om⟩) (e.1,e.2,[(1,0,0,0,0,0,0,0,[]),(1,0,0,0,0,0,0,0,[])]) rfl ⟨h3.1.1,h3.1.2,(eC (B:=2) (S:=0) (t:=fF) (by have q:((2:Nat):Int)<=2:=om;exact q) ⟨aG 1,aP⟩ (eC (B:=2) (S:=0) (t:=fF) (by have q:((1:Nat):Int)<=2:=om;exact q) ⟨aG 1,aP⟩ Jc)).u,om,om,by show((2:Nat):Int)+e.1<=1003;omega⟩
theorem Uv{B S X:Int}(h:aB B S zI X)(p0:X<=64)(v:BS B S 0 0:=by omega):Tot (VK X) λy=>aB 64 256 (.l .s) y:=by unfold VK;exact have:=J2.1 h;Jq (τ:=Int×(List (List UInt8))) (λq=>(X,q.1,q.2)) (λq=>(aB 0 0 zI q.1/\0<=q.1/\(q.1<=X\/q.1<=0))/\(aB 64 256 (.l .s) q.2/\J0 q.2<=1*q.1+0)) (λq=>X-q.1) (by rintro⟨g,e⟩ j;dsimp only at j;obtain⟨⟨i2,w,z⟩,i3,A⟩:=j;unfold x2;(try dsimp only);exact have:=J2.1 i2;.lt (λn=>.bind (xR (t:=(.i .u8)) (B:=256) (S:=0) (cS .u8 0)) λx r=>have:J0 e<=64:=i3.1;have:=Jh (l:=e);.bind (bT (B:=64) (Bl:=64) (Bm:=1) (S:=256) (J0 e) 1 i3 (cF (B:=1) (S:=256) (t:=.s) oo ((LJ (B:=0) (S:=256) r.1.1).u))) λo k=>have:=Jm g 1;.some ⟨(J1 .i64 g 1,o),rfl,⟨⟨Je,om,om⟩,k.1,om⟩,om,om⟩) λn=>.some i3) (0,[]) rfl (have:J0 ([]:List (List UInt8))=0:=rfl;⟨⟨aC,om,om⟩,Jc,om⟩)
theorem Fi{B S X:Int}(h:aB B S zI X)(j:BS B S 0 0:=by omega):Tot (FA X) λy=>aB 64 256 xM y:=by unfold FA;exact have:=J2.1 h;.ltf (λc1=>.gt (λg=>.some ⟨⟨Jc,aC,Jc,trivial,Jc⟩,aG 1⟩) λg=>.bind (Uv h om) λk e=>.some ⟨⟨e,aC,Jc,trivial,Jc⟩,aC⟩) λc1=>.some ⟨⟨Jc,aC,Jc,trivial,Jc⟩,aG 1⟩
theorem tr{B S X:Int}(h:aB B S zI X)(g:BS B S 0 0:=by omega):Tot (wL X) λy=>aB 0 0 sL y:=by unfold wL;exact .ltf (λc1=>.gt (λe=>.some ⟨aP,aG 1⟩) λe=>.some ⟨⟨h,aP⟩,aC⟩) λc1=>.some ⟨aP,aG 1⟩
theorem tz{B S X:Int}(h:aB B S zI X)(j:BS B S 0 0:=by omega):Tot (zO X) λy=>aB 64 0 UF y:=by unfold zO;exact have:=J2.1 h;.ltf (λc1=>.gt (λg=>.some ⟨Jc,aG 1⟩) λg=>.bind (xR (t:=Jf) (B:=64) (S:=0) (aP)) λk e=>.some ⟨e.1,aC⟩) λc1=>.some ⟨Jc,aG 1⟩
theorem Gi{B S:Int}{X:JP}(h:aB B S cY X)(o:BS B S 0 0:=by omega):Tot (wM X) λy=>aB 64 0 fH y:=by unfold wM;exact .ltf (λc1=>.gtf (λn=>have:=J2.1 h.2;.ltf (λk=>.gt (λj=>.some ⟨aP,aG 1⟩) λj=>.bind (tr h.2) λr g=>.bind (tz h.1) λq e=>.some ⟨⟨h.1,aG 1,⟨aG 1,aP⟩,g.1.u,aP,Jc,e.1,Jc⟩,aC⟩) λk=>.some ⟨aP,aG 1⟩) λn=>.some ⟨aP,aG 1⟩) λc1=>.some ⟨aP,aG 1⟩
theorem Gk{B S:Int}{X:JP}(h:aB B S cY X)(k:BS B S 0 0:=by omega):Tot (tQ X) λy=>aB 64 256 mU y:=by unfold tQ;exact .bind (Gi (B:=0) (S:=0) (h)) λo h1=>.ne (λg=>.some ⟨⟨aP,Jc,aC,Jc,trivial,Jc⟩,h1.2⟩) λg=>.bind (Fi h.1) λn e=>.ne (λj=>.some ⟨⟨aP,Jc,aC,Jc,trivial,Jc⟩,e.2⟩) λj=>.some ⟨⟨h1.1.u,e.1⟩,aC⟩
theorem ig{B S:Int}{X:JP}(h:aB B S cY X)(e:BS B S 0 0:=by omega):Tot (lL X) λy=>aB 0 0 .b y/\(y=true->0<=X.1/\X.1<X.2):=by unfold lL;exact have:=J2.1 h.1;.ge (λc1=>have:=J2.1 h.2;.some ⟨trivial,λc=>omc (hE.1 c)⟩) λc1=>.some ⟨trivial,nofun⟩
theorem ni{B S:Int}{X:dG}(h:aB B S Jr X)(g:BS B S 0 0:=by omega):Tot (iY X) λy=>aB 0 0 .b y/\(y=true->J0 X.2<=12):=by unfold iY;exact .le (λc1=>.itf (λe=>.some ⟨trivial,λ_=>om⟩) λe=>.some ⟨trivial,λ_=>om⟩) λc1=>.some ⟨trivial,nofun⟩
theorem im{B S:Int}{X:aN}(h:aB B S dQ X)(q:BS B S 0 0:=by omega):Tot (mK X) λy=>aB 0 0 .b y/\(y=true->0<=X.1/\X.1<64/\0<=X.2.1/\X.2.1<16/\J0 X.2.2.1.2<=12/\J0 X.2.2.2.2<=12):=by unfold mK;exact have s0:aB 0 S dQ X:=h;have:=J2.1 s0.1;.ge (λc1=>.lt (λo=>have:=J2.1 s0.2.1;.ge (λn=>.lt (λk=>.bind (ni (B:=0) (S:=S) s0.2.2.1) λv j=>.ite (λg=>have:=sF (z:=X.2.2.1.2) s0.2.2.1.2;have:J0 X.2.2.1.2<=12:=j.2 g;.bind (ni (B:=0) (S:=S) s0.2.2.2) λr e=>have:=Jh (l:=X.2.2.2.2);.some ⟨trivial,λc=>by have:J0 X.2.2.2.2<=12:=e.2 c;first|omega|(dsimp only;omega)|(simp only[QB,zC]<;>omega)⟩) λg=>.some ⟨trivial,nofun⟩) λk=>.some ⟨trivial,nofun⟩) λn=>.some ⟨trivial,nofun⟩) λo=>.some ⟨trivial,nofun⟩) λc1=>.some ⟨trivial,nofun⟩
theorem P5{B S:Int}{X:J5}(h:aB B S J8 X)(W:BS B S 0 0:=by omega):Tot (pO X) λy=>aB 0 S TS y/\(y.2=true->0<=y.1.2.2.1/\y.1.2.2.1<=1073741824/\0<=y.1.2.2.2.2.2.2.1.1/\y.1.2.2.2.2.2.2.1.1<64/\0<=y.1.2.2.2.2.2.2.1.2.1/\y.1.2.2.2.2.2.2.1.2.1<16/\J0 y.1.2.2.2.2.2.2.1.2.2.1.2<=12/\J0 y.1.2.2.2.2.2.2.1.2.2.2.2<=12/\J0 y.1.2.2.2.2.2.2.2<=8192):=by unfold pO;exact have s0:aB 0 S J8 X:=h;.eq (λc1=>.bind (im (B:=0) (S:=S) s0.2.2.2.2.2.2.1) λZ h3=>.eq (λV=>.ite (λU=>have:=J2.1 s0.2.2.2.2.2.2.1.1;.gt (λF=>have:=J2.1 s0.2.2.2.2.2.1;.ge (λx=>.le (λj=>have:=J2.1 s0.2.2.1;.ge (λo=>.some ⟨⟨⟨s0.1,s0.2.1,s0.2.2.1,s0.2.2.2.1,s0.2.2.2.2.1,s0.2.2.2.2.2.1,s0.2.2.2.2.2.2.1,J9⟩,trivial⟩,λc=>omc (jQ.1 c)⟩) λo=>.some ⟨⟨⟨s0.1,s0.2.1,s0.2.2.1,s0.2.2.2.1,s0.2.2.2.2.1,s0.2.2.2.2.2.1,s0.2.2.2.2.2.2.1,J9⟩,trivial⟩,nofun⟩) λj=>.some ⟨⟨⟨s0.1,s0.2.1,s0.2.2.1,s0.2.2.2.1,s0.2.2.2.2.1,s0.2.2.2.2.2.1,s0.2.2.2.2.2.2.1,J9⟩,trivial⟩,nofun⟩) λx=>.some ⟨⟨⟨s0.1,s0.2.1,s0.2.2.1,s0.2.2.2.1,s0.2.2.2.2.1,s0.2.2.2.2.2.1,s0.2.2.2.2.2.2.1,J9⟩,trivial⟩,nofun⟩) λF=>.some ⟨⟨⟨s0.1,s0.2.1,s0.2.2.1,s0.2.2.2.1,s0.2.2.2.2.1,s0.2.2.2.2.2.1,s0.2.2.2.2.2.2.1,J9⟩,trivial⟩,nofun⟩) λU=>.some ⟨⟨⟨s0.1,s0.2.1,s0.2.2.1,s0.2.2.2.1,s0.2.2.2.2.1,s0.2.2.2.2.2.1,s0.2.2.2.2.2.2.1,J9⟩,trivial⟩,nofun⟩) λV=>.ite (λe=>have:=J2.1 s0.2.2.2.2.2.2.1.1;have:=J2.1 s0.2.2.2.2.2.2.1.2.1;have:=Jh (l:=X.2.2.2.2.2.2.1.2.2.1.2);have:=Jh (l:=X.2.2.2.2.2.2.1.2.2.2.2);have:0<=X.2.2.2.2.2.2.1.1/\X.2.2.2.2.2.2.1.1<64/\0<=X.2.2.2.2.2.2.1.2.1/\X.2.2.2.2.2.2.1.2.1<16/\J0 X.2.2.2.2.2.2.1.2.2.1.2<=12/\J0 X.2.2.2.2.2.2.1.2.2.2.2<=12:=h3.2 e;have:=J2.1 s0.2.2.1;.ge (λC=>.some ⟨⟨⟨s0.1,s0.2.1,s0.2.2.1,s0.2.2.2.1,s0.2.2.2.2.1,aC,s0.2.2.2.2.2.2.1,J9⟩,trivial⟩,λc=>omc (jQ.1 c)⟩) λC=>.some ⟨⟨⟨s0.1,s0.2.1,s0.2.2.1,s0.2.2.2.1,s0.2.2.2.2.1,aC,s0.2.2.2.2.2.2.1,J9⟩,trivial⟩,nofun⟩) λe=>.some ⟨⟨⟨s0.1,s0.2.1,s0.2.2.1,s0.2.2.2.1,s0.2.2.2.2.1,aC,s0.2.2.2.2.2.2.1,J9⟩,trivial⟩,nofun⟩) λc1=>.eq (λr=>.bind (im (B:=0) (S:=S) s0.2.2.2.2.2.2.1) λY L=>.eq (λn=>.ite (λg=>have:=J2.1 s0.2.2.2.2.2.2.1.1;have:=J2.1 s0.2.2.2.2.2.2.1.2.1;have:=Jh (l:=X.2.2.2.2.2.2.1.2.2.1.2);have:=Jh (l:=X.2.2.2.2.2.2.1.2.2.2.2);have:0<=X.2.2.2.2.2.2.1.1/\X.2.2.2.2.2.2.1.1<64/\0<=X.2.2.2.2.2.2.1.2.1/\X.2.2.2.2.2.2.1.2.1<16/\J0 X.2.2.2.2.2.2.1.2.2.1.2<=12/\J0 X.2.2.2.2.2.2.1.2.2.2.2<=12:=L.2 g;.gt (λE=>have:=J2.1 s0.2.2.2.2.2.1;.ge (λN=>.le (λM=>have:=J2.1 s0.2.2.1;.ge (λk=>.some ⟨⟨⟨s0.1,s0.2.1,s0.2.2.1,s0.2.2.2.1,s0.2.2.2.2.1,s0.2.2.2.2.2.1,s0.2.2.2.2.2.2.1,J9⟩,trivial⟩,λc=>omc (jQ.1 c)⟩) λk=>.some ⟨⟨⟨s0.1,s0.2.1,s0.2.2.1,s0.2.2.2.1,s0.2.2.2.2.1,s0.2.2.2.2.2.1,s0.2.2.2.2.2.2.1,J9⟩,trivial⟩,nofun⟩) λM=>.some ⟨⟨⟨s0.1,s0.2.1,s0.2.2.1,s0.2.2.2.1,s0.2.2.2.2.1,s0.2.2.2.2.2.1,s0.2.2.2.2.2.2.1,J9⟩,trivial⟩,nofun⟩) λN=>.some ⟨⟨⟨s0.1,s0.2.1,s0.2.2.1,s0.2.2.2.1,s0.2.2.2.2.1,s0.2.2.2.2.2.1,s0.2.2.2.2.2.2.1,J9⟩,trivial⟩,nofun⟩) λE=>.some ⟨⟨⟨s0.1,s0.2.1,s0.2.2.1,s0.2.2.2.1,s0.2.2.2.2.1,s0.2.2.2.2.2.1,s0.2.2.2.2.2.2.1,J9⟩,trivial⟩,nofun⟩) λg=>.some ⟨⟨⟨s0.1,s0.2.1,s0.2.2.1,s0.2.2.2.1,s0.2.2.2.2.1,s0.2.2.2.2.2.1,s0.2.2.2.2.2.2.1,J9⟩,trivial⟩,nofun⟩) λn=>.ite (λK=>have:=J2.1 s0.2.2.2.2.2.2.1.1;.ge (λH=>.some ⟨⟨⟨s0.1,s0.2.1,s0.2.2.1,s0.2.2.2.1,s0.2.2.2.2.1,aC,s0.2.2.2.2.2.2.1,J9⟩,trivial⟩,λc=>omc (jQ.1 c)⟩) λH=>.some ⟨⟨⟨s0.1,s0.2.1,s0.2.2.1,s0.2.2.2.1,s0.2.2.2.2.1,aC,s0.2.2.2.2.2.2.1,J9⟩,trivial⟩,nofun⟩) λK=>.some ⟨⟨⟨s0.1,s0.2.1,s0.2.2.1,s0.2.2.2.1,s0.2.2.2.2.1,aC,s0.2.2.2.2.2.2.1,J9⟩,trivial⟩,nofun⟩) λr=>.eq (λA=>have:=J2.1 s0.2.2.1;.ge (λJ=>.le (λw=>have:=J2.1 s0.2.2.2.1;.some ⟨⟨⟨s0.1,s0.2.1,s0.2.2.1,s0.2.2.2.1,aC,aC,⟨aC,aC,⟨trivial,J9⟩,trivial,J9⟩,J9⟩,trivial⟩,λc=>omc (jS.1 c)⟩) λw=>.some ⟨⟨⟨s0.1,s0.2.1,s0.2.2.1,s0.2.2.2.1,aC,aC,⟨aC,aC,⟨trivial,J9⟩,trivial,J9⟩,J9⟩,trivial⟩,nofun⟩) λJ=>.some ⟨⟨⟨s0.1,s0.2.1,s0.2.2.1,s0.2.2.2.1,aC,aC,⟨aC,aC,⟨trivial,J9⟩,trivial,J9⟩,J9⟩,trivial⟩,nofun⟩) λA=>.eq (λO=>have:=J2.1 s0.2.2.1;.ge (λG=>.le (λI=>have:=J2.1 s0.2.2.2.1;.some ⟨⟨⟨s0.1,s0.2.1,s0.2.2.1,s0.2.2.2.1,aC,aC,⟨aC,aC,⟨trivial,J9⟩,trivial,J9⟩,J9⟩,trivial⟩,λc=>omc (jS.1 c)⟩) λI=>.some ⟨⟨⟨s0.1,s0.2.1,s0.2.2.1,s0.2.2.2.1,aC,aC,⟨aC,aC,⟨trivial,J9⟩,trivial,J9⟩,J9⟩,trivial⟩,nofun⟩) λG=>.some ⟨⟨⟨s0.1,s0.2.1,s0.2.2.1,s0.2.2.2.1,aC,aC,⟨aC,aC,⟨trivial,J9⟩,trivial,J9⟩,J9⟩,trivial⟩,nofun⟩) λO=>.eq (λq=>have:=J2.1 s0.2.2.1;.ge (λR=>.le (λv=>have:=J2.1 s0.2.2.2.1;.some ⟨⟨⟨s0.1,s0.2.1,s0.2.2.1,s0.2.2.2.1,aC,aC,⟨aC,aC,⟨trivial,J9⟩,trivial,J9⟩,J9⟩,trivial⟩,λc=>omc (jS.1 c)⟩) λv=>.some ⟨⟨⟨s0.1,s0.2.1,s0.2.2.1,s0.2.2.2.1,aC,aC,⟨aC,aC,⟨trivial,J9⟩,trivial,J9⟩,J9⟩,trivial⟩,nofun⟩) λR=>.some ⟨⟨⟨s0.1,s0.2.1,s0.2.2.1,s0.2.2.2.1,aC,aC,⟨aC,aC,⟨trivial,J9⟩,trivial,J9⟩,J9⟩,trivial⟩,nofun⟩) λq=>.eq (λT=>have:=sF (z:=X.2.2.2.2.2.2.2) s0.2.2.2.2.2.2.2;.some ⟨⟨⟨s0.1,s0.2.1,aC,aC,aC,aC,⟨aC,aC,⟨trivial,J9⟩,trivial,J9⟩,s0.2.2.2.2.2.2.2⟩,trivial⟩,λc=>omc (jQ.1 c)⟩) λT=>.eq (λQ=>have:=sF (z:=X.2.2.2.2.2.2.2) s0.2.2.2.2.2.2.2;.some ⟨⟨⟨s0.1,s0.2.1,aC,aC,aC,aC,⟨aC,aC,⟨trivial,J9⟩,trivial,J9⟩,s0.2.2.2.2.2.2.2⟩,trivial⟩,λc=>omc (jQ.1 c)⟩) λQ=>.eq (λP=>have:=J2.1 s0.2.2.2.2.2.2.1.1;.ge (λD=>.some ⟨⟨⟨s0.1,s0.2.1,aC,aC,aC,s0.2.2.2.2.2.1,⟨s0.2.2.2.2.2.2.1.1,aC,⟨trivial,J9⟩,trivial,J9⟩,J9⟩,trivial⟩,λc=>omc (hE.1 c)⟩) λD=>.some ⟨⟨⟨s0.1,s0.2.1,aC,aC,aC,s0.2.2.2.2.2.1,⟨s0.2.2.2.2.2.2.1.1,aC,⟨trivial,J9⟩,trivial,J9⟩,J9⟩,trivial⟩,nofun⟩) λP=>.some ⟨⟨⟨s0.1,s0.2.1,aC,aC,aC,aC,⟨aC,aC,⟨trivial,J9⟩,trivial,J9⟩,J9⟩,trivial⟩,nofun⟩
theorem xD{B S:Int}{X:J5}(h:aB B S J8 X)(C:BS B S 0 0:=by omega):Tot (Js X) λy=>aB 0 0 .b y/\(y=true->1<=X.1/\X.1<=1099511627776/\0<=X.2.2.1/\X.2.2.1<=1073741824/\0<=X.2.2.2.1/\X.2.2.2.1<X.1/\0<=X.2.2.2.2.1/\X.2.2.2.2.1<X.1/\0<=X.2.2.2.2.2.1/\X.2.2.2.2.2.1<X.1/\0<=X.2.2.2.2.2.2.1.1/\X.2.2.2.2.2.2.1.1<64/\0<=X.2.2.2.2.2.2.1.2.1/\X.2.2.2.2.2.2.1.2.1<16/\J0 X.2.2.2.2.2.2.1.2.2.1.2<=12/\J0 X.2.2.2.2.2.2.1.2.2.2.2<=12/\J0 X.2.2.2.2.2.2.2<=8192):=by unfold Js;exact have s0:aB 0 S J8 X:=h;.bind (P5 (B:=0) (S:=S) s0) λe h1=>.ite (λx=>have:=J2.1 h1.1.1.c.1;have n:0<=e.1.2.2.1/\e.1.2.2.1<=1073741824/\0<=e.1.2.2.2.2.2.2.1.1/\e.1.2.2.2.2.2.2.1.1<64/\0<=e.1.2.2.2.2.2.2.1.2.1/\e.1.2.2.2.2.2.2.1.2.1<16/\J0 e.1.2.2.2.2.2.2.1.2.2.1.2<=12/\J0 e.1.2.2.2.2.2.2.1.2.2.2.2<=12/\J0 e.1.2.2.2.2.2.2.2<=8192:=h1.2 x;.ite (λg=>have r:=dY.1 g;have:0<=X.2.2.1/\X.2.2.1<=1073741824/\0<=X.2.2.2.2.2.2.1.1/\X.2.2.2.2.2.2.1.1<64/\0<=X.2.2.2.2.2.2.1.2.1/\X.2.2.2.2.2.2.1.2.1<16/\J0 X.2.2.2.2.2.2.1.2.2.1.2<=12/\J0 X.2.2.2.2.2.2.1.2.2.2.2<=12/\J0 X.2.2.2.2.2.2.2<=8192:=(by have q:=n;rw[r]at q;exact q);have:=J2.1 s0.1;.ge (λA=>.le (λz=>.bind (ig (B:=0) (S:=0) ⟨s0.2.2.2.1,s0.1⟩) λD o=>.ite (λk=>have:=J2.1 s0.2.2.2.1;have:0<=X.2.2.2.1/\X.2.2.2.1<X.1:=o.2 k;.bind (ig (B:=0) (S:=0) ⟨s0.2.2.2.2.1,s0.1⟩) λF w=>.ite (λj=>have:=J2.1 s0.2.2.2.2.1;have:0<=X.2.2.2.2.1/\X.2.2.2.2.1<X.1:=w.2 j;.bind (ig (B:=0) (S:=0) ⟨s0.2.2.2.2.2.1,s0.1⟩) λE v=>have:=J2.1 s0.2.2.2.2.2.1;have:=Jh (l:=X.2.2.2.2.2.2.1.2.2.1.2);have:=Jh (l:=X.2.2.2.2.2.2.1.2.2.2.2);have:=Jh (l:=X.2.2.2.2.2.2.2);.some ⟨trivial,λc=>by have:0<=X.2.2.2.2.2.1/\X.2.2.2.2.2.1<X.1:=v.2 c;first|omega|(dsimp only;omega)|(simp only[QB,zC]<;>omega)⟩) λj=>.some ⟨trivial,nofun⟩) λk=>.some ⟨trivial,nofun⟩) λz=>.some ⟨trivial,nofun⟩) λA=>.some ⟨trivial,nofun⟩) λg=>.some ⟨trivial,nofun⟩) λx=>.some ⟨trivial,nofun⟩
section
variable {B S:Int}
theorem rU{x:J5}{y:Bool}(h:aB B S J8 x)(e:Js x=some y)(c:y=true)(r:BS B S 0 0:=by omega):(1<=x.1/\x.1<=1099511627776/\0<=x.2.2.1/\x.2.2.1<=1073741824/\0<=x.2.2.2.1/\x.2.2.2.1<x.1/\0<=x.2.2.2.2.1/\x.2.2.2.2.1<x.1/\0<=x.2.2.2.2.2.1/\x.2.2.2.2.2.1<x.1/\0<=x.2.2.2.2.2.2.1.1/\x.2.2.2.2.2.2.1.1<64/\0<=x.2.2.2.2.2.2.1.2.1/\x.2.2.2.2.2.2.1.2.1<16/\J0 x.2.2.2.2.2.2.1.2.2.1.2<=12/\J0 x.2.2.2.2.2.2.1.2.2.2.2<=12/\J0 x.2.2.2.2.2.2.2<=8192)/\aB 0 8192 J8 x:=by
 have q:=((xD h).get e).2 c;obtain⟨h1,h2,h3,n,o,g,⟨k,j,_,_⟩,v⟩:=h;refine⟨q,h1,h2,h3,n,o,g,⟨k,j,⟨trivial,?_⟩,trivial,?_⟩,?_⟩;show J0 _<=8192;omega;show J0 _<=8192;omega;show J0 _<=8192;omega
end
theorem AH{B S:Int}{X:Jt}(h:aB B S Jy X)(p0:1<=X.1)(g:X.1<=1099511627776)(j:J0 X.2.1<=4096)(e:BS B S 0 0:=by omega)(k:B<=9223372036854775807:=by omega):Tot (iV X) λy=>aB 0 0 zI y/\(y=X.1+J0 X.2.1-1):=by unfold iV;exact have:=Jh (l:=X.2.1);have:J0 X.2.1=_:=JE h.2.1;have:=Jm X.1 (J0 X.2.1);have:=bC (J1 .i64 X.1 (J0 X.2.1)) 1;.some ⟨dX,om⟩
theorem mL{B S:Int}{X:Jt}(h:aB B S Jy X)(J:BS B S 0 0:=by omega)(M:B<=9223372036854775807:=by omega):Tot (JB X) λy=>aB 0 0 .b y/\(y=true->1<=X.1/\X.1<=1099511627776/\J0 X.2.1<=4096/\X.1-1<=X.2.2/\X.2.2<=X.1+J0 X.2.1-1):=by unfold JB;exact have:=J2.1 h.1;.ltf (λc1=>.gtf (λC=>have:J0 X.2.1=_/\_:=lF h.2.1;.gtf (λA=>have:=J2.1 h.c;have:=bC X.1 1;.ltf (λw=>.bind (AH h om om om) λN G=>.gt (λo=>.some ⟨trivial,nofun⟩) λo=>cU (J0 X.2.1) (λq=>(q,X)) λk F D E=>by unfold wZ;dsimp only;exact .lt (λj=>.bind (Jl h.2.1) λL I=>have:=Jm X.1 k;.nef (λv=>.bind (Jl h.2.1) λr g=>.bind ((xD (B:=0) (S:=S) (X:=r) g.1.z).eqn) λK n=>.not (λe=>.some ⟨trivial,nofun⟩) λe=>have H:=rU (x:=r) g.1.z n.2 e;.some ⟨j,rfl⟩) λv=>.some ⟨trivial,nofun⟩) λj=>.some ⟨trivial,λ_=>om⟩) λw=>.some ⟨trivial,nofun⟩) λA=>.some ⟨trivial,nofun⟩) λC=>.some ⟨trivial,nofun⟩) λc1=>.some ⟨trivial,nofun⟩
section
variable {B S:Int}
theorem wc{x:Jt}(h:aB B S Jy x)(e:JB x=some true)(E:BC B S 0 0:=by omega):(1<=x.1/\x.1<=1099511627776/\J0 x.2.1<=4096/\x.1-1<=x.2.2/\x.2.2<=x.1+J0 x.2.1-1)/\ ∀(j:Nat) (e:J5),x.2.1[j]?=some e->e.1=x.1+j/\Js e=some true:=by
 have q:=((mL h).get e).2 rfl;refine⟨q,?_⟩;have r:Par (JB x) λy=>y=true-> ∀(j:Nat) (e:J5),x.2.1[j]?=some e->e.1=x.1+j/\Js e=some true:=by
  unfold JB
  repeat' first|exact Par.some nofun|refine Par.ltf (λ_=>?_) (λ_=>?_)|refine Par.gtf (λ_=>?_) (λ_=>?_)|refine Par.gt (λ_=>?_) (λ_=>?_)|refine Par.bind λ_ _=>?_
  refine .while (λz=>z.2=x/\0<=z.1/\ ∀(j:Nat) (e:J5),(j:Int)<z.1->x.2.1[j]?=some e->e.1=x.1+j/\Js e=some true) ⟨rfl,aZ _,λj e h1=>by dsimp only at h1;omega⟩ ?_;rintro⟨i,z⟩ ⟨rfl,h0,n⟩;dsimp only at h0 n q;unfold wZ;dsimp only;refine .lt (λc=>?_) λc=>.some λ_ j e g=>n j e (by have:=sY g;omega) g;refine .bind λG w=>.nef (λH=>.bind λF k=>.bind λb D=>.not (λ_=>.some nofun) λv=>.some ?_) λ_=>.some nofun;subst v;have:=Jm i 1;have:=Jm z.1 i;rw[w]at k;injection k with k;subst k;refine⟨rfl,?_,λj e A g=>?_⟩;show 0<=J1 .i64 i 1;omega;have A:(j:Int)<J1 .i64 i 1:=A;by_cases o:(j:Int)<i;exact n j e o g;have:j=i.toNat:=by omega
  subst this;have C:=(cL w).2;rw[C]at g;injection g with g;subst g;exact⟨oo,D⟩
 exact r _ e rfl
theorem mH{x:Jt}{y:Bool}(h:aB B S Jy x)(e:JB x=some y)(c:y=true)(o:BC B S 0 0:=by omega):(1<=x.1/\x.1<=1099511627776/\J0 x.2.1<=4096/\x.1-1<=x.2.2/\x.2.2<=x.1+J0 x.2.1-1)/\aB 4096 8192 Jy x:=by subst c;obtain⟨q,k⟩:=wc h e;refine⟨q,h.1,⟨q.2.2.1,λa g=>?_⟩,h.c⟩;obtain⟨j,n⟩:=kR.1 g;exact(rU (h.2.1.2 a g) (k j a n).2 rfl).2.u
end
theorem UZ{B S:Int}{X:gW}(h:aB B S nY X)(o:BG B S:=by omega):Tot (kN X) λy=>aB 4096 8192 nY y/\(y.2=0->J0 y.1.2.1=J0 X.1.2.1):=by unfold kN;exact .bind ((mL h.1).eqn) λr h1=>.not (λg=>have:J0 X.1.2.1<=B:=h.1.2.1.1;.some ⟨⟨aP,aG 26⟩,om⟩) λg=>have k:=mH h.1 h1.2 g;have:=Jh (l:=X.1.2.1);have:J0 X.1.2.1=_:=JE h.1.2.1;have e:aB 4096 8192 Jy X.1:=k.2;.bind (AH e om om om) λq n=>.gt (λj=>.some ⟨⟨aP,aG 14⟩,om⟩) λj=>.some ⟨⟨⟨e.1,e.2.1,kJ e.c h.2⟩,aC⟩,om⟩
theorem LW{B S:Int}{X:Jt}(h:aB B S Jy X)(n:BC B S 0 0:=by omega):Tot (rG X) λy=>aB 0 0 zI y:=by unfold rG;exact .bind ((mL h).eqn) λq h1=>.not (λe=>.some aC) λe=>have k:=mH h h1.2 e;have:=Jh (l:=X.2.1);have:J0 X.2.1=_:=JE h.2.1;have g:aB 4096 8192 Jy X:=k.2;.bind (AH g om om om) λo j=>.some j.1
end Go.Am
end
section
namespace Go.Am
set_option linter.unusedVariables false
set_option maxRecDepth 20000
set_option maxHeartbeats 4000000
theorem eS{B S X:Int}(h:aB B S zI X)(e:BS B S 0 0:=by omega):Tot (Jw X) λy=>aB 0 0 dP y/\(y.1=5):=by unfold Jw;exact .some ⟨⟨aG 5,aC,aC,⟨trivial,J9⟩,h⟩,om⟩
theorem Oy{B S:Int}{X:Ju}(h:aB B S Jo X)(ax:BS B S 0 0:=by omega)(hB:B<=9223372036854775807:=by omega):Tot (pN X) λy=>aB 0 0 .b y:=by unfold pN;exact .ltf (λc1=>.gtf (λc3=>have:=J2.1 h.2.1;.ltf (λc4=>.gtf (λZ=>have:=J2.1 h.c.1;.ltf (λc7=>.gtf (λY=>have:J0 X.2.2.2.2.1<=B:=h.e.1.1;have:=Jh (l:=X.2.2.2.2.1);.gtf (λC=>have:J0 X.2.2.2.2.2<=B:=h.g.1;have:=Jh (l:=X.2.2.2.2.2);.gt (λU=>.some trivial) λU=>have:=J2.1 h.d.1;.ltf (λH=>.gtf (λF=>.ne (λQ=>.ne (λW=>.some trivial) λW=>cU (J0 X.2.2.2.2.1) (λq=>(q,X)) λx ap a7 an=>by unfold yg;dsimp only;exact .lt (λo=>.bind (Jl h.e.1) λy3 ak=>.ltf (λE=>.bind (Jl h.e.1) λy4 af=>.gtf (λz=>.gt (λR=>have:=bC x 1;.bind (Jl h.e.1) λy5 au=>.bind (Jl h.e.1) λy6 az=>.ge (λI=>.some trivial) λI=>.some ⟨o,rfl⟩) λR=>.some ⟨o,rfl⟩) λz=>.some trivial) λE=>.some trivial) λo=>.inr (cU (J0 X.2.2.2.2.2) (λq=>(q,X)) λw al b8 ad=>by unfold ya;dsimp only;exact .lt (λj=>.bind (Jl h.g) λy8 ag=>.ltf (λP=>.bind (Jl h.g) λy9 ay=>.gtf (λT=>.gt (λK=>have:=bC w 1;.bind (Jl h.g) λa4 b5=>.bind (Jl h.g) λa9 ae=>.gt (λD=>.some trivial) λD=>.some ⟨j,rfl⟩) λK=>.some ⟨j,rfl⟩) λT=>.some trivial) λP=>.some trivial) λj=>.some trivial)) λQ=>cU (J0 X.2.2.2.2.1) (λq=>(q,X)) λv aa a3 a8=>by unfold w6;dsimp only;exact .lt (λn=>.bind (Jl h.e.1) λb1 a5=>.ltf (λG=>.bind (Jl h.e.1) λai aj=>.gtf (λJ=>.gt (λM=>have:=bC v 1;.bind (Jl h.e.1) λao am=>.bind (Jl h.e.1) λb7 ah=>.ge (λL=>.some trivial) λL=>.some ⟨n,rfl⟩) λM=>.some ⟨n,rfl⟩) λJ=>.some trivial) λG=>.some trivial) λn=>.inr (cU (J0 X.2.2.2.2.2) (λq=>(q,X)) λr b0 b2 aq=>by unfold xe;dsimp only;exact .lt (λk=>.bind (Jl h.g) λac a6=>.ltf (λA=>.bind (Jl h.g) λaw ab=>.gtf (λV=>.gt (λO=>have:=bC r 1;.bind (Jl h.g) λb4 b6=>.bind (Jl h.g) λb3 av=>.gt (λN=>.some trivial) λN=>.some ⟨k,rfl⟩) λO=>.some ⟨k,rfl⟩) λV=>.some trivial) λA=>.some trivial) λk=>.some trivial)) λF=>.some trivial) λH=>.some trivial) λC=>.some trivial) λY=>.some trivial) λc7=>.some trivial) λZ=>.some trivial) λc4=>.some trivial) λc3=>.some trivial) λc1=>.some trivial
theorem xA{B S:Int}{X:List Ju}(h:aB B S (.l Jo) X)(x:BS B S 0 0:=by omega)(H:B<=9223372036854775807:=by omega):Tot (iW X) λy=>aB 0 0 .b y:=by unfold iW;exact have:=Jh (l:=X);have:J0 X=_:=JE h;.gt (λc1=>.some trivial) λc1=>cU (J0 X) (λq=>(X,q)) λg D A z=>by unfold m5;dsimp only;exact .lt (λe=>.bind (Jl h) λC n=>.bind (Oy n.1) λG v=>.nof (λj=>.gt (λo=>have:=bC g 1;.bind (Jl h) λE r=>.bind (Jl h) λF w=>.ge (λk=>.some trivial) λk=>.some ⟨e,rfl⟩) λo=>.some ⟨e,rfl⟩) λj=>.some trivial) λe=>.some trivial
theorem VJ{B S:Int}{X:eA}(h:aB B S iZ X)(n:BS B S 0 0:=by omega)(v:B<=9223372036854775807:=by omega):Tot (kP X) λy=>aB 0 0 zI y/\(-1<=y/\y<J0 X.1):=by unfold kP;exact have:J0 X.1=_/\_:=lF h.1;cU (J0 X.1) (λq=>(X.1,X.2,q)) λj i4 w r=>by unfold pR;dsimp only;exact .lt (λe=>.bind (Jl h.1) λo k=>.eq (λg=>.some ⟨i4,om⟩) λg=>.some ⟨e,rfl⟩) λe=>.some ⟨(aG (-1)),om⟩
theorem we{B S:Int}{X:eA}(h:aB B S iZ X)(a0:BG B S:=by omega):Tot (MM X) λy=>aB 8193 0 iZ y:=by unfold MM;exact .bind ((xA h.1).eqn) λy2 h1=>.not (λK=>.some ⟨Jc,aG 15⟩) λK=>have Q:=rV h.1 h1.2 K;have:=Jh (l:=X.1);have:J0 X.1=_:=JE h.1;have k:aB 4096 0 (.l Jo) X.1:=Q.2;.ltf (λP=>.gt (λG=>.some ⟨Jc,aG 1⟩) λG=>.bind (VJ (B:=4096) (S:=0) ⟨k,h.2⟩) λy3 U=>.ge (λJ=>.some ⟨Jc,aG 25⟩) λJ=>.eq (λO=>.some ⟨Jc,aG 21⟩) λO=>Jq (τ:=Int×(List Ju)) (λq=>(X.1,X.2,q.1,q.2)) (λq=>(aB 0 0 zI q.1/\0<=q.1/\(q.1<=J0 X.1\/q.1<=0))/\(aB 4096 0 (.l Jo) q.2/\J0 q.2<=1*q.1+0)) (λq=>J0 X.1-q.1) (by rintro⟨j,e⟩ r;dsimp only at r;obtain⟨⟨E,Z,W⟩,g,V⟩:=r;unfold yl;(try dsimp only);exact have:=J2.1 E;.lt (λL=>.bind (Jl k) λy5 Y=>.lt (λD=>.bind (Jl k) λy6 H=>have:J0 e=_/\_:=lF g;.bind (bT (B:=4096) (Bl:=4096) (Bm:=4096) (S:=0) (J0 e) 1 g (cF (B:=4096) (S:=0) (t:=Jo) oo H.1)) λC o=>have:=Jm j 1;have:J0 C=_:=JE o.1;.some ⟨(J1 .i64 j 1,C),rfl,⟨⟨Je,om,om⟩,o.1,om⟩,om,om⟩) λD=>.inr (have:J0 e=_/\_:=lF g;.bind (bT (B:=4097) (Bl:=4096) (Bm:=1) (S:=0) (J0 e) 1 g (cF (B:=1) (S:=0) (t:=Jo) oo ⟨h.2,aG 1,aP⟩)) λI x=>.bind (pI k) λM v=>have:J0 I=_:=JE x.1;have:J0 M=_:=JE v.1;.bind (bT (B:=8193) (Bl:=4097) (Bm:=4096) (S:=0) (J0 I) (J0 M) x.1 v.1) λR N=>.some ⟨N.1,aC⟩)) λL=>.inr (have:J0 e=_/\_:=lF g;.bind (bT (B:=4097) (Bl:=4096) (Bm:=1) (S:=0) (J0 e) 1 g (cF (B:=1) (S:=0) (t:=Jo) oo ⟨h.2,aG 1,aP⟩)) λz A=>.bind (pI k) λw n=>have:J0 z=_:=JE A.1;have:J0 w=_:=JE n.1;.bind (bT (B:=8193) (Bl:=4097) (Bm:=4096) (S:=0) (J0 z) (J0 w) A.1 n.1) λT F=>.some ⟨F.1,aC⟩)) (0,[]) rfl (have:J0 ([]:List Ju)=0:=rfl;⟨⟨aC,om,om⟩,Jc,om⟩)) λP=>.some ⟨Jc,aG 1⟩
theorem VB{B S:Int}{X:cX}(h:aB B S fH X)(o:BS B S 0 0:=by omega)(w:B<=9223372036854775807:=by omega):Tot (rT X) λy=>aB 0 0 (.pr Jf .b) y:=by unfold rT;exact have:J0 X.1.2.2.2.2.2.2.2=_/\_:=lF h.1.i;cU (J0 X.1.2.2.2.2.2.2.2) (λq=>(X.2,q,X.1,0,0,0)) λk i4 x v=>.lt (λe=>.bind (Jl h.1.i) λr n=>.eq (λg=>.bind (Jl h.1.i) λz j=>.some ⟨j.1,trivial⟩) λg=>.some ⟨e,rfl⟩) λe=>.some ⟨aP,trivial⟩
theorem FX{B S:Int}{X:CL}(h:aB B S ku X)(j:BS B S 0 0:=by omega):Tot (uC X) λy=>aB 0 0 .b y:=by unfold uC;exact .ne (λc1=>.ite (λe=>have k:=dY.1 e;.eqf (λg=>.some trivial) λg=>.some trivial) λe=>.some trivial) λc1=>.some trivial
theorem il{B S:Int}{X:aD}(h:aB B S Jb X)(q:BS B S 0 0:=by omega):Tot (FL X) λy=>aB 0 0 .b y:=by unfold FL;exact .ge (λc1=>.le (λo=>have:=J2.1 h.2.1.1;.ge (λn=>.lt (λk=>have:=J2.1 h.2.1.2;.ge (λj=>.lt (λg=>have:=J2.1 h.c;.eqf (λe=>.some trivial) λe=>.some trivial) λg=>.some trivial) λj=>.some trivial) λk=>.some trivial) λn=>.some trivial) λo=>.some trivial) λc1=>.some trivial
theorem uf{B S:Int}{X:CL}(h:aB B S ku X)(g:BS B S 0 0:=by omega):Tot (LY X) λy=>aB 0 0 .b y:=by unfold LY;exact .ne (λc1=>.some trivial) λc1=>have:=J2.1 h.1.2.1.2;.ne (λe=>.some trivial) λe=>.some trivial
theorem zY{B S:Int}{X:OD}(h:aB B S (.pr JH Jf) X)(w:BS B S 0 0:=by omega)(D:B<=9223372036854775807:=by omega):Tot (rE X) λy=>aB 0 0 zI y:=by unfold rE;exact have:J0 X.1.1=_/\_:=lF h.1.1;cU (J0 X.1.1) (λq=>(X.2.1,q,X.1,X.2.2)) λn i4 E A=>.lt (λg=>.bind (Jl h.1.1) λx r=>.eq (λk=>.bind (Jl h.1.1) λC v=>.ite (λe=>have o:=dY.1 e;.bind (Jl h.1.1) λz j=>.some j.1.c) λe=>.some ⟨g,rfl⟩) λk=>.some ⟨g,rfl⟩) λg=>.some aC
theorem AY{B S:Int}{X:dA}(h:aB B S JH X)(ao:BS B S 0 0:=by omega)(hB:B<=9223372036854775807:=by omega):Tot (lM X) λy=>aB 0 0 .b y:=by unfold lM;exact have:J0 X.1=_/\_:=lF h.1;have:J0 X.2=_/\_:=lF h.2;have:=Jm (J0 X.1) (J0 X.2);.gt (λc1=>.some trivial) λc1=>cU (J0 X.1) (λq=>(q,X)) λe i9 ap ay=>by unfold xg;dsimp only;exact .lt (λg=>.bind (Jl h.1) λy3 z=>.bind (il z.1) λy4 Y=>.nof (λG=>.gt (λL=>have:=bC e 1;.bind (Jl h.1) λy5 O=>.bind (Jl h.1) λy6 H=>.bind (uf (B:=0) (S:=0) ⟨O.1,H.1⟩) λy7 al=>.not (λF=>.some trivial) λF=>Jq (τ:=Int) (λq=>(e,q,X)) (λq=>(aB 0 0 zI q/\q<=JJ .i64 e 1)) (λq=>q-0) (by rintro o ⟨E,a2⟩;exact have:=J2.1 E;.ge (λP=>.bind (Jl h.1) λy9 ah=>.bind (Jl h.1) λW a8=>.ite (λr=>have ag:=dY.1 r;.bind (Jl h.1) λa4 M=>.bind (Jl h.1) λa0 N=>.bind (FX (B:=0) (S:=0) ⟨M.1,N.1⟩) λau a1=>.ite (λQ=>.inr (.some trivial)) λQ=>have:=bC o 1;.some ⟨JJ .i64 o 1,rfl,⟨dX,om⟩,om,om⟩) λr=>.some ⟨g,rfl⟩) λP=>.some ⟨g,rfl⟩) (JJ .i64 e 1) rfl ⟨dX,om⟩) λL=>have:=bC e 1;Jq (τ:=Int) (λq=>(e,q,X)) (λq=>(aB 0 0 zI q/\q<=JJ .i64 e 1)) (λq=>q-0) (by rintro k ⟨J,a7⟩;exact have:=J2.1 J;.ge (λA=>.bind (Jl h.1) λai a9=>.bind (Jl h.1) λaw Z=>.ite (λv=>have an:=dY.1 v;.bind (Jl h.1) λaj U=>.bind (Jl h.1) λa6 D=>.bind (FX (B:=0) (S:=0) ⟨U.1,D.1⟩) λam aq=>.ite (λI=>.inr (.some trivial)) λI=>have:=bC k 1;.some ⟨JJ .i64 k 1,rfl,⟨dX,om⟩,om,om⟩) λv=>.some ⟨g,rfl⟩) λA=>.some ⟨g,rfl⟩) (JJ .i64 e 1) rfl ⟨dX,om⟩) λG=>.some trivial) λg=>.inr (cU (J0 X.2) (λq=>(q,X)) λj a5 ax a3=>by unfold xm;dsimp only;exact .lt (λx=>.bind (Jl h.2) λT n=>.bind (il n.1) λab ac=>.nof (λC=>.bind (zY (B:=B) (S:=S) ⟨h,n.1.1,n.1.2.1⟩) λav aa=>.ge (λR=>.some trivial) λR=>cU j (λq=>(j,q,X,T)) λV ad ak az=>.lt (λw=>.bind (Jl h.2) λaf ae=>.eq (λK=>.inr (.some trivial)) λK=>.some ⟨w,rfl⟩) λw=>.some ⟨x,rfl⟩) λC=>.some trivial) λx=>.some trivial)
theorem vq{B S:Int}{X:Ji}(h:aB B S Jd X)(w:BS B S 0 0:=by omega):Tot (iI X) λy=>aB 0 0 .b y:=by unfold iI;exact have s0:aB 0 S Jd X:=h;cU 16 (λq=>(q,X)) λr i1 D C=>by unfold MU;dsimp only;exact .lt (λe=>.bind (fK) λ_ _=>.bind (iS s0.2.2) λo j=>.bind (ni j) λz A=>.nof (λn=>have:J0 o.2<=S:=j.2;.eq (λk=>.bind (fK) λ_ _=>.bind (iS s0.2.2) λx v=>.ite (λg=>.some trivial) λg=>.some ⟨e,rfl⟩) λk=>.some ⟨e,rfl⟩) λn=>.some trivial) λe=>.some trivial
theorem xh{B S:Int}{X:Ji}(h:aB B S Jd X)(j:BS B S 0 0:=by omega):Tot (jW X) λy=>aB 0 0 .b y:=by unfold jW;exact .ge (λc1=>.lt (λg=>have:=J2.1 h.z.2.1;.ge (λe=>.some trivial) λe=>.some trivial) λg=>.some trivial) λc1=>.some trivial
theorem Ps{B S:Int}{X:Ji}(h:aB B S Jd X)(g:BS B S 0 0:=by omega):Tot (mP X) λy=>aB 0 0 .b y:=by unfold mP;exact have s0:aB 0 S Jd X:=h;.bind (xh (B:=0) (S:=S) s0) λk h1=>.ite (λe=>.bind (vq (B:=0) (S:=S) s0) λj h3=>.some trivial) λe=>.some trivial
theorem xC{B S:Int}{X:JK}(h:aB B S JS X)(a9:BS B S 0 0:=by omega)(hB:B<=9223372036854775807:=by omega):Tot (JY X) λy=>aB 0 0 .b y:=by unfold JY;exact have:=J2.1 h.1;.ltf (λc1=>.gtf (λV=>have:J0 X.2.1=_/\_:=lF h.2.1;.gtf (λQ=>have:=J2.1 h.c;.ltf (λP=>have:=bC (J0 X.2.1) 1;.gt (λJ=>.some trivial) λJ=>cU (J0 X.2.1) (λq=>(J0 X.2.1,q,X)) λe a3 a8 a2=>.lt (λg=>.bind (Jl h.2.1) λk j=>.bind ((Ps (B:=0) (S:=S) (X:=k.1) j.1.z.1).eqn) λy4 E=>.nof (λw=>have Y:=vu (x:=k.1) j.1.z.1 E.2 w;.ite (λG=>have:=J2.1 j.1.z.2.2.1;.ltf (λK=>.gtf (λD=>.not (λI=>.ne (λF=>.some trivial) λF=>cU e (λq=>(J0 X.2.1,e,q,X,k)) λU ah ab a1=>.lt (λo=>.bind (Jl h.2.1) λy6 af=>.eq (λL=>.inr (.some trivial)) λL=>.some ⟨o,rfl⟩) λo=>.some ⟨g,rfl⟩) λI=>cU e (λq=>(J0 X.2.1,e,q,X,k)) λT ai ag a5=>.lt (λn=>.bind (Jl h.2.1) λy8 Z=>.eq (λA=>.inr (.some trivial)) λA=>.some ⟨n,rfl⟩) λn=>.some ⟨g,rfl⟩) λD=>.some trivial) λK=>.some trivial) λG=>.not (λH=>have:=J2.1 j.1.z.2.2.1;.ne (λN=>.some trivial) λN=>cU e (λq=>(J0 X.2.1,e,q,X,k)) λR a4 a6 W=>.lt (λv=>.bind (Jl h.2.1) λa0 ae=>.eq (λM=>.inr (.some trivial)) λM=>.some ⟨v,rfl⟩) λv=>.some ⟨g,rfl⟩) λH=>cU e (λq=>(J0 X.2.1,e,q,X,k)) λO ac ad aj=>.lt (λr=>.bind (Jl h.2.1) λaa a7=>.eq (λC=>.inr (.some trivial)) λC=>.some ⟨r,rfl⟩) λr=>.some ⟨g,rfl⟩) λw=>.some trivial) λg=>.some trivial) λP=>.some trivial) λQ=>.some trivial) λV=>.some trivial) λc1=>.some trivial
theorem gr{B S X:Int}(h:aB B S zI X)(e:BS B S 0 0:=by omega):Tot (nV X) λy=>aB 0 0 .b y:=by unfold nV;exact .ge (λc1=>.some trivial) λc1=>.some trivial
theorem FV{B S:Int}{X:List aA}(h:aB B S (.l Jf) X)(C:BS B S 0 0:=by omega)(K:B<=9223372036854775807:=by omega):Tot (hO X) λy=>aB 0 0 .b y:=by unfold hO;exact have:J0 X=_:=JE h;.ltf (λc1=>.gt (λv=>.some trivial) λv=>cU (J0 X) (λq=>(q,X)) λw I D J=>by unfold m6;dsimp only;exact .lt (λg=>.bind (Jl h) λE e=>.bind (gr e.1.1) λH z=>.nof (λn=>.bind (gr e.1.2.1) λF x=>.nof (λk=>.bind (gr e.1.c) λG A=>.nof (λj=>have:=J2.1 e.1.2.1;.eq (λo=>have:=J2.1 e.1.c;.ne (λr=>.some trivial) λr=>.some ⟨g,rfl⟩) λo=>.some ⟨g,rfl⟩) λj=>.some trivial) λk=>.some trivial) λn=>.some trivial) λg=>.some trivial) λc1=>.some trivial
theorem yw{B S:Int}{X:sQ}(h:aB B S UF X)(z:BS B S 0 0:=by omega)(F:B<=9223372036854775807:=by omega):Tot (lQ X) λy=>aB 0 0 .b y:=by unfold lQ;exact have:J0 X.1=_/\_:=lF h.1;cU (J0 X.1) (λq=>(X.1,X.2,q)) λg i4 G D=>by unfold WP;dsimp only;exact .lt (λj=>.bind (Jl h.1) λC e=>.ltf (λv=>have:=J2.1 h.2;.gef (λo=>have:=J2.1 e.1.2.1;.ltf (λn=>have:=J2.1 e.1.c;.gtf (λr=>.gtf (λw=>.gt (λx=>have:=bC g 1;.bind (Jl h.1) λE A=>.ge (λk=>.some trivial) λk=>.some ⟨j,rfl⟩) λx=>.some ⟨j,rfl⟩) λw=>.some trivial) λr=>.some trivial) λn=>.some trivial) λo=>.some trivial) λv=>.some trivial) λj=>.some trivial
theorem Oh{B S:Int}{X:J7}(h:aB B S Ja X)(I:BC B S 0 0:=by omega):Tot (mG X) λy=>aB 0 0 .b y:=by unfold mG;exact .ge (λc1=>.le (λE=>have:=J2.1 h.2.1;.ge (λD=>.le (λC=>.bind ((mL h.c.1).eqn) λQ A=>.ite (λq=>have R:=mH h.c.1 A.2 q;.bind ((xC h.d.1).eqn) λM r=>.ite (λo=>have H:=rR h.d.1 r.2 o;.bind ((AY h.e.1).eqn) λP w=>.ite (λk=>have J:=wU h.e.1 w.2 k;.bind ((xA h.g.1).eqn) λN z=>.ite (λn=>have K:=rV h.g.1 z.2 n;.bind ((FV h.h.1).eqn) λO x=>.ite (λj=>have F:=AT h.h.1 x.2 j;.eq (λv=>.bind (yw (B:=B) (S:=S) ⟨h.i,h.1⟩) λL G=>.some trivial) λv=>.some trivial) λj=>.some trivial) λn=>.some trivial) λk=>.some trivial) λo=>.some trivial) λq=>.some trivial) λC=>.some trivial) λD=>.some trivial) λE=>.some trivial) λc1=>.some trivial
theorem kM{B S:Int}{X:J7}(h:aB B S Ja X)(Q:BC B S 0 0:=by omega):Tot (Jv X) λy=>aB 0 0 .b y:=by unfold Jv;exact .bind (Oh h) λy2 h1=>.not (λG=>.some trivial) λG=>have:J0 X.2.2.2.2.2.1=_/\_:=lF h.g.1;cU (J0 X.2.2.2.2.2.1) (λq=>(q,X)) λH i6 w7 z8=>by unfold x9;dsimp only;exact .lt (λw=>.bind (Jl h.g.1) λy4 J=>.ge (λC=>.some trivial) λC=>.some ⟨w,rfl⟩) λw=>.inr (have:J0 X.2.2.2.1.2.1=_/\_:=lF h.d.1.2.1;cU (J0 X.2.2.2.1.2.1) (λq=>(q,X)) λE M L Y=>by unfold xf;dsimp only;exact .lt (λj=>.bind (Jl h.d.1.2.1) λy6 A=>.ge (λr=>.some trivial) λr=>.bind (VB (B:=B) (S:=S) ⟨h,A.1.z.1.1⟩) λZ T=>.ite (λv=>.some trivial) λv=>.some ⟨j,rfl⟩) λj=>.inr (have:J0 X.2.2.2.2.1.1=_/\_:=lF h.e.1.1;cU (J0 X.2.2.2.2.1.1) (λq=>(q,X)) λF O R P=>by unfold ye;dsimp only;exact .lt (λn=>.bind (Jl h.e.1.1) λy9 K=>.ge (λo=>.some trivial) λo=>.some ⟨n,rfl⟩) λn=>.inr (have:J0 X.2.2.2.2.1.2=_/\_:=lF h.e.1.2;cU (J0 X.2.2.2.2.1.2) (λq=>(q,X)) λD W N I=>by unfold xr;dsimp only;exact .lt (λk=>.bind (Jl h.e.1.2) λV U=>.ge (λx=>.some trivial) λx=>.some ⟨k,rfl⟩) λk=>.some trivial)))
section
variable {B S:Int}
def KOk(x:J7):Prop:=JB x.2.2.1=some true/\JY x.2.2.2.1=some true/\lM x.2.2.2.2.1=some true/\iW x.2.2.2.2.2.1=some true/\hO x.2.2.2.2.2.2.1=some true/\lQ (x.2.2.2.2.2.2.2,x.1)=some true/\1<=x.1/\x.1<=64/\1<=x.2.1/\x.2.1<=1073741825/\J0 x.2.2.2.2.2.2.1=x.1
theorem Pa{x:J7}(e:mG x=some true):KOk x:=by
 have h:Par (mG x) λy=>y=true->KOk x:=by unfold mG;refine .ge (λc1=>.le (λr=>.ge (λE=>.le (λA=>.bind λa F=>.ite (λo=>.bind λb C=>.ite (λj=>.bind λc G=>.ite (λk=>.bind λd B=>.ite (λz=>.bind λf D=>.ite (λv=>.eq (λw=>.bind λg n=>.some λq=>?_) λ_=>.some nofun) λ_=>.some nofun) λ_=>.some nofun) λ_=>.some nofun) λ_=>.some nofun) λ_=>.some nofun) λ_=>.some nofun) λ_=>.some nofun) λ_=>.some nofun) λ_=>.some nofun;subst o j k z v q;exact⟨F,C,G,B,D,n,c1,r,E,A,w⟩
 exact h _ e rfl
theorem AW{x:J7}(e:Jv x=some true):KOk x:=by
 have g:Par (Jv x) λy=>y=true->KOk x:=by unfold Jv;refine .bind λa h=>.not (λ_=>.some nofun) λc=>?_;subst c;exact λ_ _ _=>Pa h
 exact g _ e rfl
theorem KOk.fit{x:J7}(k:KOk x)(h:aB B S Ja x)(E:BC B S 0 0:=by omega):aB 4096 8192 Ja x:=by obtain⟨h1,h2,h3,A,C,w,n,r⟩:=h;obtain⟨g,y,j,z,o,v,e⟩:=k;refine⟨h1,h2,(mH h3 g rfl).2,(rR A y rfl).2.u,(wU C j rfl).2.u,(rV w z rfl).2.u,(AT n o rfl).2.u,?_,λa D=>r.2 a D⟩;have q:=(X0 v e.1 e.2.1).1;show J0 x.2.2.2.2.2.2.2<=4096;omega
theorem lO{x:J7}{y:Bool}(h:aB B S Ja x)(e:Jv x=some y)(c:y=true)(G:BC B S 0 0:=by omega):(1<=x.1/\x.1<=64/\J0 x.2.2.2.2.2.2.1=x.1/\1<=x.2.1/\x.2.1<=1073741825/\1<=x.2.2.1.1/\x.2.2.1.1<=1099511627776/\J0 x.2.2.1.2.1<=4096/\x.2.2.1.1-1<=x.2.2.1.2.2/\x.2.2.1.2.2<=x.2.2.1.1+J0 x.2.2.1.2.1-1/\1<=x.2.2.2.1.1/\x.2.2.2.1.1<=64/\J0 x.2.2.2.1.2.1<=x.2.2.2.1.1/\0<=x.2.2.2.1.2.2/\(x.2.2.2.1.2.2<J0 x.2.2.2.1.2.1\/x.2.2.2.1.2.2=0))/\aB 4096 8192 Ja x:=by subst c;have k:=AW e;obtain⟨n,z,H,K,I,J,r,q,v,g,j⟩:=id k;obtain⟨E,F,A,D,C⟩:=(mH h.c.1 n rfl).1;obtain⟨b1,b2,b3,w,o⟩:=(rR h.d.1 z rfl).1;exact⟨⟨r,q,j,v,g,E,F,A,D,C,b1,b2,b3,w,o⟩,k.fit h⟩
end
theorem Nv{B S:Int}{X:J7}(h:aB B S Ja X)(w:BG B S:=by omega):Tot (AR X) λy=>aB 8193 8192 xJ y:=by unfold AR;exact .bind ((kM h).eqn) λz h1=>.not (λn=>.some ⟨aP,aC,aG 15⟩) λn=>have v:=lO h h1.2 n;have j:aB 4096 8192 Ja X:=v.2;.gt (λo=>.some ⟨aP,aC,aG 21⟩) λo=>have q:aB 16384 1073741824 iZ (X.2.2.2.2.2.1,X.2.1):=⟨j.g.1.u,j.2.1⟩;.bind (we q) λx k=>.ne (λr=>.some ⟨aP,aC,k.2⟩) λr=>.some ⟨⟨j.1,Je,j.c.1.u,j.d.1.u,j.e.1.u,k.1.u,j.h.u⟩,dX,aC⟩
theorem Qh{B S:Int}{X:Jz}(h:aB B S Jn X)(g:BG B S:=by omega):Tot (BE X) λy=>aB B S TI y:=by unfold BE;exact .bind (Nv h.1) λj h1=>.ne (λe=>.some ⟨⟨aP,Jc,aC,Jc,trivial,Jc⟩,aC,h1.c⟩) λe=>.some ⟨⟨h1.1.u,h.2⟩,h1.2.1,aC⟩
theorem uH{B S:Int}{X:J5}(h:aB B S J8 X)(e:BS B S 0 0:=by omega):Tot (JN X) λy=>aB 0 0 .b y:=by unfold JN;exact .eqf (λc1=>.some trivial) λc1=>.some trivial
theorem VQ{B S:Int}{X:Jt×J5}(h:aB B S HK X)(F:BG B S:=by omega):Tot (gF X) λy=>aB 4097 8192 (.pr Jy cY) y/\(y.2.2=0->J0 y.1.2.1=J0 X.1.2.1+1/\J0 X.1.2.1<=4095/\0<=X.2.2.2.2.2.2.2.1.1/\X.2.2.2.2.2.2.2.1.1<64/\0<=X.2.2.2.2.2.2.2.1.2.1/\X.2.2.2.2.2.2.2.1.2.1<16):=by unfold gF;exact .bind ((mL h.1).eqn) λI h1=>.not (λr=>have:J0 X.1.2.1<=B:=h.1.2.1.1;.some ⟨⟨aP,aC,aG 26⟩,om⟩) λr=>have D:=mH h.1 h1.2 r;have:=Jh (l:=X.1.2.1);have:J0 X.1.2.1=_:=JE h.1.2.1;have e:aB 4096 8192 Jy X.1:=D.2;.eqf (λw=>.bind (AH e om om om) λG q=>have:=J2.1 q.1;.eq (λA=>have:=J2.1 h.2.z.2.2.2.2.2.2.1.1;.some ⟨⟨aP,aC,aG 21⟩,om⟩) λA=>.bind (AH e om om om) λg E=>.bind ((xD (B:=0) (S:=S) (X:=(J1 .i64 g 1,X.2.2)) ⟨Je,h.2.z.2⟩).eqn) λH v=>.not (λo=>have:=J2.1 h.2.z.2.2.2.2.2.2.1.1;.some ⟨⟨aP,aC,aG 12⟩,om⟩) λo=>have k:=rU (x:=(J1 .i64 g 1,X.2.2)) ⟨Je,h.2.z.2⟩ v.2 o;have:=Jm g 1;have:=J2.1 h.2.z.2.2.2.2.2.2.1.1;have:=J2.1 h.2.z.2.2.2.2.2.2.1.2.1;have:1<=(J1 .i64 g 1)/\(J1 .i64 g 1)<=1099511627776/\0<=X.2.2.2.1/\X.2.2.2.1<=1073741824/\0<=X.2.2.2.2.1/\X.2.2.2.2.1<(J1 .i64 g 1)/\0<=X.2.2.2.2.2.1/\X.2.2.2.2.2.1<(J1 .i64 g 1)/\0<=X.2.2.2.2.2.2.1/\X.2.2.2.2.2.2.1<(J1 .i64 g 1)/\0<=X.2.2.2.2.2.2.2.1.1/\X.2.2.2.2.2.2.2.1.1<64/\0<=X.2.2.2.2.2.2.2.1.2.1/\X.2.2.2.2.2.2.2.1.2.1<16/\J0 X.2.2.2.2.2.2.2.1.2.2.1.2<=12/\J0 X.2.2.2.2.2.2.2.1.2.2.2.2<=12/\J0 X.2.2.2.2.2.2.2.2<=8192:=k.1;have j:aB 0 8192 J8 (J1 .i64 g 1,X.2.2):=k.2;.clo e.2.1 oo (by decide) (.bind (bT (B:=4097) (Bl:=4096) (Bm:=1) (S:=8192) (J0 X.1.2.1) 1 e.2.1 (cF (B:=1) (S:=8192) (t:=J8) oo (j.u))) λC n=>have:J0 C=_:=JE n.1;.some ⟨⟨⟨e.1,n.1,e.c⟩,j.1,aC⟩,om⟩)) λw=>have:=J2.1 h.2.z.2.2.2.2.2.2.1.1;.some ⟨⟨aP,aC,aG 21⟩,om⟩
theorem tR{B S:Int}{X:gW}(h:aB B S nY X)(r:BC B S 0 0:=by omega):Tot (eB X) λy=>aB 0 8192 (.pr J8 zI) y:=by unfold eB;exact .bind ((mL h.1).eqn) λw h1=>.not (λg=>.some ⟨⟨aC,aC,aC,aC,aC,aC,⟨aC,aC,⟨trivial,J9⟩,trivial,J9⟩,J9⟩,aG 26⟩) λg=>have o:=mH h.1 h1.2 g;have:=Jh (l:=X.1.2.1);have:J0 X.1.2.1=_:=JE h.1.2.1;have e:aB 4096 8192 Jy X.1:=o.2;.ltf (λj=>.bind (AH e om om om) λv q=>.gt (λk=>.some ⟨⟨aC,aC,aC,aC,aC,aC,⟨aC,aC,⟨trivial,J9⟩,trivial,J9⟩,J9⟩,aG 14⟩) λk=>have:=bC X.2 X.1.1;.bind (Jl e.2.1) λx n=>.some ⟨n.1.z,aC⟩) λj=>.some ⟨⟨aC,aC,aC,aC,aC,aC,⟨aC,aC,⟨trivial,J9⟩,trivial,J9⟩,J9⟩,aG 14⟩
theorem Fa{B S:Int}{X:(List aA)×Int×aA}(h:aB B S (.pr (.l Jf) (.pr zI Jf)) X)(p0:0<=X.2.1)(g:X.2.1<J0 X.1)(e:BS B S 0 0:=by omega)(k:B<=34359738368:=by omega):Tot (FG X) λy=>aB B S (.l Jf) y/\(J0 y=J0 X.1):=by unfold FG;exact have:J0 X.1=_:=JE h.1;.clo h.1 oo (by decide) (.bind (fC (l:=X.1)) λ_ _=>.bind (jF h.1) λn j=>have:J0 (aW X.1 (Int.toNat X.2.1) X.2.2)=J0 X.1:=pJ;.some ⟨(kL (t:=Jf) (i:=Int.toNat X.2.1) (x:=X.2.2) h.1 h.c),om⟩)
theorem zV{B S:Int}{X:TX}(h:aB B S BZ X)(F:BG B S:=by omega):Tot (jU X) λy=>aB 64 0 UF y:=by unfold jU;exact .bind ((FV h.1).eqn) λI h1=>.not (λr=>.some ⟨Jc,aG 28⟩) λr=>have E:=AT h.1 h1.2 r;have:J0 X.1=_:=JE h.1;have n:aB 64 0 (.l Jf) X.1:=E.2;.bind ((xD (B:=0) (S:=S) (X:=X.2) h.2.z).eqn) λG D=>.not (λj=>.some ⟨Jc,aG 12⟩) λj=>have A:=rU (x:=X.2) h.2.z D.2 j;have k:aB 0 8192 J8 X.2:=A.2;.ne (λv=>.some ⟨n,aC⟩) λv=>.ge (λo=>.some ⟨Jc,aG 1⟩) λo=>.bind (Jl n) λH e=>.bind (Fa (B:=64) (S:=0) ⟨n,k.h.1.1,kJ e.1.1 k.g.1,e.1.2⟩ om om) λC w=>have q:aB 64 0 (.l Jf) C:=w.1.u;.some ⟨q,aC⟩
theorem rJ{B S:Int}{X:eA}(h:aB B S iZ X)(g:BS B S 0 0:=by omega)(j:B<=9223372036854775807:=by omega):Tot (gP X) λy=>aB 0 0 zI y/\(-1<=y/\y<J0 X.1):=by unfold gP;exact .bind (VJ (B:=B) (S:=S) (h)) λe h1=>have: -1<=e/\e<J0 X.1:=h1.2;.some ⟨h1.1,om⟩
theorem i7{B S:Int}{X:eA}(h:aB B S iZ X)(z:BH B S:=by omega)(G:B<=34359738368:=by omega):Tot (FQ X) λy=>aB B S (.l Jo) y:=by unfold FQ;exact have:J0 X.1=_/\_:=lF h.1;Jq (τ:=Int×(List Ju)) (λq=>(X.1,X.2,q.1,q.2)) (λq=>(aB 0 0 zI q.1/\0<=q.1/\(q.1<=J0 X.1\/q.1<=0))/\(aB B S (.l Jo) q.2/\J0 q.2<=1*q.1+0)) (λq=>J0 X.1-q.1) (by rintro⟨g,e⟩ n;dsimp only at n;obtain⟨⟨i4,A,F⟩,j,C⟩:=n;unfold x7;(try dsimp only);exact have:=J2.1 i4;.lt (λw=>.bind (Jl h.1) λD x=>.ne (λo=>.bind (Jl h.1) λE v=>have:J0 e<=B:=j.1;have:J0 e=_:=JE j;.bind (bT (B:=B) (Bl:=B) (Bm:=B) (S:=S) (J0 e) 1 j (cF (B:=B) (S:=S) (t:=Jo) oo v.1)) λr k=>have:=Jm g 1;have:J0 r=_:=JE k.1;.some ⟨(J1 .i64 g 1,r),rfl,⟨⟨Je,om,om⟩,k.1,om⟩,om,om⟩) λo=>have:=Jm g 1;have:J0 e=_:=JE j;.some ⟨(J1 .i64 g 1,e),rfl,⟨⟨Je,om,om⟩,j,om⟩,om,om⟩) λw=>.some j) (0,[]) rfl (have:J0 ([]:List Ju)=0:=rfl;⟨⟨aC,om,om⟩,Jc,om⟩)
end Go.Am
end
section
namespace Go.Am
set_option linter.unusedVariables false
set_option maxRecDepth 20000
set_option maxHeartbeats 4000000
theorem LR{B S:Int}{X:(List Ju)×Int×Ju}(h:aB B S (.pr (.l Jo) (.pr zI Jo)) X)(p0:0<=X.2.1)(g:X.2.1<J0 X.1)(e:BS B S 0 0:=by omega)(k:B<=34359738368:=by omega):Tot (pL X) λy=>aB B S (.l Jo) y/\(J0 y=J0 X.1):=by unfold pL;exact have:J0 X.1=_:=JE h.1;.clo h.1 oo (by decide) (.bind (fC (l:=X.1)) λ_ _=>.bind (jF h.1) λn j=>have:J0 (aW X.1 (Int.toNat X.2.1) X.2.2)=J0 X.1:=pJ;.some ⟨(kL (t:=Jo) (i:=Int.toNat X.2.1) (x:=X.2.2) h.1 h.c),om⟩)
theorem VT{B S:Int}{X:Ju}(h:aB B S Jo X)(k:BS B S 0 0:=by omega)(o:B<=9223372036854775807:=by omega):Tot (rN X) λy=>aB B S Jo y:=by unfold rN;exact .eq (λc1=>have:J0 X.2.2.2.2.1<=B:=h.e.1.1;have:=Jh (l:=X.2.2.2.2.1);.eqf (λj=>have:=bC (J0 X.2.2.2.2.1) 1;.bind (Jl h.e.1) λq n=>.le (λg=>.some ⟨h.1,aG 1,h.c.1,aC,h.e⟩) λg=>.some h) λj=>.some ⟨h.1,aG 1,h.c.1,aC,h.e⟩) λc1=>.some h
theorem AA{B S:Int}{X:(List Ju)×J5}(h:aB B S CA X)(au:BG B S:=by omega):Tot (fG X) λy=>aB 16384 1073741824 iZ y:=by unfold fG;exact .bind ((xA h.1).eqn) λy2 h1=>.not (λV=>.some ⟨Jc,aG 15⟩) λV=>have v3:=rV h.1 h1.2 V;have:J0 X.1=_:=JE h.1;have w:aB 4096 0 (.l Jo) X.1:=v3.2;.bind ((xD (B:=0) (S:=S) (X:=X.2) h.2.z).eqn) λy3 h9=>.not (λC=>.some ⟨Jc,aG 12⟩) λC=>have aa:=rU (x:=X.2) h.2.z h9.2 C;have o:aB 0 8192 J8 X.2:=aa.2;.eq (λa6=>.some ⟨w.u,aC⟩) λa6=>.bind (VJ (B:=4096) (S:=0) ⟨w,o.c.1⟩) λF v=>have:=J2.1 v.1;have: -1<=F/\F<J0 X.1:=v.2;.lt (λI=>.some ⟨Jc,aG 16⟩) λI=>.bind (Jl w) λr j=>.ne (λa2=>.some ⟨Jc,aG 13⟩) λa2=>have:=J2.1 o.2.1;.eq (λK=>.clo j.1.e.1 oo (by decide) (have:J0 r.2.2.2.2.1<=4096:=j.1.e.1.1;have:=Jh (l:=r.2.2.2.2.1);.bind (bT (B:=4097) (Bl:=4096) (Bm:=1) (S:=0) (J0 r.2.2.2.2.1) 1 j.1.e.1 (cF (B:=1) (S:=0) (t:=zI) oo o.1)) λy7 af=>.bind (VT (B:=4097) (S:=0) ⟨j.1.1,j.1.2.1,o.1,j.1.d.1,af.1,j.1.g.u⟩) λy8 Z=>have a4:aB 4097 0 Jo y8:=Z.u;.bind (LR (B:=4097) (S:=0) ⟨w.u,v.1,a4⟩ om om) λy9 a8=>have G:aB 4097 0 (.l Jo) y9:=a8.1.u;.some ⟨G.u,aC⟩)) λK=>.eq (λY=>have:J0 r.2.2.2.2.1<=4096:=j.1.e.1.1;have:=Jh (l:=r.2.2.2.2.1);Jq (τ:=NJ) (λq=>(X.1,F,q.1,X.2,(r.1,r.2.1,X.2.1,r.2.2.2),q.2)) (λq=>(aB 0 0 zI q.1/\0<=q.1/\(q.1<=J0 r.2.2.2.2.1\/q.1<=0))/\(aB 4096 0 (.l zI) q.2/\J0 q.2<=1*q.1+0)) (λq=>J0 r.2.2.2.2.1-q.1) (by rintro⟨k,n⟩ D;dsimp only at D;obtain⟨⟨U,am,aq⟩,A,al⟩:=D;unfold wz;(try dsimp only);exact have:=J2.1 U;.lt (λW=>.bind (Jl j.1.e.1) λap ao=>.ne (λab=>.bind (Jl j.1.e.1) λan ac=>have:J0 n<=4096:=A.1;have:=Jh (l:=n);.bind (bT (B:=4096) (Bl:=4096) (Bm:=1) (S:=0) (J0 n) 1 A (cF (B:=1) (S:=0) (t:=zI) oo ac.1)) λO a9=>have:=Jm k 1;.some ⟨(J1 .i64 k 1,O),rfl,⟨⟨Je,om,om⟩,a9.1,om⟩,om,om⟩) λab=>have:=Jm k 1;.some ⟨(J1 .i64 k 1,n),rfl,⟨⟨Je,om,om⟩,A,om⟩,om,om⟩) λW=>.inr (.eq (λL=>.some ⟨Jc,aG 13⟩) λL=>.bind (VT (B:=4096) (S:=0) ⟨j.1.1,j.1.2.1,o.1,j.1.d.1,A,j.1.g⟩) λa3 a0=>have H:aB 4096 0 Jo a3:=a0.u;.bind (LR (B:=4096) (S:=0) ⟨w,v.1,H⟩ om om) λP ae=>have ad:aB 4096 0 (.l Jo) P:=ae.1.u;.some ⟨ad.u,aC⟩)) (0,[]) rfl (have:J0 ([]:List Int)=0:=rfl;⟨⟨aC,om,om⟩,Jc,om⟩)) λY=>.eq (λQ=>.bind (VT (B:=4096) (S:=0) ⟨j.1.1,aG 3,o.1,aC,j.1.e.1,Jc⟩) λa5 a7=>have J:aB 4096 0 Jo a5:=a7.u;.bind (LR (B:=4096) (S:=0) ⟨w,v.1,J⟩ om om) λR M=>have N:aB 4096 0 (.l Jo) R:=M.1.u;.some ⟨N.u,aC⟩) λQ=>have ag:aB 16384 1073741824 iZ (X.1,X.2.2.2.1):=⟨w.u,o.c.1⟩;.bind (i7 ag) λT a1=>have E:aB 16384 1073741824 (.l Jo) T:=a1.u;.some ⟨E,aC⟩
theorem AG{B S:Int}{X:iQ}(h:aB B S sL X)(n:BS B S 0 0:=by omega)(v:B<=9223372036854775807:=by omega):Tot (iG X) λy=>aB 0 0 zI y/\(-1<=y/\y<J0 X.1.2.1):=by unfold iG;exact have:J0 X.1.2.1=_/\_:=lF h.1.2.1;cU (J0 X.1.2.1) (λq=>(X.2,q,X.1)) λj i4 w r=>.lt (λe=>.bind (Jl h.1.2.1) λo k=>.eq (λg=>.some ⟨i4,om⟩) λg=>.some ⟨e,rfl⟩) λe=>.some ⟨(aG (-1)),om⟩
theorem zR{B S:Int}{X:iQ}(h:aB B S sL X)(o:BC B S 0 0:=by omega):Tot (gR X) λy=>aB 0 0 zI y/\(-1<=y/\y<J0 X.1.2.1):=by unfold gR;exact .bind ((xC h.1).eqn) λq h1=>.not (λg=>have:J0 X.1.2.1=_/\_:=lF h.1.2.1;.some ⟨(aG (-1)),om⟩) λg=>have n:=rR h.1 h1.2 g;have j:aB 64 12 JS X.1:=n.2;.bind (AG (B:=64) (S:=12) ⟨j,h.2⟩) λk e=>have: -1<=k/\k<J0 X.1.2.1:=e.2;.some ⟨e.1,om⟩
theorem LP{B S:Int}{X:iQ}(h:aB B S sL X)(k:BC B S 0 0:=by omega):Tot (lJ X) λy=>aB 0 S (.pr Jd .b) y:=by unfold lJ;exact .bind ((zR (B:=B) (S:=S) (X:=(X.1,X.2)) (h)).eqn) λe h1=>have:=J2.1 h1.1.1;have:J0 X.1.2.1=_:=JE h.1.2.1;have: -1<=e/\e<J0 X.1.2.1:=h1.1.2;.lt (λj=>.some ⟨⟨aC,aC,bZ oo oo (.ar 16 Jr)⟩,trivial⟩) λj=>.bind (Jl h.1.2.1) λn g=>.some ⟨g.1.z.1,trivial⟩
theorem MG{B S:Int}{X:cX}(h:aB B S fH X)(A:BG B S:=by omega):Tot (pT X) λy=>aB 0 0 zI y:=by unfold pT;exact .bind ((kM h.1).eqn) λE h1=>.nof (λn=>have z:=lO h.1 h1.2 n;have:J0 X.1.2.2.2.2.2.2.1=_:=JE h.1.h.1;have e:aB 4096 8192 Ja X.1:=z.2;have:=J2.1 h.2;.ltf (λw=>.ge (λv=>.some aC) λv=>.bind (LP (B:=4096) (S:=8192) ⟨e.d.1,h.2⟩) λx r=>have j:aB 0 8192 (.pr Jd .b) x:=r.u;.ite (λg=>.some j.1.2.1) λg=>.bind (VB (B:=4096) (S:=8192) ⟨e,h.2⟩) λD k=>.ite (λq=>.some k.1.c) λq=>.bind (Jl e.h.1) λC o=>.some o.1.1) λw=>.some aC) λn=>.some aC
theorem wI{B S:Int}{X:CU}(h:aB B S HO X)(b1:BG B S:=by omega):Tot (fX X) λy=>aB 16384 1073741824 xJ y/\(y.2.2=0->J0 y.1.2.2.1.2.1=J0 X.1.2.2.1.2.1+1/\J0 X.1.2.2.1.2.1<=4095/\0<=X.2.2.2.2.2.2.2.1.1/\X.2.2.2.2.2.2.2.1.1<64/\0<=X.2.2.2.2.2.2.2.1.2.1/\X.2.2.2.2.2.2.2.1.2.1<16):=by unfold fX;exact .bind ((kM h.1).eqn) λy2 h1=>.not (λc2=>have:J0 X.1.2.2.1.2.1<=B:=h.1.c.1.2.1.1;.some ⟨⟨aP,aC,aG 15⟩,om⟩) λc2=>have v8:=lO h.1 h1.2 c2;have:=Jh (l:=X.1.2.2.1.2.1);have:J0 X.1.2.2.1.2.1=_:=JE h.1.c.1.2.1;have j:aB 4096 8192 Ja X.1:=v8.2;.gt (λao=>.bind ((rJ (B:=4096) (S:=8192) (X:=(X.1.2.2.2.2.2.1,X.2.2.2.1)) ⟨j.g.1,h.2.z.2.2.1⟩).eqn) λy3 K=>have:=J2.1 K.1.1;have:J0 X.1.2.2.2.2.2.1=_:=JE j.g.1;have: -1<=y3/\y3<J0 X.1.2.2.2.2.2.1:=K.1.2;.lt (λap=>have:=J2.1 h.2.z.2.2.2.2.2.2.1.1;.some ⟨⟨aP,aC,aG 16⟩,om⟩) λap=>.bind (Jl j.g.1) λy4 w=>.bind (uH (B:=0) (S:=S) ⟨h.2.z.1,h.2.z.2.1,h.2.z.2.2.1,w.1.c.1,aC,h.2.z.2.2.2.2.2⟩) λy5 b2=>.ite (λag=>have ad:aB 16384 1073741824 fH (X.1,X.2.2.2.2.2.2.2.1.1):=⟨j.u,h.2.z.2.2.2.2.2.2.1.1⟩;.bind (MG ad) λy6 aq=>have a5:aB 16384 S HK (X.1.2.2.1,X.2.1,X.2.2.1,X.2.2.2.1,y4.2.2.1,y6,X.2.2.2.2.2.2):=⟨j.c.1.u,h.2.z.1,h.2.z.2.1,h.2.z.2.2.1,w.1.c.1,aq,h.2.z.2.2.2.2.2.u⟩;.bind (VQ a5) λZ q=>have:J0 Z.1.2.1=_:=JE q.1.1.2.1;have:=J2.1 h.2.z.2.2.2.2.2.2.1.1;have:=J2.1 h.2.z.2.2.2.2.2.2.1.2.1;have:Z.2.2=0->J0 Z.1.2.1=J0 X.1.2.2.1.2.1+1/\J0 X.1.2.2.1.2.1<=4095/\0<=X.2.2.2.2.2.2.2.1.1/\X.2.2.2.2.2.2.2.1.1<64/\0<=X.2.2.2.2.2.2.2.1.2.1/\X.2.2.2.2.2.2.2.1.2.1<16:=q.2;.ne (λa9=>.some ⟨⟨aP,aC,q.1.c⟩,om⟩) λa9=>.bind (tR (B:=4097) (S:=8192) ⟨q.1.1,q.1.2.1⟩) λy8 L=>have a8:aB 16384 1073741824 CA (X.1.2.2.2.2.2.1,y8.1):=⟨j.g.1.u,L.1.u⟩;.bind (AA a8) λy9 N=>.ne (λan=>.some ⟨⟨aP,aC,N.2⟩,om⟩) λan=>have ae:aB 16384 1073741824 BZ (X.1.2.2.2.2.2.2.1,y8.1):=⟨j.h.1.u,L.1.u⟩;.bind (zV ae) λb0 G=>.ne (λak=>.some ⟨⟨aP,aC,G.2⟩,om⟩) λak=>.some ⟨⟨⟨j.1,j.2.1,q.1.1.u,j.d.1.u,j.e.1.u,N.1,G.1.u,j.i.u⟩,q.1.2.1,aC⟩,om⟩) λag=>have a6:aB 16384 S HK (X.1.2.2.1,X.2.1,X.2.2.1,X.2.2.2.1,y4.2.2.1,0,X.2.2.2.2.2.2):=⟨j.c.1.u,h.2.z.1,h.2.z.2.1,h.2.z.2.2.1,w.1.c.1,aC,h.2.z.2.2.2.2.2.u⟩;.bind (VQ a6) λr n=>have:J0 r.1.2.1=_:=JE n.1.1.2.1;have:=J2.1 h.2.z.2.2.2.2.2.2.1.1;have:=J2.1 h.2.z.2.2.2.2.2.2.1.2.1;have:r.2.2=0->J0 r.1.2.1=J0 X.1.2.2.1.2.1+1/\J0 X.1.2.2.1.2.1<=4095/\0<=X.2.2.2.2.2.2.2.1.1/\X.2.2.2.2.2.2.2.1.1<64/\0<=X.2.2.2.2.2.2.2.1.2.1/\X.2.2.2.2.2.2.2.1.2.1<16:=n.2;.ne (λa7=>.some ⟨⟨aP,aC,n.1.c⟩,om⟩) λa7=>.bind (tR (B:=4097) (S:=8192) ⟨n.1.1,n.1.2.1⟩) λF I=>have av:aB 16384 1073741824 CA (X.1.2.2.2.2.2.1,F.1):=⟨j.g.1.u,I.1.u⟩;.bind (AA av) λb8 P=>.ne (λah=>.some ⟨⟨aP,aC,P.2⟩,om⟩) λah=>have ac:aB 16384 1073741824 BZ (X.1.2.2.2.2.2.2.1,F.1):=⟨j.h.1.u,I.1.u⟩;.bind (zV ac) λb4 M=>.ne (λab=>.some ⟨⟨aP,aC,M.2⟩,om⟩) λab=>.some ⟨⟨⟨j.1,j.2.1,n.1.1.u,j.d.1.u,j.e.1.u,P.1,M.1.u,j.i.u⟩,n.1.2.1,aC⟩,om⟩) λao=>.bind (uH (B:=0) (S:=S) ⟨h.2.z.1,h.2.z.2.1,h.2.z.2.2.1,aC,aC,h.2.z.2.2.2.2.2⟩) λb6 b5=>.ite (λai=>have aj:aB 16384 1073741824 fH (X.1,X.2.2.2.2.2.2.2.1.1):=⟨j.u,h.2.z.2.2.2.2.2.2.1.1⟩;.bind (MG aj) λaw am=>have au:aB 16384 S HK (X.1.2.2.1,X.2.1,X.2.2.1,X.2.2.2.1,0,aw,X.2.2.2.2.2.2):=⟨j.c.1.u,h.2.z.1,h.2.z.2.1,h.2.z.2.2.1,aC,am,h.2.z.2.2.2.2.2.u⟩;.bind (VQ au) λA o=>have:J0 A.1.2.1=_:=JE o.1.1.2.1;have:=J2.1 h.2.z.2.2.2.2.2.2.1.1;have:=J2.1 h.2.z.2.2.2.2.2.2.1.2.1;have:A.2.2=0->J0 A.1.2.1=J0 X.1.2.2.1.2.1+1/\J0 X.1.2.2.1.2.1<=4095/\0<=X.2.2.2.2.2.2.2.1.1/\X.2.2.2.2.2.2.2.1.1<64/\0<=X.2.2.2.2.2.2.2.1.2.1/\X.2.2.2.2.2.2.2.1.2.1<16:=o.2;.ne (λaa=>.some ⟨⟨aP,aC,o.1.c⟩,om⟩) λaa=>.bind (tR (B:=4097) (S:=8192) ⟨o.1.1,o.1.2.1⟩) λH E=>have af:aB 16384 1073741824 CA (X.1.2.2.2.2.2.1,H.1):=⟨j.g.1.u,E.1.u⟩;.bind (AA af) λb7 O=>.ne (λal=>.some ⟨⟨aP,aC,O.2⟩,om⟩) λal=>have U:aB 16384 1073741824 BZ (X.1.2.2.2.2.2.2.1,H.1):=⟨j.h.1.u,E.1.u⟩;.bind (zV U) λba Q=>.ne (λR=>.some ⟨⟨aP,aC,Q.2⟩,om⟩) λR=>.some ⟨⟨⟨j.1,j.2.1,o.1.1.u,j.d.1.u,j.e.1.u,O.1,Q.1.u,j.i.u⟩,o.1.2.1,aC⟩,om⟩) λai=>have a1:aB 16384 S HK (X.1.2.2.1,X.2.1,X.2.2.1,X.2.2.2.1,0,0,X.2.2.2.2.2.2):=⟨j.c.1.u,h.2.z.1,h.2.z.2.1,h.2.z.2.2.1,aC,aC,h.2.z.2.2.2.2.2.u⟩;.bind (VQ a1) λC k=>have:J0 C.1.2.1=_:=JE k.1.1.2.1;have:=J2.1 h.2.z.2.2.2.2.2.2.1.1;have:=J2.1 h.2.z.2.2.2.2.2.2.1.2.1;have:C.2.2=0->J0 C.1.2.1=J0 X.1.2.2.1.2.1+1/\J0 X.1.2.2.1.2.1<=4095/\0<=X.2.2.2.2.2.2.2.1.1/\X.2.2.2.2.2.2.2.1.1<64/\0<=X.2.2.2.2.2.2.2.1.2.1/\X.2.2.2.2.2.2.2.1.2.1<16:=k.2;.ne (λV=>.some ⟨⟨aP,aC,k.1.c⟩,om⟩) λV=>.bind (tR (B:=4097) (S:=8192) ⟨k.1.1,k.1.2.1⟩) λJ D=>have W:aB 16384 1073741824 CA (X.1.2.2.2.2.2.1,J.1):=⟨j.g.1.u,D.1.u⟩;.bind (AA W) λb9 x=>.ne (λa0=>.some ⟨⟨aP,aC,x.2⟩,om⟩) λa0=>have Y:aB 16384 1073741824 BZ (X.1.2.2.2.2.2.2.1,J.1):=⟨j.h.1.u,D.1.u⟩;.bind (zV Y) λb3 v=>.ne (λT=>.some ⟨⟨aP,aC,v.2⟩,om⟩) λT=>.some ⟨⟨⟨j.1,j.2.1,k.1.1.u,j.d.1.u,j.e.1.u,x.1,v.1.u,j.i.u⟩,k.1.2.1,aC⟩,om⟩
section
variable {B S:Int}
theorem JD8{l:List Ju}{i:Int}{x y:Ju}(hi:idx l i=some y)(hx:x.1=y.1)(id:Int):gP (aW l i.toNat x,id)=gP (l,id):=by
 have e: ∀z:CB,z.1=l-> ∀n r,cH pR n z=some r↔cH pR n (aW l i.toNat x,z.2)=some r:=by
  intro z C n
  induction n generalizing z with
  |zero=>intro r;simp[cH]
  |succ n ih=>
   intro r;obtain⟨l',id,k⟩:=z;dsimp only at C;subst C;obtain⟨h0,q⟩:=cL hi;have F:i.toNat<l'.length:=(eP.1 q).1;have step:pR (aW l' i.toNat x,id,k)=(match pR (l',id,k)with|none=>none|some (.inl z)=>some (.inl (aW l' i.toNat x,z.2))|some (.inr y)=>some (.inr y))/\(∀z,pR (l',id,k)=some (.inl z)->z.1=l'):=by
    unfold pR;dsimp only;rw[show J0 (aW l' i.toNat x)=J0 l' from pJ];by_cases j:aK k (J0 l')=true;rw[if_pos j,if_pos j];have E:(idx (aW l' i.toNat x) k).bind (λA=>if aH A.1 id=true then(some (.inr k):aI ((CB)⊕Int))else some (.inl (aW l' i.toNat x,id,J1 .i64 k 1)))=(idx l' k).bind (λA=>if aH A.1 id=true then some (.inr k)else some (.inl (aW l' i.toNat x,id,J1 .i64 k 1))):=(by unfold idx aW;by_cases h:0<=k;rw[if_pos h,if_pos h,List.getElem?_set];by_cases B:i.toNat=k.toNat;rw[if_pos B,if_pos oo,<-B,q];show(if aH x.1 id=true then _ else _)=(if aH y.1 id=true then _ else _);rw[hx];rw[if_neg B];rw[if_neg h,if_neg h]);rw[E];cases hidx:idx l' k with
    |none=>exact⟨rfl,λz h=>by cases h⟩
    |some w=>
     show((if aH w.1 id=true then _ else _)=_)/\_;by_cases g:aH w.1 id=true;refine⟨by rw[if_pos g,JQ,if_pos g],λz h=>?_⟩;rw[JQ,if_pos g]at h;injection h with h;cases h;refine⟨by rw[if_neg g,JQ,if_neg g],λz h=>?_⟩;rw[JQ,if_neg g]at h;injection h with h;injection h with h;subst h;rfl
    rw[if_neg j,if_neg j];exact⟨rfl,λz h=>by cases h⟩
   show cH pR (n+1) (l',id,k)=some r↔cH pR (n+1) (aW l' i.toNat x,id,k)=some r;simp only[cH];rw[step.1];cases hL:pR (l',id,k)with
   |none=>exact Iff.rfl
   |some o=>
    cases o with
    |inl z=>exact ih z (step.2 z hL) r
    |inr y=>exact Iff.rfl
 have v: ∀r,kP (aW l i.toNat x,id)=some r↔kP (l,id)=some r:=by intro r;unfold kP;rw[gE,gE];exact⟨fun⟨n,h⟩=>⟨n,(e (l,id,0) rfl n r).2 h⟩,fun⟨n,h⟩=>⟨n,(e (l,id,0) rfl n r).1 h⟩⟩
 have D:kP (aW l i.toNat x,id)=kP (l,id):=by
  cases h:kP (l,id)with
  |some r=>exact(v r).2 h
  |none=>
   cases h2:kP (aW l i.toNat x,id)with
   |none=>rfl
   |some r=>rw[(v r).1 h2]at h;cases h
 unfold gP
 try dsimp only
 rw[D]
theorem S2{x y:Ju}(e:rN x=some y):y.1=x.1:=by
 have g:Par (rN x) λy=>y.1=x.1:=by unfold rN;exact .eq (λ_=>.eqf (λ_=>.bind λ_ _=>.le (λ_=>.some rfl) λ_=>.some rfl) λ_=>.some rfl) λ_=>.some rfl
 exact g _ e
theorem Gd{l r:List Ju}{i:Int}{x:Ju}(e:pL (l,i,x)=some r):r=aW l i.toNat x:=by
 have h:Par (pL (l,i,x)) λr=>r=aW l i.toNat x:=(by unfold pL;refine .bind λa g=>.bind λ_ _=>.bind λ_ _=>.some ?_;dsimp only at g;unfold cZ at g;split at g;injection g with g;subst g;rfl;cases g);exact h _ e
theorem H7{l:List Ju}{x:J5}{y:eA}(e:fG (l,x)=some y)(h4:x.2.1=4)(j: ¬x.2.2.1=0)(c:y.2=0):Has y.1 x.2.2.1:=by
 have h:Par (fG (l,x)) λy=>y.2=0->Has y.1 x.2.2.1:=by
  unfold fG;dsimp only;refine .bind λ_ _=>.not (λ_=>.some nofun) λ_=>.bind λ_ _=>.not (λ_=>.some nofun) λ_=>.eq (λc=>absurd c j) λ_=>.bind λi hi=>.lt (λ_=>.some nofun) λq=>.bind λt g=>.ne (λ_=>.some nofun) λ_=>.eq (λc=>by omega) λ_=>.eq (λc=>by omega) λ_=>.eq (λ_=>.bind λs o=>.bind λr n=>.some λ_=>?_) λc=>absurd h4 c;rw[Gd n];have k:gP (l,x.2.2.1)=some i:=by unfold gP;rw[show kP ((l,x.2.2.1).1,(l,x.2.2.1).2)=some i from hi];rfl
  exact⟨i,(JD8 g (S2 (x:=(t.1,3,x.1,0,t.2.2.2.2.1,[])) o) _).trans k,oo⟩
 exact h _ e c
theorem gp{l:Jt}(e:JB l=some true):1<=l.1/\l.1<=1099511627776/\J0 l.2.1<=4096:=by
 have g:Par (JB l) λy=>y=true->1<=l.1/\l.1<=1099511627776/\J0 l.2.1<=4096:=by unfold JB;exact .ltf (λ_=>.gtf (λ_=>.gtf (λ_=>λ_ _ _=>by omega) λ_=>.some nofun) λ_=>.some nofun) λ_=>.some nofun
 exact g _ e rfl
theorem ie{l:Jt}{x:J5}{y:yI}(e:gF (l,x)=some y)(c:y.2.2=0):JB l=some true/\J0 l.2.1<=4095/\y=((l.1,l.2.1++[(l.1+J0 l.2.1,x.2)],l.2.2),l.1+J0 l.2.1,0)/\Js (l.1+J0 l.2.1,x.2)=some true:=by
 have k:Par (gF (l,x)) λy=>y.2.2=0->JB l=some true/\J0 l.2.1<=4095/\y=((l.1,l.2.1++[(l.1+J0 l.2.1,x.2)],l.2.2),l.1+J0 l.2.1,0)/\Js (l.1+J0 l.2.1,x.2)=some true:=by
  unfold gF;dsimp only;refine .bind λa r=>.not (λ_=>.some nofun) λc1=>.eqf (λF=>.bind λE h3=>.eq (λ_=>.some nofun) λ_=>.bind λn j=>.bind λb o=>.not (λ_=>.some nofun) λD=>.bind λB h=>.bind λv g=>.some λ_=>?_) λ_=>.some nofun;subst c1;subst D;have q:=gp r;have:=Jh (l:=l.2.1);have:=Jm l.1 (J0 l.2.1);have:=bC (J1 .i64 l.1 (J0 l.2.1)) 1;have:=Jm (JJ .i64 (J1 .i64 l.1 (J0 l.2.1)) 1) 1;have C:n=JJ .i64 (J1 .i64 l.1 (J0 l.2.1)) 1:=by unfold iV at j;injection j with j;exact j.symm
  have w:J1 .i64 n 1=l.1+J0 l.2.1:=by rw[C];omega
  rw[w]at o g⊢;have A:B=l.2.1:=(by unfold cZ at h;split at h;injection h with h;exact h.symm;cases h);subst A;have z:v=l.2.1++[(l.1+J0 l.2.1,x.2)]:=(by unfold JO at g;split at g;injection g with g;exact g.symm;cases g);subst z;exact⟨r,oo,rfl,o⟩
 exact k _ e c
theorem tx{l:Jt}{n:Int}{y:yM}(e:eB (l,n)=some y):(y.2=0/\JB l=some true/\l.1<=n/\n<l.1+J0 l.2.1/\l.2.1[(n-l.1).toNat]?=some y.1)\/(y.1.1=0/\ ¬y.2=0):=by
 have g:Par (eB (l,n)) λy=>(y.2=0/\JB l=some true/\l.1<=n/\n<l.1+J0 l.2.1/\l.2.1[(n-l.1).toNat]?=some y.1)\/(y.1.1=0/\ ¬y.2=0):=by
  unfold eB;dsimp only;refine .bind λa h=>.not (λ_=>.some (.inr ⟨rfl,by decide⟩)) λc1=>.ltf (λv=>.bind λk h3=>.gt (λ_=>.some (.inr ⟨rfl,by decide⟩)) λx=>.bind λz o=>.some ?_) λ_=>.some (.inr ⟨rfl,by decide⟩);subst c1;have q:=gp h;have:=Jh (l:=l.2.1);have:=Jm l.1 (J0 l.2.1);have:=bC (J1 .i64 l.1 (J0 l.2.1)) 1;have:=bC n l.1;have w:k=JJ .i64 (J1 .i64 l.1 (J0 l.2.1)) 1:=by unfold iV at h3;injection h3 with h3;exact h3.symm
  obtain⟨r,i1⟩:=cL o;have j:JJ .i64 n l.1=n-l.1:=by omega
  rw[j]at i1;exact .inl ⟨rfl,h,oo,oo,i1⟩
 exact g _ e
theorem v7{x:J5}(e:Js x=some true):1<=x.1/\(x.2.1=4->1<=x.2.2.1):=by
 have j:Par (pO x) λy=>y.2=true->x.2.1=4->1<=x.2.2.1:=by unfold pO;refine .eq (λc _ _ _ _=>by omega) λ_=>.eq (λc _ _ _ _=>by omega) λ_=>.eq (λc _ _ _ _=>by omega) λ_=>.eq (λ_=>.ge (λc _ _ _ _=>c) λ_=>.some nofun) λc _ _ _ d=>absurd d c
 have g:Par (Js x) λy=>y=true->1<=x.1/\(x.2.1=4->1<=x.2.2.1):=by unfold Js;exact .bind λa k=>.ite (λc1=>.ite (λ_=>.ge (λh _ _ _=>⟨h,j _ k c1⟩) λ_=>.some nofun) λ_=>.some nofun) λ_=>.some nofun
 exact g _ e rfl
theorem V4{l:List Ju}{x:J5}{y:eA}(e:fG (l,x)=some y)(c:y.2=0):Js x=some true:=by
 have g:Par (fG (l,x)) λy=>y.2=0->Js x=some true:=by unfold fG;dsimp only;refine .bind λ_ _=>.not (λ_=>.some nofun) λ_=>.bind λa h=>.not (λ_=>.some nofun) λc=>?_;subst c;exact λ_ _ _=>h
 exact g _ e c
theorem D0{l:Jt}{x:J5}{e:yI}{h:yM}{k:List Ju}{j:eA}(w:gF (l,x)=some e)(r:e.2.2=0)(q:eB (e.1,e.2.1)=some h)(o:fG (k,h.1)=some j)(n:j.2=0):h.1=(l.1+J0 l.2.1,x.2):=by
 obtain⟨A,B,y,z⟩:=ie w r;subst y;have v:=v7 (V4 o n);rcases tx q with⟨_,_,_,_,g⟩|⟨g,_⟩;dsimp only at g;rw[show(l.1+J0 l.2.1-l.1).toNat=l.2.1.length by unfold J0;omega,oB (zQ0 _)]at g;simp at g;exact g.symm;omega
theorem ub{x:CU}{y:gU}(h:aB B S HO x)(e:fX x=some y)(c:y.2.2=0)(h4:x.2.2.1=4:=by rfl):Has y.1.2.2.2.2.2.1 x.2.2.2.1:=by
 have I:Par (fX x) λy=>y.2.2=0->Has y.1.2.2.2.2.2.1 x.2.2.2.1:=by
  obtain⟨k,n,L,H,Q,O,r⟩:=x;dsimp only at h4;subst h4;unfold fX;dsimp only;have E: ∀{a b:Int} {g:yI} {C:yM} {o:eA},gF (k.2.2.1,(n,4,H,a,b,r))=some g->g.2.2=0->eB (g.1,g.2.1)=some C->fG (k.2.2.2.2.2.1,C.1)=some o->o.2=0->Has o.1 H:=fun{a b g C o} A z F D q=>by have G:=D0 A z F D q;have v:=v7 (ie A z).2.2.2;have v2:=v.2 rfl;have w:=H7 D (by rw[G]) (by rw[G];show¬H=0;dsimp only at v2;omega) q;rw[G]at w;exact w
  refine .bind λ_ _=>.not (λ_=>.some nofun) λ_=>.gt (λ_=>.bind λj R=>.lt (λ_=>.some nofun) λ_=>.bind λt P=>.bind λJ _=>.ite (λ_=>.bind λK _=>?_) λ_=>?_) λ_=>.bind λJ _=>.ite (λ_=>.bind λK _=>?_) λ_=>?_
  all_goals
   refine .bind λg A=>.ne (λc=>.some λd=>absurd d c) λz=>.bind λC F=>.bind λo D=>.ne (λc=>.some λd=>absurd d c) λq=>.bind λM _=>.ne (λc=>.some λd=>absurd d c) λN=>.some λ_=>E A z F D q
 exact I _ e c
end
theorem cT{B S:Int}{X:mS}(h:aB B S JF X)(E:BS B S 0 0:=by omega)(G:S<=4611686018427387895:=by omega):Tot (JT X) λy=>aB 0 (S+8) .s y/\(J0 y<=J0 X.1+8/\(1<=X.2.2->X.2.2<=8->J0 y=J0 X.1+X.2.2)):=by unfold JT;exact have s0:aB 0 S JF X:=h;have:=J2.1 s0.2.2;.ltf (λc1=>.gt (λx=>have:J0 X.1<=S:=s0.1;.some ⟨(s0.1.u),om⟩) λx=>Jq (τ:=eU) (λq=>(q.1,X.2.1,X.2.2,q.2)) (λq=>aB 0 (S+8) .s q.1/\aB 0 0 zI q.2/\(0<=q.2)/\(q.2<=X.2.2)/\(J0 q.1=J0 X.1+q.2)) (λq=>X.2.2-q.2) (by rintro⟨n,e⟩ j;dsimp only at j;obtain⟨r,w,F,H,A⟩:=j;unfold ir;(try dsimp only);exact have:=J2.1 w;have:J0 n<=(S+8):=r;have:J0 X.1<=S:=s0.1;have:=Jh (l:=X.1);.lt (λv=>have:=cvu .u64 (cV .i64 8 e);.bind (yO (B:=0) (S:=0) (sX) oo) λk C=>have:J0 (toStr [bS .u8 k])=J0 [bS .u8 k]:=zF;have:J0 [bS .u8 k]=1:=rfl;.bind (gJ) λg z=>have D:aB 0 (S+9) .s g:=(by omega:J0 g<=(S+9));have o:aB 0 (S+8) .s g:=(by omega:J0 g<=(S+8));have:=Jm e 1;.some ⟨(g,J1 .i64 e 1),rfl,⟨o,Je,om,om,om⟩,om,om⟩) λv=>.some ⟨r,om⟩) (X.1,0) rfl (have:J0 X.1<=S:=s0.1;⟨s0.1.u,aC,om,om,om⟩)) λc1=>have:J0 X.1<=S:=s0.1;.some ⟨(s0.1.u),om⟩
theorem Uo{B S:Int}{X:List aA}(h:aB B S (.l Jf) X)(W:BC B S 0 0:=by omega):Tot (AK X) λy=>aB 0 1544 kQ y:=by unfold AK;exact .bind ((FV h).eqn) λy2 h1=>.not (λJ=>.some ⟨J9,aG 28⟩) λJ=>have R:=AT h h1.2 J;have:J0 X=_:=JE h;have v:aB 64 0 (.l Jf) X:=R.2;.bind (cT (B:=0) (S:=0) ⟨J9,jR v.1 oo,aG 2⟩) λr Q=>have A:aB 0 8 .s r:=Q.1.u;have:=sF (z:=r) A;Jq (τ:=eU) (λq=>(q.1,q.2,X)) (λq=>(aB 0 0 zI q.2/\0<=q.2/\(q.2<=J0 X\/q.2<=0))/\(aB 0 1544 .s q.1/\J0 q.1<=24*q.2+J0 r)) (λq=>J0 X-q.2) (by rintro⟨k,o⟩ x;dsimp only at x;obtain⟨⟨F,V,U⟩,n,T⟩:=x;unfold na;(try dsimp only);exact have:=J2.1 F;.lt (λL=>.bind (Jl v) λZ I=>.bind (cT (B:=0) (S:=1544) ⟨n,I.1.1,aG 8⟩) λj w=>have P:aB 0 1552 .s j:=w.1.u;have:=sF (z:=j) P;have:=sF (z:=k) n;have:J0 j<=J0 k+8/\(1<=(8:Int)->(8:Int)<=8->J0 j=J0 k+(8:Int)):=w.2;have K:aB 0 1544 .s j:=(by omega:J0 j<=1544);.bind (Jl v) λY H=>.bind (cT (B:=0) (S:=1544) ⟨K,H.1.2.1,aG 8⟩) λg C=>have G:aB 0 1552 .s g:=C.1.u;have:=sF (z:=g) G;have:J0 g<=J0 j+8/\(1<=(8:Int)->(8:Int)<=8->J0 g=J0 j+(8:Int)):=C.2;have E:aB 0 1544 .s g:=(by omega:J0 g<=1544);.bind (Jl v) λy9 O=>.bind (cT (B:=0) (S:=1544) ⟨E,O.1.c,aG 8⟩) λe D=>have M:aB 0 1552 .s e:=D.1.u;have:=sF (z:=e) M;have:J0 e<=J0 g+8/\(1<=(8:Int)->(8:Int)<=8->J0 e=J0 g+(8:Int)):=D.2;have N:aB 0 1544 .s e:=(by omega:J0 e<=1544);have:=Jm o 1;.some ⟨(e,J1 .i64 o 1),rfl,⟨⟨Je,om,om⟩,N,om⟩,om,om⟩) λL=>.some ⟨n,aC⟩) (r,0) rfl ⟨⟨aC,om,om⟩,A.u,om⟩
theorem xd{B S:Int}{X:(List UInt8)×(List Int)}(h:aB B S (.pr .s (.l zI)) X)(x:BS B S 0 0:=by omega)(F:B<=288230376151711743:=by omega)(E:S<=2305843009213693947:=by omega):Tot (MV X) λy=>aB 0 (8*B+S) .s y/\(J0 y<=J0 X.1+8*J0 X.2):=by unfold MV;exact have:J0 X.2<=B:=h.2.1;have:=Jh (l:=X.2);have:J0 X.1<=S:=h.1.z;Jq (τ:=eU) (λq=>(q.1,X.2,q.2)) (λq=>(aB 0 0 zI q.2/\0<=q.2/\(q.2<=J0 X.2\/q.2<=0))/\(aB 0 (8*B+S) .s q.1/\J0 q.1<=8*q.2+J0 X.1)) (λq=>J0 X.2-q.2) (by rintro⟨g,j⟩ n;dsimp only at n;obtain⟨⟨i4,C,A⟩,i3,G⟩:=n;unfold yv;(try dsimp only);exact have:=J2.1 i4;.lt (λw=>.bind (Jl h.2) λD r=>.bind (cT (B:=0) (S:=(8*B+S)) ⟨i3,r.1,aG 8⟩) λe k=>have o:aB 0 (8*B+S+8) .s e:=k.1.u;have:J0 e<=(8*B+S+8):=o;have:J0 e<=J0 g+8/\(1<=(8:Int)->(8:Int)<=8->J0 e=J0 g+(8:Int)):=k.2;have v:aB 0 (8*B+S) .s e:=(by omega:J0 e<=(8*B+S));have:=Jm j 1;.some ⟨(e,J1 .i64 j 1),rfl,⟨⟨Je,om,om⟩,v,om⟩,om,om⟩) λw=>have:J0 g<=(8*B+S):=i3;.some ⟨i3,om⟩) (X.1,0) rfl ⟨⟨aC,om,om⟩,h.1.z.u,om⟩
theorem T0{B S:Int}{X:List Ju}(h:aB B S (.l Jo) X)(ai:BC B S 0 0:=by omega):Tot (VN X) λy=>aB 0 268632072 kQ y:=by unfold VN;exact .bind ((xA h).eqn) λy2 h1=>.not (λZ=>.some ⟨J9,aG 15⟩) λZ=>have v3:=rV h h1.2 Z;have:=Jh (l:=X);have:J0 X=_:=JE h;have h8:aB 4096 0 (.l Jo) X:=v3.2;.bind (cT (B:=0) (S:=0) ⟨J9,jR h8.1 oo,aG 2⟩) λG h9=>have K:aB 0 8 .s G:=h9.1.u;have:=sF (z:=G) K;Jq (τ:=eU) (λq=>(X,q.1,q.2)) (λq=>(aB 0 0 zI q.2/\0<=q.2/\(q.2<=J0 X\/q.2<=0))/\(aB 0 268632072 .s q.1/\J0 q.1<=65584*q.2+J0 G)) (λq=>J0 X-q.2) (by rintro⟨C,E⟩ N;dsimp only at N;obtain⟨⟨U,ah,ag⟩,F,af⟩:=N;unfold ym;(try dsimp only);exact have:=J2.1 U;.lt (λa3=>.bind (Jl h8) λD j=>.bind (cT (B:=0) (S:=268632072) ⟨F,j.1.1,aG 4⟩) λx I=>have ac:aB 0 268632080 .s x:=I.1.u;have:=sF (z:=x) ac;have:=sF (z:=C) F;have:J0 x<=J0 C+8/\(1<=(4:Int)->(4:Int)<=8->J0 x=J0 C+(4:Int)):=I.2;have a0:aB 0 268632072 .s x:=(by omega:J0 x<=268632072);.bind (cT (B:=0) (S:=268632072) ⟨a0,j.1.2.1,aG 1⟩) λv L=>have a8:aB 0 268632080 .s v:=L.1.u;have:=sF (z:=v) a8;have:J0 v<=J0 x+8/\(1<=(1:Int)->(1:Int)<=8->J0 v=J0 x+(1:Int)):=L.2;have R:aB 0 268632072 .s v:=(by omega:J0 v<=268632072);.bind (cT (B:=0) (S:=268632072) ⟨R,j.1.c.1,aG 8⟩) λw H=>have a9:aB 0 268632080 .s w:=H.1.u;have:=sF (z:=w) a9;have:J0 w<=J0 v+8/\(1<=(8:Int)->(8:Int)<=8->J0 w=J0 v+(8:Int)):=H.2;have a7:aB 0 268632072 .s w:=(by omega:J0 w<=268632072);.bind (cT (B:=0) (S:=268632072) ⟨a7,j.1.d.1,aG 8⟩) λA M=>have a5:aB 0 268632080 .s A:=M.1.u;have:=sF (z:=A) a5;have:J0 A<=J0 w+8/\(1<=(8:Int)->(8:Int)<=8->J0 A=J0 w+(8:Int)):=M.2;have a6:aB 0 268632072 .s A:=(by omega:J0 A<=268632072);.bind (cT (B:=0) (S:=268632072) ⟨a6,jR j.1.e.1.1 oo,aG 2⟩) λk J=>have aa:aB 0 268632080 .s k:=J.1.u;have:=sF (z:=k) aa;have:J0 k<=J0 A+8/\(1<=(2:Int)->(2:Int)<=8->J0 k=J0 A+(2:Int)):=J.2;have a4:aB 0 268632072 .s k:=(by omega:J0 k<=268632072);.bind (xd (B:=4096) (S:=268632072) ⟨a4.u,j.1.e.1.u⟩) λo Q=>have a1:aB 0 268664840 .s o:=Q.1.u;have:=sF (z:=o) a1;have:J0 D.2.2.2.2.1<=4096:=j.1.e.1.1;have:=Jh (l:=D.2.2.2.2.1);have:J0 o<=J0 k+8*J0 D.2.2.2.2.1:=Q.2;have V:aB 0 268632072 .s o:=(by omega:J0 o<=268632072);.bind (cT (B:=0) (S:=268632072) ⟨V,jR j.1.g.1 oo,aG 1⟩) λn P=>have Y:aB 0 268632080 .s n:=P.1.u;have:=sF (z:=n) Y;have:J0 n<=J0 o+8/\(1<=(1:Int)->(1:Int)<=8->J0 n=J0 o+(1:Int)):=P.2;have W:aB 0 268632072 .s n:=(by omega:J0 n<=268632072);.bind (xd (B:=4096) (S:=268632072) ⟨W.u,j.1.g.u⟩) λr O=>have ab:aB 0 268664840 .s r:=O.1.u;have:=sF (z:=r) ab;have:J0 D.2.2.2.2.2<=4096:=j.1.g.1;have:=Jh (l:=D.2.2.2.2.2);have:J0 r<=J0 n+8*J0 D.2.2.2.2.2:=O.2;have T:aB 0 268632072 .s r:=(by omega:J0 r<=268632072);have:=Jm E 1;.some ⟨(r,J1 .i64 E 1),rfl,⟨⟨Je,om,om⟩,T,om⟩,om,om⟩) λa3=>.some ⟨F,aC⟩) (G,0) rfl ⟨⟨aC,om,om⟩,K.u,om⟩
theorem vd{B S:Int}{X:jY}(h:aB B S mJ X)(L:BG B S:=by omega):Tot (nW X) λy=>aB 0 0 .b y:=by unfold nW;exact .ltf (λc1=>.gtf (λE=>have:=J2.1 h.2.1;.ltf (λC=>.gtf (λA=>.bind ((xA h.c.1).eqn) λP x=>.nof (λo=>have D:=rV h.c.1 x.2 o;have:=Jh (l:=X.2.2.1);have:J0 X.2.2.1=_:=JE h.c.1;have k:aB 4096 0 (.l Jo) X.2.2.1:=D.2;.bind (yw (B:=B) (S:=S) ⟨h.d.1,h.1⟩) λM G=>.nof (λw=>.bind ((FV h.e).eqn) λO v=>.nof (λj=>have I:=AT h.e v.2 j;.ne (λn=>.some trivial) λn=>cU (J0 X.2.2.1) (λq=>(q,X)) λz H F J=>by unfold yd;dsimp only;exact .lt (λg=>.bind (Jl k) λN K=>.ge (λr=>.some trivial) λr=>.some ⟨g,rfl⟩) λg=>.some trivial) λj=>.some trivial) λw=>.some trivial) λo=>.some trivial) λA=>.some trivial) λC=>.some trivial) λE=>.some trivial) λc1=>.some trivial
theorem Sz{B S:Int}{X:jY}(h:aB B S mJ X)(ah:BH B S:=by omega)(hB:B<=192153584089948094:=by omega):Tot (AO X) λy=>aB 0 (24*B+268633648) kQ y:=by unfold AO;exact .bind (vd h) λy2 h1=>.not (λc2=>.some ⟨J9,aG 24⟩) λc2=>.bind (T0 h.c.1) λL h3=>.bind (cT (B:=0) (S:=0) ⟨J9,h.1,aG 2⟩) λy4 h4=>have h5:aB 0 8 .s y4:=h4.1.u;.bind (cT (B:=0) (S:=8) ⟨h5,h.2.1,aG 4⟩) λy5 h9=>have M:aB 0 16 .s y5:=h9.1.u;.bind (cT (B:=0) (S:=16) ⟨M,jR h3.1 oo,aG 4⟩) λP J=>have N:aB 0 24 .s P:=J.1.u;have:=sF (z:=P) N;have:J0 L.1<=268632072:=h3.1;have:=Jh (l:=L.1);.bind (gJ) λG a9=>have H:aB 0 268632096 .s G:=(by omega:J0 G<=268632096);.bind (cT (B:=0) (S:=268632096) ⟨H,jR h.d.1.1 oo,aG 1⟩) λr R=>have v:aB 0 268632104 .s r:=R.1.u;have:=sF (z:=r) v;have:J0 X.2.2.2.1=_/\_:=lF h.d.1;Jq (τ:=eU) (λq=>(q.1,q.2,X)) (λq=>(aB 0 0 zI q.2/\0<=q.2/\(q.2<=J0 X.2.2.2.1\/q.2<=0))/\(aB 0 (24*B+268632104) .s q.1/\J0 q.1<=24*q.2+J0 r)) (λq=>J0 X.2.2.2.1-q.2) (by rintro⟨n,o⟩ D;dsimp only at D;obtain⟨⟨a2,ad,ab⟩,w,ac⟩:=D;unfold m9;(try dsimp only);exact have:=J2.1 a2;.lt (λa0=>.bind (Jl h.d.1) λaa U=>.bind (cT (B:=0) (S:=(24*B+268632104)) ⟨w,U.1.1,aG 1⟩) λj A=>have T:aB 0 (24*B+268632112) .s j:=A.1.u;have:J0 j<=(24*B+268632112):=T;have:J0 j<=J0 n+8/\(1<=(1:Int)->(1:Int)<=8->J0 j=J0 n+(1:Int)):=A.2;have Y:aB 0 (24*B+268632104) .s j:=(by omega:J0 j<=(24*B+268632104));.bind (Jl h.d.1) λaf W=>.bind (cT (B:=0) (S:=(24*B+268632104)) ⟨Y,W.1.2.1,aG 8⟩) λg C=>have a1:aB 0 (24*B+268632112) .s g:=C.1.u;have:J0 g<=(24*B+268632112):=a1;have:J0 g<=J0 j+8/\(1<=(8:Int)->(8:Int)<=8->J0 g=J0 j+(8:Int)):=C.2;have Q:aB 0 (24*B+268632104) .s g:=(by omega:J0 g<=(24*B+268632104));.bind (Jl h.d.1) λae I=>.bind (cT (B:=0) (S:=(24*B+268632104)) ⟨Q,I.1.c,aG 8⟩) λk F=>have K:aB 0 (24*B+268632112) .s k:=F.1.u;have:J0 k<=(24*B+268632112):=K;have:J0 k<=J0 g+8/\(1<=(8:Int)->(8:Int)<=8->J0 k=J0 g+(8:Int)):=F.2;have O:aB 0 (24*B+268632104) .s k:=(by omega:J0 k<=(24*B+268632104));have:=Jm o 1;.some ⟨(k,J1 .i64 o 1),rfl,⟨⟨Je,om,om⟩,O,om⟩,om,om⟩) λa0=>.inr (.bind (Uo h.e) λE Z=>have:=sF (z:=n) w;have:J0 E.1<=1544:=Z.1;have:=Jh (l:=E.1);.bind (gJ) λx ag=>have V:aB 0 (24*B+268633648) .s x:=(by omega:J0 x<=(24*B+268633648));.some ⟨V,aC⟩)) (r,0) rfl ⟨⟨aC,om,om⟩,v.u,om⟩
theorem wg{B S:Int}{X:JK}(h:aB B S JS X)(M:BC B S 0 0:=by omega):Tot (tT X) λy=>aB 64 0 (.l Jf) y:=by unfold tT;exact .bind ((xC h).eqn) λQ h1=>.not (λA=>.some Jc) λA=>have H:=rR h h1.2 A;have:J0 X.2.1=_:=JE h.2.1;have k:aB 64 12 JS X:=H.2;Jq (τ:=vF) (λq=>(q.1,X,q.2)) (λq=>(aB 0 0 zI q.1/\0<=q.1/\(q.1<=64\/q.1<=0))/\(aB 64 0 (.l Jf) q.2/\J0 q.2<=1*q.1+0)) (λq=>64-q.1) (by rintro⟨g,e⟩ o;dsimp only at o;obtain⟨⟨n,K,J⟩,j,L⟩:=o;unfold je;(try dsimp only);exact have:=J2.1 n;.lt (λw=>.bind (AG (B:=64) (S:=12) ⟨k,n⟩) λE G=>have: -1<=E/\E<J0 X.2.1:=G.2;.ge (λF=>.bind (Jl k.2.1) λO I=>.ite (λD=>.bind (Jl k.2.1) λP C=>.bind (Jl k.2.1) λN v=>have:J0 e=_/\_:=lF j;.bind (bT (B:=64) (Bl:=64) (Bm:=1) (S:=0) (J0 e) 1 j (cF (B:=1) (S:=0) (t:=Jf) oo ⟨n,C.1.z.2.2.1,v.1.z.1.2.1⟩)) λx r=>have:=Jm g 1;have:J0 x=_:=JE r.1;.some ⟨(J1 .i64 g 1,x),rfl,⟨⟨Je,om,om⟩,r.1,om⟩,om,om⟩) λD=>have:=Jm g 1;have:J0 e=_:=JE j;.some ⟨(J1 .i64 g 1,e),rfl,⟨⟨Je,om,om⟩,j,om⟩,om,om⟩) λF=>have:=Jm g 1;have:J0 e=_:=JE j;.some ⟨(J1 .i64 g 1,e),rfl,⟨⟨Je,om,om⟩,j,om⟩,om,om⟩) λw=>.some j) (0,[]) rfl (have:J0 ([]:List aA)=0:=rfl;⟨⟨aC,om,om⟩,Jc,om⟩)
theorem JBM{B S:Int}{X:J7}(h:aB B S Ja X)(ad:BG B S:=by omega):Tot (zH X) λy=>aB 4160 8192 (.pr mJ zI) y:=by unfold zH;exact .bind ((kM h).eqn) λy2 h1=>.not (λY=>.some ⟨aP,aG 15⟩) λY=>have v3:=lO h h1.2 Y;have:J0 X.2.2.2.2.2.2.1=_:=JE h.h.1;have o:aB 4096 8192 Ja X:=v3.2;Jq (τ:=vF) (λq=>(q.1,X,[],0,0,[],[],q.2,[],X.1,X.2.1,X.2.2.2.2.2.1,X.2.2.2.2.2.2.1)) (λq=>(aB 0 0 zI q.1/\0<=q.1/\(q.1<=X.1\/q.1<=0))/\(aB 4160 0 (.l Jf) q.2/\J0 q.2<=65*q.1+0)) (λq=>X.1-q.1) (by rintro⟨k,r⟩ D;dsimp only at D;obtain⟨⟨J,a5,aa⟩,A,a4⟩:=D;unfold g5;(try dsimp only);exact have:=J2.1 J;.lt (λQ=>.bind (VB (B:=4096) (S:=8192) ⟨o,J⟩) λy4 V=>.ite (λO=>have:J0 r=_/\_:=lF A;.bind (bT (B:=4160) (Bl:=4160) (Bm:=1) (S:=0) (J0 r) 1 A (cF (B:=1) (S:=0) (t:=Jf) oo V.1)) λN I=>.bind (wg o.d.1) λC G=>have:J0 C=_/\_:=lF G;have:J0 N=_:=JE I.1;Jq (τ:=vF) (λq=>(k,C,J0 C,q.1,X,[],0,0,[],[],q.2,[],X.1,X.2.1,X.2.2.2.2.2.1,X.2.2.2.2.2.2.1)) (λq=>(aB 0 0 zI q.1/\0<=q.1/\(q.1<=J0 C\/q.1<=0))/\(aB 4160 0 (.l Jf) q.2/\J0 q.2<=1*q.1+J0 N)) (λq=>J0 C-q.1) (by rintro⟨x,j⟩ L;dsimp only at L;obtain⟨⟨W,a8,a6⟩,w,ab⟩:=L;unfold MB;(try dsimp only);exact have:=J2.1 W;.lt (λR=>.bind (Jl G) λy8 a1=>.eq (λZ=>have:J0 j=_/\_:=lF w;.bind (bT (B:=4160) (Bl:=4160) (Bm:=1) (S:=0) (J0 j) 1 w (cF (B:=1) (S:=0) (t:=Jf) oo a1.1)) λy9 M=>have:=Jm x 1;have:J0 y9=_:=JE M.1;.some ⟨(J1 .i64 x 1,y9),rfl,⟨⟨Je,om,om⟩,M.1,om⟩,om,om⟩) λZ=>have:=Jm x 1;have:J0 j=_:=JE w;.some ⟨(J1 .i64 x 1,j),rfl,⟨⟨Je,om,om⟩,w,om⟩,om,om⟩) λR=>have:=Jm k 1;have:J0 j=_:=JE w;.some ⟨(J1 .i64 k 1,j),rfl,⟨⟨Je,om,om⟩,w,om⟩,om,om⟩) (0,N) rfl ⟨⟨aC,om,om⟩,I.1,om⟩) λO=>.bind (wg o.d.1) λz F=>have:J0 z=_/\_:=lF F;have:J0 r=_:=JE A;Jq (τ:=vF) (λq=>(k,z,J0 z,q.1,X,[],0,0,[],[],q.2,[],X.1,X.2.1,X.2.2.2.2.2.1,X.2.2.2.2.2.2.1)) (λq=>(aB 0 0 zI q.1/\0<=q.1/\(q.1<=J0 z\/q.1<=0))/\(aB 4160 0 (.l Jf) q.2/\J0 q.2<=1*q.1+J0 r)) (λq=>J0 z-q.1) (by rintro⟨n,e⟩ E;dsimp only at E;obtain⟨⟨a2,ae,a9⟩,v,ac⟩:=E;unfold gy;(try dsimp only);exact have:=J2.1 a2;.lt (λP=>.bind (Jl F) λa7 U=>.eq (λT=>have:J0 e=_/\_:=lF v;.bind (bT (B:=4160) (Bl:=4160) (Bm:=1) (S:=0) (J0 e) 1 v (cF (B:=1) (S:=0) (t:=Jf) oo U.1)) λH K=>have:=Jm n 1;have:J0 H=_:=JE K.1;.some ⟨(J1 .i64 n 1,H),rfl,⟨⟨Je,om,om⟩,K.1,om⟩,om,om⟩) λT=>have:=Jm n 1;have:J0 e=_:=JE v;.some ⟨(J1 .i64 n 1,e),rfl,⟨⟨Je,om,om⟩,v,om⟩,om,om⟩) λP=>have:=Jm k 1;have:J0 e=_:=JE v;.some ⟨(J1 .i64 k 1,e),rfl,⟨⟨Je,om,om⟩,v,om⟩,om,om⟩) (0,r) rfl ⟨⟨aC,om,om⟩,A,om⟩) λQ=>.some ⟨⟨o.1,o.2.1,o.g.1.u,A.u,o.h.1.u⟩,aC⟩) (0,[]) rfl (have:J0 ([]:List aA)=0:=rfl;⟨⟨aC,om,om⟩,Jc,om⟩)
theorem Mk{B S:Int}{X:J7}(h:aB B S Ja X)(x:BG B S:=by omega):Tot (zZ X) λy=>aB 16384 1073741824 xJ y:=by unfold zZ;exact .bind (JBM h) λr h1=>.ne (λo=>.some ⟨aP,aC,h1.2⟩) λo=>have w:aB 16384 1073741824 mJ r.1:=h1.1.u;.bind (Sz w) λg v=>have q:aB 0 269026864 kQ g:=v.u;.gt (λn=>.some ⟨aP,aC,aG 21⟩) λn=>.bind ((wI (B:=B) (S:=S) (X:=(X,0,6,0,0,0,0,(0,0,(false,[]),false,[]),g.1)) ⟨h,aC,aG 6,aC,aC,aC,aC,⟨aC,aC,⟨trivial,J9⟩,trivial,J9⟩,q.1.u⟩).eqn) λA e=>.ne (λk=>.some ⟨aP,aC,e.1.1.c⟩) λk=>.bind (UZ (B:=16384) (S:=1073741824) ⟨e.1.1.1.c.1,e.1.1.2.1⟩) λz j=>.some ⟨⟨e.1.1.1.1,e.1.1.1.2.1,j.1.1.u,e.1.1.1.d⟩,e.1.1.2.1,aC⟩
theorem X4{B S:Int}{X:Jz}(h:aB B S Jn X)(g:BG B S:=by omega):Tot (BP X) λy=>aB B S TI y:=by unfold BP;exact .bind (Mk h.1) λj h1=>.ne (λe=>.some ⟨⟨aP,Jc,aC,Jc,trivial,Jc⟩,aC,h1.c⟩) λe=>.some ⟨⟨h1.1.u,h.2⟩,h1.2.1,aC⟩
theorem UX{B S:Int}{X:cX}(h:aB B S fH X)(j:BG B S:=by omega):Tot (lP X) λy=>aB B S Ja y/\(J0 y.2.2.1.2.1=J0 X.1.2.2.1.2.1):=by unfold lP;exact .bind (LW h.1.c.1) λk h1=>.bind (UZ (B:=B) (S:=S) ⟨h.1.c.1,Ej h.2 h1⟩) λe h2=>have:J0 e.1.2.1=_:=JE h2.1.1.2.1;have:J0 X.1.2.2.1.2.1=_:=JE h.1.c.1.2.1;have:e.2=0->J0 e.1.2.1=J0 X.1.2.2.1.2.1:=h2.2;.eq (λg=>.some ⟨⟨h.1.1,h.1.2.1,h2.1.1.u,h.1.d⟩,om⟩) λg=>.some ⟨h.1,om⟩
theorem Nb{B S:Int}{X:cX}(h:aB B S fH X)(z:BG B S:=by omega):Tot (rP X) λy=>aB 16384 1073741824 (.pr Ja sC) y/\(y.2.2=0->J0 y.1.2.2.1.2.1=J0 X.1.2.2.1.2.1):=by unfold rP;exact .bind ((kM h.1).eqn) λA h1=>.not (λv=>have:J0 X.1.2.2.1.2.1<=B:=h.1.c.1.2.1.1;.some ⟨⟨aP,⟨aC,aC,bZ oo oo (.ar 16 Jr)⟩,aG 15⟩,om⟩) λv=>have x:=lO h.1 h1.2 v;have:J0 X.1.2.2.1.2.1=_:=JE h.1.c.1.2.1;have k:aB 4096 8192 Ja X.1:=x.2;.bind (LP (B:=4096) (S:=8192) ⟨k.d.1,h.2⟩) λq w=>have e:aB 0 8192 (.pr Jd .b) q:=w.u;.not (λo=>.some ⟨⟨aP,⟨aC,aC,bZ oo oo (.ar 16 Jr)⟩,aG 18⟩,om⟩) λo=>have r:aB 16384 1073741824 fH (X.1,q.1.2.1):=⟨k.u,e.1.2.1⟩;.bind (UX r) λn g=>have j:aB 16384 1073741824 Ja n:=g.1.u;have:J0 n.2.2.1.2.1=_:=JE j.c.1.2.1;have:J0 n.2.2.1.2.1=J0 X.1.2.2.1.2.1:=g.2;.some ⟨⟨j,e.1.u,aC⟩,om⟩
section
variable {B S:Int}
theorem JBi{x:cX}{y:jl}(h:aB B S fH x)(e:rP x=some y)(c:y.2.2=0):InP x.1.2.2.2.1 x.2:=by
 have g:Par (rP x) λy=>y.2.2=0->InP x.1.2.2.2.1 x.2:=by unfold rP;refine .bind λa n=>.not (λ_=>.some nofun) λ_=>.bind λb j=>.not (λ_=>.some nofun) λc=>.bind λd k=>.some λ_=>(gm j).1 c
 exact g _ e c
end
theorem RU{B S:Int}{X:List UInt8}(h:aB B S .s X)(J:BS B S 0 0:=by omega)(N:S<=9223372036854775807:=by omega):Tot (pK X) λy=>aB 0 0 (.i .u32) y:=by unfold pK;exact have:=sF (z:=X) h.z;Jq (τ:=Int×Int) (λq=>(X,q.1,q.2)) (λq=>(aB 0 0 zI q.2/\0<=q.2/\(q.2<=J0 X\/q.2<=0))/\aB 0 0 (.i .u32) q.1) (λq=>J0 X-q.2) (by rintro⟨r,g⟩ o;dsimp only at o;obtain⟨⟨i4,M,L⟩,i3⟩:=o;unfold ib;(try dsimp only);exact have:=J2.1 i4;.lt (λC=>.bind (NP (l:=X)) λD H=>Jq (τ:=Int×Int) (λq=>(X,q.1,g,q.2)) (λq=>(aB 0 0 zI q.2/\0<=q.2/\(q.2<=8\/q.2<=0))/\aB 0 0 (.i .u32) q.1) (λq=>8-q.2) (by rintro⟨k,e⟩ n;dsimp only at n;obtain⟨⟨v,I,G⟩,j⟩:=n;unfold io;(try dsimp only);exact have:=J2.1 v;.lt (λx=>have:=TT k 1;.eq (λA=>.bind (yO j oo) λE K=>have:=Jm e 1;.some ⟨(fT .u32 E 2197175160,J1 .i64 e 1),rfl,⟨⟨Je,om,om⟩,EG⟩,om,om⟩) λA=>.bind (yO j oo) λF w=>have:=Jm e 1;.some ⟨(F,J1 .i64 e 1),rfl,⟨⟨Je,om,om⟩,w⟩,om,om⟩) λx=>have:=Jm g 1;.some ⟨(k,J1 .i64 g 1),rfl,⟨⟨Je,om,om⟩,j⟩,om,om⟩) (fT .u32 r (bS .u32 D),0) rfl ⟨⟨aC,om,om⟩,EG⟩) λC=>.some Ds) (4294967295,0) rfl ⟨⟨aC,om,om⟩,cS .u32 4294967295⟩
theorem MO{B S:Int}{X:Ji}(h:aB B S Jd X)(j:BS B S 0 0:=by omega):Tot (iJ X) λy=>aB 0 0 zI y:=by unfold iJ;exact have s0:aB 0 S Jd X:=h;.bind (xh (B:=0) (S:=S) s0) λn h1=>.not (λe=>.some (aG 1)) λe=>.bind (vq (B:=0) (S:=S) s0) λk h3=>.not (λg=>.some (aG 22)) λg=>.some aC
theorem VA{B S X:Int}(h:aB B S zI X)(p0:0<=X)(j:X<=1000000)(g:BS B S 0 0:=by omega):Tot (AP X) λy=>aB 0 1000000 .s y/\(J0 y=X):=by unfold AP;exact .bind (xR (t:=(.i .u8)) (B:=1000000) (S:=0) (cS .u8 0)) λe h2=>have:J0 (toStr e)=J0 e:=zF;.some ⟨(LJ (B:=0) (S:=1000000) h2.1.1),om⟩
theorem ik{B S:Int}{X:Ji}(h:aB B S Jd X)(am:BS B S 0 0:=by omega):Tot (FU X) λy=>aB 0 1000416 kQ y:=by unfold FU;exact have s0:aB 0 S Jd X:=h;.bind ((MO (B:=0) (S:=S) (X:=X) s0).eqn) λy2 h1=>.ne (λY=>.some ⟨J9,h1.1⟩) λY=>have v4:=MI (x:=X) s0 h1.2 Y;have G:aB 0 12 Jd X:=v4.2;.bind (cT (B:=0) (S:=0) ⟨J9,G.2.1,aG 8⟩) λv h9=>have J:aB 0 8 .s v:=h9.1.u;have:=sF (z:=v) J;have:J0 v<=0+8/\(1<=(8:Int)->(8:Int)<=8->J0 v=0+(8:Int)):=h9.2;.bind (cT (B:=0) (S:=8) ⟨J,G.1,aG 4⟩) λC H=>have K:aB 0 16 .s C:=H.1.u;have:=sF (z:=C) K;have:J0 C<=J0 v+8/\(1<=(4:Int)->(4:Int)<=8->J0 C=J0 v+(4:Int)):=H.2;Jq (τ:=eU) (λq=>(q.1,q.2,X)) (λq=>aB 0 400 .s q.1/\aB 0 0 zI q.2/\(0<=q.2)/\(q.2<=16)/\(J0 q.1=12+13*q.2)) (λq=>16-q.2) (by rintro⟨e,n⟩ D;dsimp only at D;obtain⟨E,ag,ak,aq,ah⟩:=D;unfold xy;(try dsimp only);exact have:=sF (z:=e) E;.lt (λa6=>.bind (fK) λ_ _=>.bind ((iS G.c).eqn) λF g=>.ite (λW=>.bind (fK) λ_ _=>.same g.2 (.bind (cT (B:=0) (S:=400) ⟨E,jR g.1.2 oo,aG 1⟩) λo O=>have a8:aB 0 408 .s o:=O.1.u;have:=sF (z:=o) a8;have:J0 o<=J0 e+8/\(1<=(1:Int)->(1:Int)<=8->J0 o=J0 e+(1:Int)):=O.2;.bind (fK) λ_ _=>.same g.2 (.bind (fK) λ_ _=>.same g.2 (have:=sF (z:=F.2) g.1.2;have:=xS 12 (J0 F.2);.bind (VA dX om om) λL a0=>have:J0 L<=1000000:=a0.1;have:=Jh (l:=L);.bind (gJ) λA an=>have aa:aB 0 1000012 .s A:=(by omega:J0 A<=1000012);have:=sF (z:=A) aa;.bind (gJ) λk ao=>have Z:aB 0 1000420 .s k:=(by omega:J0 k<=1000420);have:=sF (z:=k) Z;have V:aB 0 400 .s k:=(by omega:J0 k<=400);have:=mV n 1;.some ⟨(k,J1 .i64 n 1),rfl,⟨V,Je,om,om,om⟩,om,om⟩)))) λW=>.bind (cT (B:=0) (S:=400) ⟨E,aG 255,aG 1⟩) λr I=>have ab:aB 0 408 .s r:=I.1.u;have:=sF (z:=r) ab;have:J0 r<=J0 e+8/\(1<=(1:Int)->(1:Int)<=8->J0 r=J0 e+(1:Int)):=I.2;.bind (fK) λ_ _=>.same g.2 (.bind (fK) λ_ _=>.same g.2 (have:=sF (z:=F.2) g.1.2;have:=xS 12 (J0 F.2);.bind (VA dX om om) λM U=>have:J0 M<=1000000:=U.1;have:=Jh (l:=M);.bind (gJ) λw al=>have a3:aB 0 1000012 .s w:=(by omega:J0 w<=1000012);have:=sF (z:=w) a3;.bind (gJ) λj af=>have a4:aB 0 1000420 .s j:=(by omega:J0 j<=1000420);have:=sF (z:=j) a4;have a5:aB 0 400 .s j:=(by omega:J0 j<=400);have:=mV n 1;.some ⟨(j,J1 .i64 n 1),rfl,⟨a5,Je,om,om,om⟩,om,om⟩))) λa6=>.inr (have:=xS 244 (J0 e);.bind (VA dX om om) λN a2=>have:J0 N<=1000000:=a2.1;have:=Jh (l:=N);.bind (gJ) λQ aj=>have P:aB 0 1000400 .s Q:=(by omega:J0 Q<=1000400);.bind (RU P) λap ai=>.bind (cT (B:=0) (S:=1000400) ⟨P,sX,aG 4⟩) λac a1=>have ad:aB 0 1000408 .s ac:=a1.1.u;.bind (cT (B:=0) (S:=1000408) ⟨ad,G.2.1,aG 8⟩) λa7 T=>have R:aB 0 1000416 .s a7:=T.1.u;.some ⟨R,aC⟩)) (C,0) rfl ⟨K.u,aC,om,om,om⟩
theorem Vf{B S:Int}{X:qI}(h:aB B S jq X)(x:BS B S 0 0:=by omega)(E:B<=34359738367:=by omega):Tot (MZ X) λy=>aB (B+1) 0 (.l zI) y:=by unfold MZ;exact have:J0 X.1<=B:=h.1.1;have:=Jh (l:=X.1);Jq (τ:=NJ) (λq=>(X.1,X.2,q.1,q.2)) (λq=>(aB 0 0 zI q.1/\0<=q.1/\(q.1<=J0 X.1\/q.1<=0))/\(aB (B+1) 0 (.l zI) q.2/\J0 q.2<=1*q.1+0)) (λq=>J0 X.1-q.1) (by rintro⟨e,g⟩ j;dsimp only at j;obtain⟨⟨i3,F,z⟩,i4,A⟩:=j;unfold yu;(try dsimp only);exact have:=J2.1 i3;.lt (λr=>.bind (Jl h.1) λC w=>.ne (λo=>.bind (Jl h.1) λD n=>have:J0 g<=(B+1):=i4.1;.bind (bT (B:=(B+1)) (Bl:=(B+1)) (Bm:=1) (S:=0) (J0 g) 1 i4 (cF (B:=1) (S:=0) (t:=zI) oo n.1)) λv k=>have:=Jm e 1;.some ⟨(J1 .i64 e 1,v),rfl,⟨⟨Je,om,om⟩,k.1,om⟩,om,om⟩) λo=>have:=Jm e 1;.some ⟨(J1 .i64 e 1,g),rfl,⟨⟨Je,om,om⟩,i4,om⟩,om,om⟩) λr=>.some i4) (0,[]) rfl (have:J0 ([]:List Int)=0:=rfl;⟨⟨aC,om,om⟩,Jc,om⟩)
theorem Nt{B S:Int}{X:eE×JW}(h:aB B S (.pr JZ JV) X)(F:BS B S 0 0:=by omega):Tot (tW X) λy=>aB 0 0 .b y:=by unfold tW;exact .lef (λc1=>.gtf (λE=>have:=J2.1 h.d.1;.ltf (λD=>have:J0 X.1.1<=B:=h.1.1.1;.gef (λC=>have:=J2.1 h.e.1;.ltf (λo=>.gef (λr=>have:=J2.1 h.g.1;.ltf (λn=>.ge (λz=>.some trivial) λz=>have:=J2.1 h.2.1;.eq (λk=>.some trivial) λk=>.eq (λq=>.some trivial) λq=>.eq (λA=>.some trivial) λA=>.eq (λw=>.some trivial) λw=>.eq (λx=>have:=XD.1 h.h;.eq (λv=>.some trivial) λv=>.some trivial) λx=>.eq (λj=>.some trivial) λj=>.some trivial) λn=>.some trivial) λr=>.some trivial) λo=>.some trivial) λC=>.some trivial) λD=>.some trivial) λE=>.some trivial) λc1=>.some trivial
theorem Q0{B S:Int}{X:eE}(h:aB B S JZ X)(Y:BS B S 0 0:=by omega)(hB:B<=9223372036854775807:=by omega):Tot (tU X) λy=>aB 0 0 .b y:=by unfold tU;exact .ltf (λc1=>.gtf (λF=>have:=J2.1 h.2.1;.ltf (λG=>.gtf (λC=>have:J0 X.2.2.2.2=_/\_:=lF h.e;.gt (λD=>.some trivial) λD=>cU (J0 X.1) (λq=>(J0 X.1,q,X)) λH Q V P=>.lt (λj=>.bind (Jl h.1) λy3 a0=>.ne (λv=>.some trivial) λv=>.some ⟨j,rfl⟩) λj=>.inr (have:J0 X.2.2.1<=B:=h.c.1.1;have:=Jh (l:=X.2.2.1);cU (J0 X.2.2.1) (λq=>(J0 X.1,q,X)) λn O R L=>.lt (λg=>.bind (Jl h.c.1) λy5 T=>.ltf (λw=>.bind (Jl h.c.1) λy6 I=>.gef (λo=>.gt (λx=>have:=bC n 1;.bind (Jl h.c.1) λy7 W=>.bind (Jl h.c.1) λy8 Z=>.ge (λz=>.some trivial) λz=>.some ⟨g,rfl⟩) λx=>.some ⟨g,rfl⟩) λo=>.some trivial) λw=>.some trivial) λg=>.inr (cU (J0 X.2.2.2.2) (λq=>(q,X)) λE J K N=>by unfold my;dsimp only;exact .lt (λk=>.bind (Jl h.e) λM A=>.bind (Nt (B:=B) (S:=S) ⟨h,A.1⟩) λa1 U=>.not (λr=>.some trivial) λr=>.some ⟨k,rfl⟩) λk=>.some trivial))) λC=>.some trivial) λG=>.some trivial) λF=>.some trivial) λc1=>.some trivial
end Go.Am
end
section
namespace Go.Am
set_option linter.unusedVariables false
set_option maxRecDepth 20000
set_option maxHeartbeats 4000000
theorem iv{B S:Int}{X:jH}(h:aB B S xM X)(n:BS B S 0 0:=by omega)(o:B<=9223372036854775807:=by omega):Tot (rX X) λy=>aB 0 0 zI y:=by unfold rX;exact .bind (Q0 h.1) λq h1=>.not (λe=>.some (aG 15)) λe=>.ite (λk=>.some (aG 10)) λk=>have:=J2.1 h.2;.ltf (λj=>have:J0 X.1.1<=B:=h.1.1.1;.ge (λg=>.some (aG 1)) λg=>.some aC) λj=>.some (aG 1)
section
variable {B S:Int}
def DOk(x:eE):Prop:=1<=J0 x.1/\J0 x.1<=64/\0<=x.2.1/\x.2.1<=1099511627776/\J0 x.2.2.2.2<=64/\(∀(j:Nat) (s:List UInt8),x.1[j]?=some s->J0 s=256)/\J0 x.2.2.1<=64/\ ∀(j:Nat) (f:JW),x.2.2.2.2[j]?=some f->tW (x,f)=some true
theorem Ng{d:eE}{f:JW}(e:tW (d,f)=some true):0<=f.2.2.1/\f.2.2.1<J0 d.1/\0<=f.2.2.2.1/\f.2.2.2.1<J0 d.1/\0<=f.2.2.2.2.1/\f.2.2.2.2.1<256:=by
 have g:Par (tW (d,f)) λy=>y=true->0<=f.2.2.1/\f.2.2.1<J0 d.1/\0<=f.2.2.2.1/\f.2.2.2.1<J0 d.1/\0<=f.2.2.2.2.1/\f.2.2.2.2.1<256:=by unfold tW;dsimp only;refine .lef (λ_=>.gtf (λ_=>.ltf (λ_=>.gef (λ_=>.ltf (λ_=>.gef (λ_=>.ltf (λ_=>.ge (λ_=>.some nofun) λ_=>?_) λ_=>.some nofun) λ_=>.some nofun) λ_=>.some nofun) λ_=>.some nofun) λ_=>.some nofun) λ_=>.some nofun) λ_=>.some nofun;intro _ _ _;omega
 exact g _ e rfl
theorem ip{x:eE}(e:tU x=some true):DOk x:=by
 have E:Par (tU x) λy=>y=true->DOk x:=by
  unfold tU;refine .ltf (λc1=>.gtf (λD=>.ltf (λK=>.gtf (λH=>.gt (λ_=>.some nofun) λG=>?_) λ_=>.some nofun) λ_=>.some nofun) λ_=>.some nofun) λ_=>.some nofun;refine .while (λz=>z.1=J0 x.1/\z.2.2=x/\0<=z.2.1/\ ∀(j:Nat) (s:List UInt8),(j:Int)<z.2.1->x.1[j]?=some s->J0 s=256) ⟨rfl,rfl,aZ _,λj e h1=>by dsimp only at h1;omega⟩ ?_;rintro⟨n,i,z⟩ ⟨w,r,h0,k⟩;dsimp only at w r;subst r;subst w;dsimp only at h0 k c1 D K H G;unfold xu;dsimp only;refine .lt (λc=>?_) λc=>.map ?_;have F:=Jm i 1;refine .bind λs o=>.ne (λ_=>.some nofun) λA=>.some ⟨rfl,rfl,?_,λj t q h=>?_⟩;show 0<=J1 .i64 i 1;omega;have q:(j:Int)<J1 .i64 i 1:=q;by_cases v:(j:Int)<i;exact k j t v h;have:j=i.toNat:=by omega
  subst this;rw[(cL o).2]at h;injection h with h;subst h;exact A;have J: ∀(j:Nat) (s:List UInt8),z.1[j]?=some s->J0 s=256:=λj s h=>k j s (by have:=sY h;omega) h;refine .while (λy=>y.1=J0 z.1/\y.2.2=z/\0<=y.2.1/\y.2.1<=J0 z.1/\ ∀(j:Nat) (f:Int),(j:Int)<y.2.1->z.2.2.1[j]?=some f->(j:Int)<=f/\f<J0 z.1) ⟨rfl,rfl,aZ _,by dsimp only;omega,λj e h1=>by dsimp only at h1;omega⟩ ?_;rintro⟨n,i,z⟩ ⟨w,r,h0,C,k⟩;dsimp only at w r;subst r;subst w;dsimp only at h0 k C;unfold yb;dsimp only;have F:=Jm i 1;have:=bC i 1;refine .lt (λc=>?_) λc=>.map ?_;refine .bind λs o=>.ltf (λA=>.bind λs' hs'=>.gef (λR=>?_) λ_=>.some nofun) λ_=>.some nofun;rw[o]at hs';injection hs' with hs';subst hs';have I:i<=s->(J0 z.1=J0 z.1/\z=z/\0<=J1 .i64 i 1/\J1 .i64 i 1<=J0 z.1/\ ∀(j:Nat) (f:Int),(j:Int)<J1 .i64 i 1->z.2.2.1[j]?=some f->(j:Int)<=f/\f<J0 z.1):=by
   intro Q;refine⟨rfl,rfl,oo,oo,λj g q h=>?_⟩;by_cases v:(j:Int)<i;exact k j g v h;have:j=i.toNat:=by omega
   subst this;rw[(cL o).2]at h;injection h with h;subst h;omega
  refine .gt (λS=>.bind λM P=>.bind λT B=>.ge (λ_=>.some nofun) λU=>.some (I ?_)) λ_=>.some (I oo);obtain⟨_,N⟩:=cL P;rw[o]at B;injection B with B;subst B;have:=k _ M oo N;omega;have L:J0 z.2.2.1<=64:=by omega
  refine .while (λy=>y.2=z/\0<=y.1/\ ∀(j:Nat) (f:JW),(j:Int)<y.1->z.2.2.2.2[j]?=some f->tW (z,f)=some true) ⟨rfl,aZ _,λj e h1=>by dsimp only at h1;omega⟩ ?_;rintro⟨i,z⟩ ⟨rfl,h0,k⟩;dsimp only at h0 k c1 D K H G L J;unfold my;dsimp only;refine .lt (λc=>?_) λc=>.some λ_=>⟨oo,oo,oo,oo,oo,J,L,λj f h=>k j f (by have:=sY h;omega) h⟩;have F:=Jm i 1;refine .bind λs o=>.bind λb O=>.not (λ_=>.some nofun) λA=>.some ⟨rfl,?_,λj t q h=>?_⟩;show 0<=J1 .i64 i 1;omega;subst A;have q:(j:Int)<J1 .i64 i 1:=q;by_cases v:(j:Int)<i;exact k j t v h;have:j=i.toNat:=by omega
  subst this;rw[(cL o).2]at h;injection h with h;subst h;exact O
 exact E _ e rfl
theorem DOk.fit{x:eE}(k:DOk x)(h:aB B S JZ x):aB 64 256 JZ x:=by
 obtain⟨h1,h2,h3,D,g⟩:=h;obtain⟨r,A,y,C,z,e,w,v⟩:=k;refine⟨⟨?_,λs o=>?_⟩,h2,⟨?_,h3.2⟩,trivial,?_,λf n=>g.2 f n⟩;show J0 x.1<=64;omega;obtain⟨j,q⟩:=kR.1 o;show J0 s<=256;have:=e j s q;omega;show J0 x.2.2.1<=64;omega;show J0 x.2.2.2.2<=64;omega
theorem it{x:jH}(e:rX x=some 0):tU x.1=some true/\0<=x.2/\x.2<J0 x.1.1:=by
 have g:Par (rX x) λy=>y=0->tU x.1=some true/\0<=x.2/\x.2<J0 x.1.1:=by unfold rX;refine .bind λb h=>.not (λ_=>.some nofun) λc=>.ite (λ_=>.some nofun) λ_=>.ltf (λ_=>.ge (λ_=>.some nofun) λ_=>.some λ_=>⟨c▸h,oo,oo⟩) λ_=>.some nofun
 exact g _ e rfl
theorem Ur{x:jH}{y:Int}(h:aB B S xM x)(e:rX x=some y)(c:y=0):(0<=x.2/\x.2<J0 x.1.1/\J0 x.1.1<=64)/\aB 64 256 JZ x.1:=by subst c;obtain⟨h1,h2,h3⟩:=it e;have k:=ip h1;exact⟨⟨h2,h3,k.2.1⟩,k.fit h.1⟩
theorem Ec{w:Int}{un:List Int}{dead:Bool}{page k:Int}{s:List UInt8}{ps:List (List UInt8)}{fs:List JW}(hu:aB B 0 (.l zI) un)(hw:aB 0 0 zI page)(h0:0<=page)(h1:page<J0 ps)(hk:0<=k)(A:k<=256)(hs:J0 s=256)(hp: ∀x∈ps,J0 x=256)(G:B<=1000)(C:0<=B):Tot (mO (w,un,dead,page,s,k,ps,fs)) λy=> ∃j e,y=(w,j,dead,e,fs)/\aB (B+1) 0 (.l zI) j/\J0 e=J0 ps/\ ∀x∈e,J0 x=256:=by
 unfold mO;dsimp only;have g:page.toNat<ps.length:=by unfold J0 at h1;omega
 have n:=hp _ (kU g);refine .bind (TU oo oo) λH h2=>.bind (fC (l:=ps)) λ_ _=>?_;have r:bF ps page.toNat=some ps[page.toNat]:=by unfold bF;rw[zQ9 g]
 rw[r];show Tot ((bG ps[page.toNat] (some k) none).bind _) _;refine .bind (KK oo oo) λD v=>.bind (gJ) λE F=>.bind (fC (l:=ps)) λ_ _=>?_;show Tot ((MZ (un,page)).bind _) _;refine .bind (Vf (B:=B) (S:=0) ⟨hu,hw.u⟩) λo q=>.some ⟨o,_,rfl,q,pJ,λx z=>?_⟩;rcases kt z with h|rfl;exact hp x h;have:=h2.2;have:=v.2;omega
theorem Bz{b n:Int}{un:List Int}(h:aB b 0 (.l zI) un)(hn:aB 0 0 zI n)(hb:b<=17179869183:=by omega):Tot (AC (un,n)) λy=>aB (b+1) 0 (.l zI) y:=by
 unfold AC;have E:J0 un<=b:=h.1;have C:=Jh (l:=un);refine Jq (τ:=Bool×Int×List Int) (λq=>(un,n,q.1,q.2.1,q.2.2)) (λq=>0<=q.2.1/\q.2.1<=J0 un/\aB (b+1) 0 (.l zI) q.2.2/\J0 q.2.2<=q.2.1+1/\(q.1=false->J0 q.2.2<=q.2.1)) (λq=>J0 un-q.2.1) ?_ (false,0,[]) rfl ⟨aZ _,C,Jc,by show(0:Int)<=0+1;omega,λ_=>aZ _⟩;rintro⟨done,i,out⟩ ⟨h0,h1,h2,h3,w⟩;dsimp only at h0 h1 h2 h3 w;unfold wl;dsimp only;have:=Jm i 1;have app: ∀{x:Int} {l:List Int},aB (b+1) 0 (.l zI) l->aB (b+1) 0 zI x->J0 l+1<=b+1->Tot (JO 8 l [x]) λr=>aB (b+1) 0 (.l zI) r/\J0 r=J0 l+1:=λE K D=>
  (bT (B:=b+1) (Bl:=b+1) (Bm:=b+1) (S:=0) _ 1 E (cF oo K) rfl rfl (aZ _) (aZ _) D oo (by decide)).mono λ_ h=>⟨h.1,h.2.1⟩
 have z:aB (b+1) 0 zI n:=hn;refine .lt (λc=>?_) λc=>Tot.map (P:=λy=>aB (b+1) 0 (.l zI) y) ?_ λ_ h=>h;have j:Tot (idx un i) λr=>aB (b+1) 0 zI r:=(Jl h h0 c).mono λ_ h=>h.1;refine .not (λd=>?_) λd=>?_;have w:=w d;refine .bind j λF J=>.ge (λ_=>.bind (app h2 z oo) λI v=>.bind j λG H=>.ne (λ_=>.bind j λA o=>.bind (app v.1 o oo) λk g=>?_) λ_=>?_) λ_=>.bind j λG H=>.ne (λ_=>.bind j λA o=>.bind (app h2 o oo) λk g=>?_) λ_=>?_;have:=g.2;have:=v.2;exact .some ⟨(_,_,_),rfl,⟨by show 0<=J1 .i64 i 1;omega,by show J1 .i64 i 1<=_;omega,g.1,by show J0 k<=J1 .i64 i 1+1;omega,nofun⟩,by show J0 un-J1 .i64 i 1<J0 un-i;omega,by show 0<=J0 un-i;omega⟩;have:=v.2;exact .some ⟨(_,_,_),rfl,⟨by show 0<=J1 .i64 i 1;omega,by show J1 .i64 i 1<=_;omega,v.1,by show J0 I<=J1 .i64 i 1+1;omega,nofun⟩,by show J0 un-J1 .i64 i 1<J0 un-i;omega,by show 0<=J0 un-i;omega⟩;have:=g.2;exact .some ⟨(_,_,_),rfl,⟨by show 0<=J1 .i64 i 1;omega,by show J1 .i64 i 1<=_;omega,g.1,by show J0 k<=J1 .i64 i 1+1;omega,λ_=>by show J0 k<=J1 .i64 i 1;omega⟩,by show J0 un-J1 .i64 i 1<J0 un-i;omega,by show 0<=J0 un-i;omega⟩;exact .some ⟨(_,_,_),rfl,⟨by show 0<=J1 .i64 i 1;omega,by show J1 .i64 i 1<=_;omega,h2,by show J0 out<=J1 .i64 i 1+1;omega,λ_=>by show J0 out<=J1 .i64 i 1;omega⟩,by show J0 un-J1 .i64 i 1<J0 un-i;omega,by show 0<=J0 un-i;omega⟩;refine .bind j λF J=>.ne (λ_=>.bind j λA o=>.bind (app h2 o oo) λk g=>?_) λ_=>?_;have:=g.2;exact .some ⟨(_,_,_),rfl,⟨by show 0<=J1 .i64 i 1;omega,by show J1 .i64 i 1<=_;omega,g.1,by show J0 k<=J1 .i64 i 1+1;omega,λe=>by rw[d]at e;cases e⟩,by show J0 un-J1 .i64 i 1<J0 un-i;omega,by show 0<=J0 un-i;omega⟩;exact .some ⟨(_,_,_),rfl,⟨by show 0<=J1 .i64 i 1;omega,by show J1 .i64 i 1<=_;omega,h2,by show J0 out<=J1 .i64 i 1+1;omega,λe=>by rw[d]at e;cases e⟩,by show J0 un-J1 .i64 i 1<J0 un-i;omega,by show 0<=J0 un-i;omega⟩;exact .not (λd=>.bind (app h2 z (by have:=w d;omega)) λy f=>.some f.1) λ_=>.some h2
def FOk(n:Int)(f:JW):Prop:=0<=f.2.2.1/\f.2.2.1<n/\0<=f.2.2.2.1/\f.2.2.2.1<n/\0<=f.2.2.2.2.1/\f.2.2.2.2.1<256/\aB 0 0 JV f
def HG(n:Int)(ps:List (List UInt8)):Prop:=J0 ps=n/\ ∀x∈ps,J0 x=256
def WOk(n:Int)(y:jH):Prop:=aB 256 256 xM y
theorem yf{n:Int}(d:eE)(B:List JW)(I:List (List UInt8))(C:Int)(E:List Int)(A:Bool){ps:List (List UInt8)}(D J:List JW){w:Int}{un:List Int}{dead:Bool}{e rest:List JW}
  (hn:n<=64) (hp:HG n ps) (hw:aB 0 0 zI w) (hu:aB 65 0 (.l zI) un) (N:J0 e<=64) (hf: ∀f∈e,FOk n f) (hr:aB 64 0 (.l JV) rest):
  Tot (Jg MT (0,d,B,I,C,E,A,ps,D,J,w,un,dead,e,rest)) (WOk n):=by
 refine Jq (τ:=Int×List (List UInt8)×List Int×Bool) (λq=>(q.1,d,B,I,C,E,A,q.2.1,D,J,w,q.2.2.1,q.2.2.2,e,rest)) (λq=>0<=q.1/\q.1<=J0 e/\HG n q.2.1/\ ∃b:Int,b<=65+2*q.1/\aB b 0 (.l zI) q.2.2.1) (λq=>J0 e-q.1) ?_ (0,ps,un,dead) rfl ⟨aZ _,Jh,hp,65,oo,hu⟩;rintro⟨i,ps,un,dead⟩ ⟨h0,h1,⟨j,g⟩,b,U,hu⟩;dsimp only at h0 h1 j g U hu;unfold MT;dsimp only;have:=Jm i 1;refine .lt (λc=>?_) λc=>.some ?_
 ·have k:i.toNat<e.length:=by unfold J0 at c;omega
  refine .bind (fC (l:=e) h0 c) λ_ _=>?_;have T:bF e i.toNat=some e[i.toNat]:=by unfold bF;rw[zQ9 k]
  rw[T];show Tot (if aH e[i.toNat].1 4=true then _ else _) _;obtain⟨v,Q,S,R,y,P,F⟩:=hf _ (kU k);generalize e[i.toNat]=f at v Q S R y P F;refine .eq (λc1=>?_) λc1=>.eq (λO=>?_) λO=>.eq (λV=>?_) λV=>?_;have o:f.2.2.1.toNat<ps.length:=by unfold J0 at j;omega
  have r:=g _ (kU o);refine .bind (fC (l:=ps) v oo) λ_ _=>?_;have L:bF ps f.2.2.1.toNat=some ps[f.2.2.1.toNat]:=by unfold bF;rw[zQ9 o]
  rw[L];show Tot ((aV (aR ps[f.2.2.1.toNat]).length f.2.2.2.2.1).bind _) _;have G:J0 (aR ps[f.2.2.1.toNat])=256:=by rw[JDu];exact r
  have K:f.2.2.2.2.1.toNat<(aR ps[f.2.2.1.toNat]).length:=by unfold J0 at G;omega
  refine .bind (fC (l:=aR ps[f.2.2.1.toNat]) y oo) λ_ _=>?_;have M:bF (aR ps[f.2.2.1.toNat]) f.2.2.2.2.1.toNat=some (aR ps[f.2.2.1.toNat])[f.2.2.2.2.1.toNat]:=by unfold bF;rw[zQ9 K]
  rw[M];show Tot ((aV (aR ps[f.2.2.1.toNat]).length f.2.2.2.2.1).bind _) _;refine .bind (fC (l:=aR ps[f.2.2.1.toNat]) y oo) λ_ _=>?_;show Tot ((aV ps.length f.2.2.1).bind _) _;refine .bind (fC (l:=ps) v oo) λ_ _=>.some ⟨(_,_,_,_),rfl,⟨?_,?_,⟨?_,λx z=>?_⟩,b,?_,hu⟩,?_,?_⟩;show 0<=J1 .i64 i 1;omega;show J1 .i64 i 1<=J0 e;omega;exact pJ.trans j;rcases kt z with h|rfl;exact g x h;rw[zF,pJ];exact G;show b<=65+2*J1 .i64 i 1;omega;show J0 e-J1 .i64 i 1<J0 e-i;omega;show 0<=J0 e-i;omega;refine .bind (Bz hu F.2.2.1) λW H=>.some ⟨(_,_,_,_),rfl,⟨?_,?_,⟨j,g⟩,b+2,?_,H.u⟩,?_,?_⟩;show 0<=J1 .i64 i 1;omega;show J1 .i64 i 1<=J0 e;omega;show b+2<=65+2*J1 .i64 i 1;omega;show J0 e-J1 .i64 i 1<J0 e-i;omega;show 0<=J0 e-i;omega
  all_goals
   refine .some ⟨(_,_,_,_),rfl,⟨?_,?_,⟨j,g⟩,b,?_,hu⟩,?_,?_⟩;show 0<=J1 .i64 i 1;omega;show J1 .i64 i 1<=J0 e;omega;show b<=65+2*J1 .i64 i 1;omega;show J0 e-J1 .i64 i 1<J0 e-i;omega;show 0<=J0 e-i;omega
 refine⟨⟨⟨?_,λx z=>?_⟩,hw.u,hu.u,trivial,hr.u⟩,aC⟩;show J0 ps<=256;omega;show J0 x<=256;have:=g x z;omega
end
section
variable {B S:Int}
theorem Vt{n page:Int}{s:List UInt8}(d:eE)(C:List JW)(G:List (List UInt8))(D:Int)(F:List Int)(B:Bool){ps:List (List UInt8)}(E H:List JW){w:Int}{un:List Int}{dead:Bool}{g rest:List JW}
  (hn:n<=64) (hp:HG n ps) (hw:aB 0 0 zI w) (hu:aB 64 0 (.l zI) un) (x:J0 g<=64) (hf: ∀f∈g,FOk n f) (hr:aB 64 0 (.l JV) rest)
  (hs:J0 s=256) (N:0<=page) (g1:page<n) (J:aB 0 0 zI page):
  Tot (Jg jc (page,s,false,0,d,C,G,D,F,B,ps,E,H,w,un,dead,g,rest)) (WOk n):=by
 refine Jq (τ:=Bool×Int×List (List UInt8)×List Int) (λq=>(page,s,q.1,q.2.1,d,C,G,D,F,B,q.2.2.1,E,H,w,q.2.2.2,dead,g,rest)) (λq=>0<=q.2.1/\q.2.1<=J0 g/\HG n q.2.2.1/\aB 65 0 (.l zI) q.2.2.2/\(q.1=false->aB 64 0 (.l zI) q.2.2.2)) (λq=>J0 g-q.2.1) ?_ (false,0,ps,un) rfl ⟨aZ _,Jh,hp,hu.u,λ_=>hu⟩;rintro⟨done,i,ps,un⟩ ⟨h0,h1,⟨o,r⟩,hu,K⟩;dsimp only at h0 h1 o r hu K;unfold jc;dsimp only;have:=Jm i 1;have z: ∀{page k:Int},done=false->0<=page->page<n->aB 0 0 zI page->0<=k->k<=256->Tot (mO (w,un,dead,page,s,k,ps,rest)) λy=> ∃h j,y=(w,h,dead,j,rest)/\aB 65 0 (.l zI) h/\HG n j:=λe a1 a2 Y a4 Z=>
  (Ec (K e) Y a1 oo a4 Z hs r oo oo).mono λy ⟨h,j,h1,h2,h3,W⟩=>⟨h,j,h1,h2,h3.trans o,W⟩
 have fin:Tot (if Jp done=true then(mO (w,un,dead,page,s,256,ps,rest)).bind λv=>Jg MT (0,d,C,G,D,F,B,v.2.2.2.1,E,H,v.1,v.2.1,v.2.2.1,g,v.2.2.2.2)else Jg MT (0,d,C,G,D,F,B,ps,E,H,w,un,dead,g,rest)) (WOk n):=by refine .not (λe=>.bind (z e N g1 J oo oo) λy ⟨h,j,A,h2,h3⟩=>?_) λ_=>yf _ _ _ _ _ _ _ _ hn ⟨o,r⟩ hw hu x hf hr;subst A;exact yf _ _ _ _ _ _ _ _ hn h3 hw h2 x hf hr
 refine .lt (λc=>.not (λe=>?_) λe=>.inr fin) λc=>.inr fin;have I:i.toNat<g.length:=by unfold J0 at c;omega
 refine .bind (fC (l:=g) h0 c) λ_ _=>?_;have V:bF g i.toNat=some g[i.toNat]:=by unfold bF;rw[zQ9 I]
 have L:aV g.length i=some ():=by unfold aV;rw[if_pos ⟨h0,by unfold J0 at c;exact c⟩]
 rw[V];obtain⟨R,U,Q,P,O,T,M⟩:=hf _ (kU I);generalize g[i.toNat]=f at R U Q P O T M;show Tot (if aH f.1 1=true then _ else _) _;refine .eq (λc1=>?_) λc1=>.eq (λS=>?_) λS=>.eq (λc3=>?_) λc3=>?_;exact .some ⟨(_,_,_,_),rfl,⟨by show 0<=J1 .i64 i 1;omega,by show J1 .i64 i 1<=J0 g;omega,⟨o,r⟩,hu,nofun⟩,by show J0 g-J1 .i64 i 1<J0 g-i;omega,by show 0<=J0 g-i;omega⟩;rw[L];show Tot ((mO _).bind _) _;refine .bind (z e Q P M.2.2.2.1 oo oo) λy ⟨h,j,A,h2,h3⟩=>?_;subst A;exact .some ⟨(_,_,_,_),rfl,⟨by show 0<=J1 .i64 i 1;omega,by show J1 .i64 i 1<=J0 g;omega,h3,h2,nofun⟩,by show J0 g-J1 .i64 i 1<J0 g-i;omega,by show 0<=J0 g-i;omega⟩;rw[L];show Tot ((mO _).bind _) _;refine .bind (z e N g1 J O oo) λy ⟨h,j,A,h2,h3⟩=>?_;subst A;exact .some ⟨(_,_,_,_),rfl,⟨by show 0<=J1 .i64 i 1;omega,by show J1 .i64 i 1<=J0 g;omega,h3,h2,nofun⟩,by show J0 g-J1 .i64 i 1<J0 g-i;omega,by show 0<=J0 g-i;omega⟩;exact .some ⟨(_,_,_,_),rfl,⟨by show 0<=J1 .i64 i 1;omega,by show J1 .i64 i 1<=J0 g;omega,⟨o,r⟩,hu,K⟩,by show J0 g-J1 .i64 i 1<J0 g-i;omega,by show 0<=J0 g-i;omega⟩
theorem Cq{x:eE}(g:aB 64 256 JZ x):MR x=some (x.2.1,x.2.2.1,x.2.2.2.1,x.1,x.2.2.2.2):=by obtain⟨r,n,e⟩:=(HQ (bytes:=16) g.1 oo (by decide));obtain⟨v,j,q⟩:=(HQ (bytes:=8) g.2.2.1 oo (by decide));obtain⟨w,h,k⟩:=(HQ (bytes:=48) g.2.2.2.2 oo (by decide));subst e q k;unfold MR;have o:cZ (α:=JW) 48 x.2.2.2.2=some x.2.2.2.2:=h;rw[n,j,o];rfl
theorem Nu{X:eE×Int×List UInt8}(h:aB B S (.pr JZ (.pr zI .s)) X)(a6:BC B S 0 0:=by omega):Tot (UU X) λy=>aB 256 256 xM y:=by
 obtain⟨x,page,s⟩:=X;obtain⟨z,A,R⟩:=h;unfold UU;dsimp only;have F:aB 256 256 JZ ([],0,[],false,[]):=⟨Jc,aC,Jc,trivial,Jc⟩;refine .bind ((iv (X:=(x,page)) ⟨z,A⟩).eqn) λy2 h2=>.ne (λ_=>.some ⟨F,h2.1⟩) λc1=>.ne (λ_=>.some ⟨F,aG 2⟩) λc2=>.eq (λ_=>.some ⟨F,aG 21⟩) λc3=>?_;subst c1;obtain⟨k,K,Q⟩:=it h2.2;have k:=ip k;have g:aB 64 256 JZ x:=k.fit z;obtain⟨U,O,V,Z,W,M,J,I⟩:=k;dsimp only at U O V Z W M J I K Q;rw[Cq g];show Tot (Jg iz _) _;dsimp only;have hw:aB 0 0 zI (J1 .i64 x.2.1 1):=Je;have N: ∀{i:Int} {f:JW},idx x.2.2.2.2 i=some f->FOk (J0 x.1) f:=fun{i f} e=>by obtain⟨a1,T⟩:=cL e;have w:=Ng (I _ _ T);exact⟨w.1,w.2.1,w.2.2.1,w.2.2.2.1,w.2.2.2.2.1,w.2.2.2.2.2,g.2.2.2.2.2 f (zQ5 T)⟩
 refine Jq (τ:=Int×List JW×List JW) (λq=>(page,s,q.1,x,[],[],0,[],false,x.1,x.2.2.2.2,[],J1 .i64 x.2.1 1,x.2.2.1,x.2.2.2.1,q.2.1,q.2.2)) (λq=>0<=q.1/\q.1<=J0 x.2.2.2.2/\J0 q.2.1<=q.1/\J0 q.2.2<=q.1/\aB 64 0 (.l JV) q.2.1/\aB 64 0 (.l JV) q.2.2/\ ∀f∈q.2.1,FOk (J0 x.1) f) (λq=>J0 x.2.2.2.2-q.1) ?_ (0,[],[]) rfl ⟨aZ _,Jh,aZ _,aZ _,Jc,Jc,nofun⟩;rintro⟨i,C,rest⟩ ⟨h0,h1,h3,h4,E,v,o⟩;dsimp only at h0 h1 h3 h4 E v o;unfold iz;dsimp only;have:=Jm i 1;have app: ∀{f:JW} {l:List JW},aB 64 0 (.l JV) l->FOk (J0 x.1) f->J0 l+1<=64->Tot (JO 48 l [f]) λr=>aB 64 0 (.l JV) r/\J0 r=J0 l+1/\r=l++[f]:=λhl z P=>
  (bT (B:=64) (Bl:=64) (Bm:=64) (S:=0) _ 1 hl (cF oo z.2.2.2.2.2.2.u) rfl rfl (aZ _) (aZ _) P oo (by decide))
 refine .lt (λc=>?_) λc=>.inr (Vt _ _ _ _ _ _ _ _ O ⟨rfl,λs R=>by obtain⟨j,hj⟩:=kR.1 R;exact M j s hj⟩ hw ⟨J,g.2.2.1.2⟩ oo o v oo K Q A);have G:i.toNat<x.2.2.2.2.length:=by unfold J0 at c;omega
 have L:idx x.2.2.2.2 i=some x.2.2.2.2[i.toNat]:=by unfold idx;rw[if_pos h0,zQ9 G]
 have n:=N L;rw[L];show Tot (if aH _ _=true then _ else _) _;refine .eq (λ_=>?_) λ_=>?_;show Tot ((JO 48 C [_]).bind _) _;refine .bind (app E n oo) λr ⟨D,Y,H⟩=>.some ⟨(_,_,_),rfl,⟨by show 0<=J1 .i64 i 1;omega,by show J1 .i64 i 1<=_;omega,by show J0 r<=J1 .i64 i 1;omega,by show J0 rest<=J1 .i64 i 1;omega,D,v,λf e=>?_⟩,by show _-J1 .i64 i 1<_-i;omega,by show 0<=_-i;omega⟩;subst H;rcases cN.1 e with e|e;exact o f e;simp at e;subst e;exact n;show Tot ((JO 48 rest [_]).bind _) _;exact .bind (app v n oo) λr ⟨D,Y,H⟩=>.some ⟨(_,_,_),rfl,⟨by show 0<=J1 .i64 i 1;omega,by show J1 .i64 i 1<=_;omega,by show J0 C<=J1 .i64 i 1;omega,by show J0 r<=J1 .i64 i 1;omega,E,D,o⟩,by show _-J1 .i64 i 1<_-i;omega,by show 0<=_-i;omega⟩
theorem I5{X:eE×Int×List UInt8×Int}(h:aB B S (.pr JZ (.pr zI kQ)) X)(O:BC B S 0 0:=by omega):Tot (SF X) λy=>aB 256 256 xM y:=by
 obtain⟨x,page,s,P⟩:=X;obtain⟨g,o,A,H⟩:=h;unfold SF;dsimp only;have n:aB 256 256 JZ ([],0,[],false,[]):=⟨Jc,aC,Jc,trivial,Jc⟩;refine .bind ((iv (X:=(x,page)) ⟨g,o⟩).eqn) λT h2=>.ne (λ_=>.some ⟨n,h2.1⟩) λc1=>.ltf (λQ=>.gt (λ_=>.some ⟨n,aG 1⟩) λR=>.ne (λ_=>.some ⟨n,aG 2⟩) λG=>?_) λ_=>.some ⟨n,aG 1⟩;subst c1;obtain⟨k,r,z⟩:=it h2.2;have k:=ip k;have e:aB 64 256 JZ x:=k.fit g;obtain⟨C,I,E,J,F,v,q,D⟩:=k;dsimp only at C I E J F v q D r z;rw[Cq e];show Tot ((mO _).bind _) _;dsimp only;refine .bind (Ec (B:=64) ⟨q,e.2.2.1.2⟩ o r z oo oo G (λs A=>by obtain⟨j,M⟩:=kR.1 A;exact v j s M) oo oo) λy ⟨N,w,L,h2,h3,K⟩=>?_;subst L;refine .some ⟨⟨⟨?_,λx g=>?_⟩,g.2.1,h2.u,trivial,e.2.2.2.2.u⟩,aC⟩;show J0 w<=256;omega;show J0 x<=256;have:=K x g;omega
end
theorem FB{B S:Int}{X:JK×Int×aF}(h:aB B S (.pr JS (.pr zI dU)) X)(p0:0<=X.2.1)(g:X.2.1<J0 X.1.2.1)(e:BS B S 0 0:=by omega)(k:B<=34359738368:=by omega):Tot (iX X) λy=>aB B S JS y/\(J0 y.2.1=J0 X.1.2.1/\y.2.2=X.1.2.2):=by unfold iX;exact have:J0 X.1.2.1=_:=JE h.1.2.1;.clo h.1.2.1 oo (by decide) (.bind (fC (l:=X.1.2.1)) λ_ _=>.bind (jF h.1.2.1) λn j=>have:J0 (aW X.1.2.1 (Int.toNat X.2.1) X.2.2)=_:=JE (kL (t:=dU) (i:=Int.toNat X.2.1) (x:=X.2.2) h.1.2.1 (h.2.z.2.u));have:J0 (aW X.1.2.1 (Int.toNat X.2.1) X.2.2)=J0 X.1.2.1:=pJ;.some ⟨⟨h.1.1,kL (t:=dU) (i:=Int.toNat X.2.1) (x:=X.2.2) h.1.2.1 (h.2.z.2.u),h.1.c⟩,om⟩)
theorem Pr{B S:Int}{X:HV}(h:aB B S kv X)(K:BG B S:=by omega):Tot (AQ X) λy=>aB 64 12 sL y:=by unfold AQ;exact .bind ((xC h.1).eqn) λM h1=>.not (λv=>.some ⟨aP,aG 15⟩) λv=>have J:=rR h.1 h1.2 v;have:J0 X.1.2.1=_:=JE h.1.2.1;have e:aB 64 12 JS X.1:=J.2;.bind (AG (B:=64) (S:=12) ⟨e,h.2.1⟩) λo g=>have:=J2.1 g.1;have: -1<=o/\o<J0 X.1.2.1:=g.2;.lt (λn=>.some ⟨aP,aG 18⟩) λn=>.bind (Jl e.2.1) λL j=>.gt (λE=>.some ⟨aP,aG 9⟩) λE=>.not (λx=>.some ⟨e,aC⟩) λx=>.eq (λF=>.bind (FB (B:=64) (S:=12) ⟨e,g.1,j.1.z.1.u,trivial,aC,trivial⟩ om om) λH r=>have k:aB 64 12 JS H:=r.1.u;.some ⟨k,aC⟩) λF=>have:=J2.1 j.1.z.2.2.1;.le (λw=>.bind (FB (B:=64) (S:=12) ⟨e,g.1,j.1.z.1.u,trivial,Je,trivial⟩ om om) λI q=>have A:aB 64 12 JS I:=q.1.u;.some ⟨A,aC⟩) λw=>.bind (FB (B:=64) (S:=12) ⟨e,g.1,j.1.z.u⟩ om om) λG C=>have D:aB 64 12 JS G:=C.1.u;.some ⟨D,aC⟩
theorem Vk{B S:Int}{X:gU}(h:aB B S xJ X)(L:BG B S:=by omega):Tot (rO X) λy=>aB 16384 1073741824 fH y/\(y.2=0->J0 y.1.2.2.1.2.1=J0 X.1.2.2.1.2.1+1):=by unfold rO;exact .bind ((kM h.1).eqn) λP h1=>.not (λz=>have:J0 X.1.2.2.1.2.1<=B:=h.1.c.1.2.1.1;.some ⟨⟨aP,aG 15⟩,om⟩) λz=>have I:=lO h.1 h1.2 z;have:J0 X.1.2.2.1.2.1=_:=JE h.1.c.1.2.1;have k:aB 4096 8192 Ja X.1:=I.2;.ltf (λC=>.gef (λr=>have:=J2.1 h.c;.ltf (λA=>.bind (LW k.c.1) λM K=>.gt (λx=>.some ⟨⟨aP,aG 1⟩,om⟩) λx=>.bind ((zR (B:=4096) (S:=8192) (X:=(X.1.2.2.2.1,X.2.1)) ⟨k.d.1,h.2.1⟩).eqn) λO J=>.ge (λv=>have E:aB 16384 1073741824 kv (X.1.2.2.2.1,X.2.1,X.2.2):=⟨k.d.1.u,h.2⟩;.bind (Pr E) λN n=>.ne (λG=>.some ⟨⟨aP,n.2⟩,om⟩) λG=>have D:aB 16384 1073741824 HO (X.1,0,7,0,0,0,X.2.2,(X.2.1,0,(false,[]),false,[]),[]):=⟨k.u,aC,aG 7,aC,aC,aC,h.c,⟨h.2.1,aC,⟨trivial,J9⟩,trivial,J9⟩,J9⟩;.bind ((wI D).eqn) λq j=>have:J0 q.1.2.2.1.2.1=_:=JE j.1.1.1.c.1.2.1;have:q.2.2=0->J0 q.1.2.2.1.2.1=J0 X.1.2.2.1.2.1+1/\J0 X.1.2.2.1.2.1<=4095/\0<=X.2.1/\X.2.1<64/\0<=(0:Int)/\(0:Int)<16:=j.1.2;.ne (λw=>.some ⟨⟨aP,j.1.1.c⟩,om⟩) λw=>.some ⟨⟨⟨j.1.1.1.1,j.1.1.1.2.1,j.1.1.1.c.1,n.1.u,j.1.1.1.e⟩,aC⟩,om⟩) λv=>have F:aB 16384 1073741824 HO (X.1,0,7,0,0,0,X.2.2,(X.2.1,0,(false,[]),false,[]),[]):=⟨k.u,aC,aG 7,aC,aC,aC,h.c,⟨h.2.1,aC,⟨trivial,J9⟩,trivial,J9⟩,J9⟩;.bind ((wI F).eqn) λo g=>have:J0 o.1.2.2.1.2.1=_:=JE g.1.1.1.c.1.2.1;have:o.2.2=0->J0 o.1.2.2.1.2.1=J0 X.1.2.2.1.2.1+1/\J0 X.1.2.2.1.2.1<=4095/\0<=X.2.1/\X.2.1<64/\0<=(0:Int)/\(0:Int)<16:=g.1.2;.ne (λH=>.some ⟨⟨aP,g.1.1.c⟩,om⟩) λH=>.some ⟨⟨⟨g.1.1.1.1,g.1.1.1.2.1,g.1.1.1.c.1,k.d.1.u,g.1.1.1.e⟩,aC⟩,om⟩) λA=>.some ⟨⟨aP,aG 1⟩,om⟩) λr=>.some ⟨⟨aP,aG 1⟩,om⟩) λC=>.some ⟨⟨aP,aG 1⟩,om⟩
theorem vx{B S:Int}{X:kn}(h:aB B S (.pr Jn (.pr Ja Jd)) X)(n:BG B S:=by omega):Tot (pQ X) λy=>aB 16384 1073741824 mU y/\(y.2=0->J0 y.1.1.2.2.1.2.1=J0 X.2.1.2.2.1.2.1+1):=by unfold pQ;exact .bind (ik (B:=0) (S:=S) h.c.z) λq h1=>.bind (Nu (B:=B) (S:=S) ⟨h.1.2,h.c.z.1,h1.1.u⟩) λo h2=>.ne (λk=>have:J0 X.2.1.2.2.1.2.1<=B:=h.2.1.c.1.2.1.1;.some ⟨⟨⟨aP,Jc,aC,Jc,trivial,Jc⟩,h2.2⟩,om⟩) λk=>.bind (Vk (B:=B) (S:=S) ⟨h.2.1,h.c.z.1,h.c.z.2.1⟩) λg e=>have:J0 g.1.2.2.1.2.1=_:=JE e.1.1.c.1.2.1;have:J0 X.2.1.2.2.1.2.1=_:=JE h.2.1.c.1.2.1;have:g.2=0->J0 g.1.2.2.1.2.1=J0 X.2.1.2.2.1.2.1+1:=e.2;.ne (λj=>.some ⟨⟨⟨aP,Jc,aC,Jc,trivial,Jc⟩,e.1.2⟩,om⟩) λj=>.some ⟨⟨⟨e.1.1,h2.1.u⟩,aC⟩,om⟩
theorem Qz{B S:Int}{X:eL}(h:aB B S mU X)(r:BG B S:=by omega):Tot (BA X) λy=>aB B S mU y:=by unfold BA;exact .bind ((Nb (B:=B) (S:=S) (X:=(X.1.1,X.2)) ⟨h.1.1,h.2⟩).eqn) λv h1=>.ne (λe=>.some ⟨⟨aP,Jc,aC,Jc,trivial,Jc⟩,h1.1.1.2.z.2⟩) λe=>have o:InP X.1.1.2.2.2.1 X.2:=JBi ⟨h.1.1,h.2⟩ h1.2 e;.bind ((zR (B:=B) (S:=S) (X:=(X.1.1.2.2.2.1,X.2)) ⟨h.1.1.d.1,h.2⟩).eqn) λj g=>have:0<=j:=dk o g.2;have:J0 X.1.1.2.2.2.1.2.1=_:=JE h.1.1.d.1.2.1;have: -1<=j/\j<J0 X.1.1.2.2.2.1.2.1:=g.1.2;.bind (Jl h.1.1.d.1.2.1) λw q=>.not (λn=>.some ⟨h.1,aC⟩) λn=>.bind (vx (B:=B) (S:=S) ⟨h.1,h1.1.1.1.u,h1.1.1.2.z.1.u⟩) λx k=>.some (k.1.u)
theorem SD{B S:Int}{X:A4}(h:aB B S (.pr (.l Jb) (.pr zI (.pr .b cY))) X)(H:BS B S 0 0:=by omega)(P:B<=34359738367:=by omega):Tot (zW X) λy=>aB (B+1) 0 (.l Jb) y:=by unfold zW;exact have:J0 X.1=_/\_:=lF h.1;Jq (τ:=Int×(List aD)) (λq=>(X.1,X.2.1,X.2.2.1,q.1,X.2.2.2,q.2)) (λq=>(aB 0 0 zI q.1/\0<=q.1/\(q.1<=J0 X.1\/q.1<=0))/\(aB (B+1) 0 (.l Jb) q.2/\J0 q.2<=1*q.1+0)) (λq=>J0 X.1-q.1) (by rintro⟨g,e⟩ o;dsimp only at o;obtain⟨⟨i4,J,O⟩,j,K⟩:=o;unfold wx;(try dsimp only);exact have:=J2.1 i4;.lt (λD=>.bind (Jl h.1) λL F=>.nef (λx=>.ite (λC=>.bind (Jl h.1) λN E=>.not (λr=>.bind (Jl h.1) λM z=>have:J0 e<=(B+1):=j.1;have:J0 e=_:=JE j;.bind (bT (B:=(B+1)) (Bl:=(B+1)) (Bm:=1) (S:=0) (J0 e) 1 j (cF (B:=1) (S:=0) (t:=Jb) oo z.1)) λA k=>have:=Jm g 1;have:J0 A=_:=JE k.1;.some ⟨(J1 .i64 g 1,A),rfl,⟨⟨Je,om,om⟩,k.1,om⟩,om,om⟩) λr=>have G:=dY.1 r;have:=Jm g 1;have:J0 e=_:=JE j;.some ⟨(J1 .i64 g 1,e),rfl,⟨⟨Je,om,om⟩,j,om⟩,om,om⟩) λC=>have:=Jm g 1;have:J0 e=_:=JE j;.some ⟨(J1 .i64 g 1,e),rfl,⟨⟨Je,om,om⟩,j,om⟩,om,om⟩) λx=>.bind (Jl h.1) λI v=>have:J0 e<=(B+1):=j.1;have:J0 e=_:=JE j;.bind (bT (B:=(B+1)) (Bl:=(B+1)) (Bm:=1) (S:=0) (J0 e) 1 j (cF (B:=1) (S:=0) (t:=Jb) oo v.1)) λw n=>have:=Jm g 1;have:J0 w=_:=JE n.1;.some ⟨(J1 .i64 g 1,w),rfl,⟨⟨Je,om,om⟩,n.1,om⟩,om,om⟩) λD=>.some j) (0,[]) rfl (have:J0 ([]:List aD)=0:=rfl;⟨⟨aC,om,om⟩,Jc,om⟩)
theorem Lj{B S:Int}{X:nK}(h:aB B S CO X)(p0:0<=X.2)(M:X.2<J0 X.1.2)(E:BS B S 0 0:=by omega)(Q:B<=9223372036854775807:=by omega):Tot (VI X) λy=>aB 0 0 .b y:=by unfold VI;exact have:=J2.1 h.2;have:J0 X.1.2<=B:=h.1.2.1;have:J0 X.1.2=_:=JE h.1.2;have:J0 X.1.1=_/\_:=lF h.1.1;cU (J0 X.1.1) (λq=>(X.2,q,X.1)) λx I P z=>.lt (λe=>.bind (Jl h.1.1) λJ o=>.bind (Jl h.1.2) λO k=>.bind (FX (B:=0) (S:=0) ⟨o.1,k.1⟩) λL G=>.ite (λr=>.some trivial) λr=>.some ⟨e,rfl⟩) λe=>.inr (cU X.2 (λq=>(X.2,q,X.1)) λw D F A=>.lt (λg=>.bind (Jl h.1.2) λH v=>.bind (Jl h.1.2) λK n=>.bind (FX (B:=0) (S:=0) ⟨v.1,n.1⟩) λN C=>.ite (λj=>.some trivial) λj=>.some ⟨g,rfl⟩) λg=>.some trivial)
section
variable {B S:Int}
theorem Im{X:TR}(h:aB B S (.pr (.l Jb) Jb) X)(W:BS B S 0 0:=by omega)(hB:B<=17179869183:=by omega):Tot (SE X) λy=>aB (B+1) S (.l Jb) y/\J0 y<=J0 X.1+1:=by
 obtain⟨un,n⟩:=X;obtain⟨h,N⟩:=h;unfold SE;dsimp only;dsimp only at h N;have M:J0 un<=B:=h.1;have J:=Jh (l:=un);refine Jq (τ:=Bool×Int×List aD) (λq=>(un,q.1,q.2.1,n,q.2.2)) (λq=>0<=q.2.1/\q.2.1<=J0 un/\aB (B+1) S (.l Jb) q.2.2/\J0 q.2.2<=q.2.1+1/\(q.1=false->J0 q.2.2<=q.2.1)) (λq=>J0 un-q.2.1) ?_ (false,0,[]) rfl ⟨aZ _,J,Jc,by show(0:Int)<=0+1;omega,λ_=>aZ _⟩;rintro⟨done,i,out⟩ ⟨h0,h1,h2,h3,g⟩;dsimp only at h0 h1 h2 h3 g;unfold wr;dsimp only;have:=Jm i 1;have app: ∀{x:aD} {l:List aD},aB (B+1) S (.l Jb) l->aB (B+1) S Jb x->J0 l+1<=B+1->Tot (JO 32 l [x]) λr=>aB (B+1) S (.l Jb) r/\J0 r=J0 l+1:=λM T L=>
  (bT (B:=B+1) (Bl:=B+1) (Bm:=B+1) (S:=S) _ 1 M (cF oo T) rfl rfl (aZ _) (aZ _) L oo (by decide)).mono λ_ h=>⟨h.1,h.2.1⟩
 have k:aB (B+1) S Jb n:=N.u;have G: ∀{d:Bool} {l:List aD},i<J0 un->aB (B+1) S (.l Jb) l->J0 l<=i+2->(d=false->J0 l<=i+1)->(∃c':Bool×Int×List aD,(un,d,J1 .i64 i 1,n,l)=(un,c'.1,c'.2.1,n,c'.2.2)/\(0<=c'.2.1/\c'.2.1<=J0 un/\aB (B+1) S (.l Jb) c'.2.2/\J0 c'.2.2<=c'.2.1+1/\(c'.1=false->J0 c'.2.2<=c'.2.1))/\J0 un-c'.2.1<J0 un-i/\0<=J0 un-i):=fun{d l} a1 U a3 R=>
  ⟨(d,J1 .i64 i 1,l),rfl,⟨by show 0<=J1 .i64 i 1;omega,by show J1 .i64 i 1<=_;omega,U,by show J0 l<=J1 .i64 i 1+1;omega,λe=>by show J0 l<=J1 .i64 i 1;have:=R e;omega⟩,by show J0 un-J1 .i64 i 1<J0 un-i;omega,oo⟩
 refine .lt (λc=>?_) λc=>Tot.map (P:=λy:List aD=>aB (B+1) S (.l Jb) y/\J0 y<=J0 un+1) ?_ λ_ h=>h;have v:Tot (idx un i) λr=>aB (B+1) S Jb r:=(Jl h h0 c).mono λ_ h=>h.1.u;have body: ∀{d:Bool} {l:List aD},aB (B+1) S (.l Jb) l->J0 l<=i+1->(d=false->J0 l<=i)->Tot (ρ:=(kz)⊕(List aD)) ((idx un i).bind λF=>
   if aM F.1 n.1=false then
    (idx un i).bind λw=>
    if Jp (eqT cY w.2.1 n.2.1)then
     (idx un i).bind λD=>
     (JO 32 l [D]).bind λA=>
     some (.inl (un,d,J1 .i64 i 1,n,A))
    else
     some (.inl (un,d,J1 .i64 i 1,n,l))
   else
    (idx un i).bind λE=>
    (JO 32 l [E]).bind λC=>
    some (.inl (un,d,J1 .i64 i 1,n,C))) λr=>match r with| .inl z=> ∃c':Bool×Int×List aD,z=(un,c'.1,c'.2.1,n,c'.2.2)/\(0<=c'.2.1/\c'.2.1<=J0 un/\aB (B+1) S (.l Jb) c'.2.2/\J0 c'.2.2<=c'.2.1+1/\(c'.1=false->J0 c'.2.2<=c'.2.1))/\J0 un-c'.2.1<J0 un-i/\0<=J0 un-i| .inr y=>aB (B+1) S (.l Jb) y/\J0 y<=J0 un+1:=fun{d l} b1 b2 b3=>
  .bind v λF V=>.nef (λ_=>.bind v λw Y=>.ite (λ_=>.bind v λD H=>.bind (app b1 H oo) λA j=>.some (G c j.1 (by have:=j.2;omega) λe=>by have:=b3 e;have:=j.2;omega)) λ_=>.some (G c b1 oo λe=>by have:=b3 e;omega)) λ_=>.bind v λE I=>.bind (app b1 I oo) λC o=>.some (G c o.1 (by have:=o.2;omega) λe=>by have:=b3 e;have:=o.2;omega)
 refine .not (λd=>?_) λd=>(body h2 h3 g).mono λr h=>by cases r<;>exact h
 have g:=g d;refine .bind v λO Q=>.bind (uf (X:=(O,n)) ⟨Q,k⟩) λy4 f4=>.not (λ_=>.bind (app h2 k oo) λZ K=>?_) λ_=>(body h2 h3 λ_=>g).mono λr h=>by cases r<;>exact h
 exact(body (d:=true) K.1 (by have:=K.2;omega) λe=>by cases e).mono λr h=>by cases r<;>exact h
 exact .not (λd=>.bind (app h2 k (by have:=g d;omega)) λy f=>.some ⟨f.1,by have:=f.2;have:=g d;omega⟩) λ_=>.some ⟨h2,oo⟩
theorem MX{X:dA}(h:aB B S JH X)(F:BS B S 0 0:=by omega)(J:B<=1000000:=by omega):Tot (wY X) λy=>aB (2*B) S JH y/\J0 y.1+J0 y.2<=J0 X.1+J0 X.2:=by
 unfold wY;obtain⟨w,v⟩:=h;have:J0 X.1<=B:=w.1;have:J0 X.2<=B:=v.1;refine Jq (τ:=vC) (λq=>(q.1,q.2,[],[])) (λq=>0<=q.1/\q.1<=J0 q.2.2/\aB (2*B) S JH q.2/\J0 q.2.1+J0 q.2.2<=J0 X.1+J0 X.2) (λq=>3000000*J0 q.2.2+(J0 q.2.2-q.1)) ?_ (0,X) rfl ⟨aZ _,Jh,⟨w.u,v.u⟩,aZ _⟩;rintro⟨i,z⟩ ⟨h0,h1,h2,h3⟩;dsimp only at h0 h1 h2 h3;unfold x8;dsimp only;have K:=Jm i 1;have L:=Jm (-1) 1;have:=Jh (l:=z.1);have:=Jh (l:=z.2);refine .lt (λc=>?_) λc=>.some ⟨h2,h3⟩;refine .bind (Lj (X:=(z,i)) ⟨h2,J2.2 oo⟩ h0 c) λH _=>.ite (λ_=>?_) λ_=>?_;refine .bind (Jl h2.2 h0 c) λD E=>.bind (Im (X:=(z.1,D)) ⟨h2.1,E.1⟩) λj o=>.bind (qO h2.2 h0 (by show i<=J0 z.2;omega)) λC k=>.clo k.1 oo (by decide) (.bind (pI h2.2 oo (by show _<=J0 z.2;omega)) λg n=>?_);have A:J0 C=i:=k.2;have I:J0 g=J0 z.2-J1 .i64 i 1:=n.2;refine .bind (bT (B:=2*B) (Bl:=2*B) (Bm:=2*B) (S:=S) i (J0 g) k.1 n.1 A rfl oo oo oo oo (by decide)) λe r=>?_;have G:J0 e=i+J0 g:=r.2.1;have x:=o.2;dsimp only at x;refine .some ⟨(J1 .i64 (-1) 1,(j,e)),rfl,⟨by show 0<=J1 .i64 (-1) 1;omega,by show J1 .i64 (-1) 1<=J0 e;omega,⟨⟨by show J0 j<=2*B;omega,o.1.2⟩,r.1⟩,by show J0 j+J0 e<=_;omega⟩,?_,?_⟩;show 3000000*J0 e+(J0 e-J1 .i64 (-1) 1)<3000000*J0 z.2+(J0 z.2-i);omega;show 0<=3000000*J0 z.2+(J0 z.2-i);omega;refine .some ⟨(J1 .i64 i 1,z),rfl,⟨by show 0<=J1 .i64 i 1;omega,by show J1 .i64 i 1<=J0 z.2;omega,h2,h3⟩,?_,?_⟩;show 3000000*J0 z.2+(J0 z.2-J1 .i64 i 1)<3000000*J0 z.2+(J0 z.2-i);omega;show 0<=3000000*J0 z.2+(J0 z.2-i);omega
end
theorem VZ{B S:Int}{X:nK}(h:aB B S CO X)(A:BG B S:=by omega):Tot (BI X) λy=>aB B S JH y:=by unfold BI;exact .bind ((AY h.1).eqn) λC h1=>.not (λr=>.some h.1) λr=>have z:=wU h.1 h1.2 r;have e:aB 1024 0 JH X.1:=z.2;.bind (SD (B:=1024) (S:=0) ⟨e.1,h.2,trivial,aP⟩) λv n=>have g:aB 1025 0 (.l Jb) v:=n.u;.bind (SD (B:=1024) (S:=0) ⟨e.2,h.2,trivial,aP⟩) λx j=>have o:aB 1025 0 (.l Jb) x:=j.u;.bind (MX (B:=1025) (S:=0) ⟨g,o⟩) λw q=>have k:aB 2050 0 JH w:=q.1.u;.some k.u
theorem WC{B S:Int}{X:cX}(h:aB B S fH X)(x:BG B S:=by omega):Tot (mI X) λy=>aB 4096 8192 (.pr Jo zI) y:=by unfold mI;exact .bind ((kM h.1).eqn) λC h1=>.not (λo=>.some ⟨aP,aG 15⟩) λo=>have v:=lO h.1 h1.2 o;have e:aB 4096 8192 Ja X.1:=v.2;.bind ((rJ (B:=4096) (S:=8192) (X:=(X.1.2.2.2.2.2.1,X.2)) ⟨e.g.1,h.2⟩).eqn) λn j=>have:=J2.1 j.1.1;have:J0 X.1.2.2.2.2.2.1=_:=JE e.g.1;have: -1<=n/\n<J0 X.1.2.2.2.2.2.1:=j.1.2;.lt (λq=>.some ⟨aP,aG 16⟩) λq=>.bind (Jl e.g.1) λA w=>.eq (λk=>.some ⟨aP,aG 15⟩) λk=>.bind (Jl e.g.1) λz r=>.some ⟨r.1,aC⟩
theorem uu{B S:Int}{X:cX}(h:aB B S fH X)(r:BG B S:=by omega):Tot (pS X) λy=>aB 0 8192 TS y:=by unfold pS;exact .bind (WC (B:=B) (S:=S) (h)) λg h1=>.nef (λn=>have:J0 g.1.2.2.2.2.1<=4096:=h1.1.e.1.1;have:=Jh (l:=g.1.2.2.2.2.1);.eqf (λq=>have:=bC (J0 g.1.2.2.2.2.1) 1;.bind (Jl h1.1.e.1) λv w=>.le (λo=>.some ⟨⟨aC,aC,aC,aC,aC,aC,⟨aC,aC,⟨trivial,J9⟩,trivial,J9⟩,J9⟩,trivial⟩) λo=>.bind (Jl h1.1.e.1) λx k=>.bind (tR (B:=B) (S:=S) ⟨h.1.c.1,k.1⟩) λz j=>.some ⟨j.1,trivial⟩) λq=>.some ⟨⟨aC,aC,aC,aC,aC,aC,⟨aC,aC,⟨trivial,J9⟩,trivial,J9⟩,J9⟩,trivial⟩) λn=>.some ⟨⟨aC,aC,aC,aC,aC,aC,⟨aC,aC,⟨trivial,J9⟩,trivial,J9⟩,J9⟩,trivial⟩
theorem vw{B S:Int}{X:SW}(h:aB B S (.pr Jd dQ) X)(o:BS B S 0 0:=by omega):Tot (rS X) λy=>aB 0 S sC y:=by unfold rS;exact have s0:aB 0 S (.pr Jd dQ) X:=h;.bind (im (B:=0) (S:=S) s0.2) λv h1=>.not (λg=>.some ⟨⟨aC,aC,bZ oo oo (.ar 16 Jr)⟩,aG 22⟩) λg=>have:=J2.1 s0.2.1;have:=J2.1 s0.2.2.1;have:0<=X.2.1/\X.2.1<64/\0<=X.2.2.1/\X.2.2.1<16/\J0 X.2.2.2.1.2<=12/\J0 X.2.2.2.2.2<=12:=h1.2 g;.ne (λj=>.some ⟨⟨aC,aC,bZ oo oo (.ar 16 Jr)⟩,aG 6⟩) λj=>.bind (fK) λ_ _=>.bind (iS s0.1.2.2) λw k=>.not (λe=>.some ⟨⟨aC,aC,bZ oo oo (.ar 16 Jr)⟩,aG 20⟩) λe=>have n:=dY.1 e;.bind (fK) λ_ _=>.bind (iS s0.1.2.2) λr q=>.some ⟨⟨s0.1.1,s0.1.2.1,vY s0.1.2.2 s0.2.2.2.2⟩,aC⟩
theorem Vz{B S:Int}{X:aN}(h:aB B S dQ X)(e:BS B S 0 0:=by omega):Tot (MW X) λy=>aB 0 S dQ y:=by unfold MW;exact have s0:aB 0 S dQ X:=h;.some ⟨s0.1,s0.2.1,s0.2.2.2,s0.2.2.1⟩
theorem uy{B S:Int}{X:OD}(h:aB B S (.pr JH Jf) X)(w:BG B S:=by omega):Tot (MF X) λy=>aB B S JH y:=by unfold MF;exact .bind ((AY h.1).eqn) λx h1=>.not (λg=>.some h.1) λg=>have v:=wU h.1 h1.2 g;have e:aB 1024 0 JH X.1:=v.2;.bind (SD (B:=1024) (S:=0) ⟨e.1,h.2.1,trivial,h.c⟩) λq k=>have j:aB 1025 0 (.l Jb) q:=k.u;.bind (MX (B:=1025) (S:=0) ⟨j,e.2.u⟩) λr n=>have o:aB 2050 0 JH r:=n.1.u;.some o.u
theorem T9{B S:Int}{X:NN}(h:aB B S kl X)(K:BG B S:=by omega):Tot (AI X) λy=>aB 64 12 sL y:=by unfold AI;exact .bind ((xC h.1).eqn) λN h1=>.not (λw=>.some ⟨aP,aG 15⟩) λw=>have J:=rR h.1 h1.2 w;have:J0 X.1.2.1=_:=JE h.1.2.1;have g:aB 64 12 JS X.1:=J.2;.bind ((MO (B:=0) (S:=S) (X:=X.2) h.2.z).eqn) λL n=>.ne (λk=>.some ⟨aP,n.1⟩) λk=>have E:=MI (x:=X.2) h.2.z n.2 k;have j:aB 0 12 Jd X.2:=E.2;.bind (AG (B:=64) (S:=12) ⟨g,j.1⟩) λC e=>have:=J2.1 e.1;have: -1<=C/\C<J0 X.1.2.1:=e.2;.lt (λA=>.some ⟨aP,aG 18⟩) λA=>.bind (Jl g.2.1) λM G=>.le (λD=>.some ⟨aP,aG 8⟩) λD=>.not (λq=>.bind (FB (B:=64) (S:=12) ⟨g,e.1,j.u,trivial,j.2.1,trivial⟩ om om) λI r=>have v:aB 64 12 JS I:=r.1.u;.some ⟨v,aC⟩) λq=>.bind (FB (B:=64) (S:=12) ⟨g,e.1,j.u,trivial,G.1.z.2.2.1,trivial⟩ om om) λH F=>have o:aB 64 12 JS H:=F.1.u;.some ⟨o,aC⟩
theorem gv{B S:Int}{X:CU}(h:aB B S HO X)(r:BG B S:=by omega):Tot (tS X) λy=>aB B S fH y/\(y.2=0->J0 y.1.2.2.1.2.1=J0 X.1.2.2.1.2.1+1):=by unfold tS;exact .bind ((wI (B:=B) (S:=S) (X:=(X.1,X.2)) ⟨h.1,h.2.z.u⟩).eqn) λk h1=>have:J0 k.1.2.2.1.2.1=_:=JE h1.1.1.1.c.1.2.1;have:J0 X.1.2.2.1.2.1=_:=JE h.1.c.1.2.1;have:=J2.1 h.2.z.2.2.2.2.2.2.1.2.1;have:k.2.2=0->J0 k.1.2.2.1.2.1=J0 X.1.2.2.1.2.1+1/\J0 X.1.2.2.1.2.1<=4095/\0<=X.2.2.2.2.2.2.2.1.1/\X.2.2.2.2.2.2.2.1.1<64/\0<=X.2.2.2.2.2.2.2.1.2.1/\X.2.2.2.2.2.2.2.1.2.1<16:=h1.1.2;.ne (λn=>.some ⟨⟨h.1,h1.1.1.c⟩,om⟩) λn=>.bind (LP (B:=B) (S:=S) ⟨h.1.d.1,h.2.z.2.2.2.2.2.2.1.1⟩) λw g=>.bind (fK) λ_ _=>.bind (iS g.1.c) λx q=>.bind (T9 (B:=B) (S:=S) ⟨h.1.d.1,g.1.1,h1.1.1.2.1,(vY g.1.c h.2.z.2.2.2.2.2.2.1.2.2.2).u⟩) λv j=>.ne (λo=>.some ⟨⟨h.1,j.2⟩,om⟩) λo=>.some ⟨⟨⟨h1.1.1.1.1,h1.1.1.1.2.1,h1.1.1.1.c.1.u,j.1.u,h1.1.1.1.e.u⟩,aC⟩,om⟩
theorem JBc{B S:Int}{X:zu}(h:aB B S (.pr Ja (.pr Jo (.pr cY zI))) X)(p0:X.2.2.2<=J0 X.2.1.2.2.2.2.1)(C:0<=X.2.2.2)(x:BC B S 0 0:=by omega):Tot (zJ X) λy=>aB 0 8192 TS y:=by unfold zJ;exact have:=J2.1 h.d;have:J0 X.2.1.2.2.2.2.1<=B:=h.2.1.e.1.1;have:=bC X.2.2.2 1;Jq (τ:=Int) (λq=>(q,X.1,X.2.1,X.2.2.1,0,0,0,0,0,0,(0,0,(false,[]),false,[]),[])) (λq=>(aB 0 0 zI q/\q<=JJ .i64 X.2.2.2 1)) (λq=>q-0) (by rintro g ⟨w,z⟩;exact have:=J2.1 w;.ge (λv=>.bind (Jl h.2.1.e.1) λA r=>.bind (tR (B:=B) (S:=S) ⟨h.1.c.1,r.1⟩) λD j=>.eq (λk=>have:=J2.1 j.1.h.1.1;.eq (λo=>have:=J2.1 j.1.h.1.2.1;.eq (λn=>.some ⟨j.1,trivial⟩) λn=>have:=bC g 1;.some ⟨JJ .i64 g 1,rfl,⟨dX,om⟩,om,om⟩) λo=>have:=bC g 1;.some ⟨JJ .i64 g 1,rfl,⟨dX,om⟩,om,om⟩) λk=>have:=bC g 1;.some ⟨JJ .i64 g 1,rfl,⟨dX,om⟩,om,om⟩) λv=>.some ⟨⟨aC,aC,aC,aC,aC,aC,⟨aC,aC,⟨trivial,J9⟩,trivial,J9⟩,J9⟩,trivial⟩) (JJ .i64 X.2.2.2 1) rfl ⟨dX,om⟩
theorem xj{B S:Int}{X:DH}(h:aB B S lc X)(o:BG B S:=by omega):Tot (uA X) λy=>aB 0 8192 TS y:=by unfold uA;exact .bind (WC (B:=B) (S:=S) ⟨h.1,h.2.1⟩) λg h1=>.nef (λj=>have:=J2.1 h1.1.2.1;.ne (λn=>.some ⟨⟨aC,aC,aC,aC,aC,aC,⟨aC,aC,⟨trivial,J9⟩,trivial,J9⟩,J9⟩,trivial⟩) λn=>have:J0 g.1.2.2.2.2.1<=4096:=h1.1.e.1.1;have:=Jh (l:=g.1.2.2.2.2.1);.bind (JBc (B:=B) (S:=S) ⟨h.1,h1.1.u,h.c,jR h1.1.e.1.1 oo⟩ om om) λq k=>.some ⟨k.1,trivial⟩) λj=>.some ⟨⟨aC,aC,aC,aC,aC,aC,⟨aC,aC,⟨trivial,J9⟩,trivial,J9⟩,J9⟩,trivial⟩
theorem g6{B S:Int}{X:TP}(h:aB B S (.pr Ja (.pr Jo J8)) X)(F:BG B S:=by omega):Tot (gQ X) λy=>aB B S nZ y/\((y.2.1=1/\J0 y.1.2.2.1.2.1=J0 X.1.2.2.1.2.1+1)\/y.2.1=3\/y.2.1=5):=by unfold gQ;exact .bind (LP (B:=B) (S:=S) ⟨h.1.d.1,h.c.z.2.2.2.2.2.2.1.1⟩) λM h1=>.not (λD=>have:J0 X.1.2.2.1.2.1<=B:=h.1.c.1.2.1.1;.some ⟨⟨h.1,aG 3,aC,h.c.z.2.2.2.2.2.2.1.1,⟨trivial,J9⟩,aC⟩,om⟩) λD=>.bind (Vz (B:=0) (S:=S) h.c.z.2.2.2.2.2.2.1) λH k=>.bind (vw (B:=0) (S:=S) ⟨h1.1,k⟩) λL C=>.ne (λA=>.bind (eS C.2) λJ v=>.some ⟨⟨h.1,v.1.u⟩,om⟩) λA=>.bind (gv (B:=B) (S:=S) ⟨h.1,aC,aG 2,h.2.1.1,aC,aC,h.c.z.1,k.u,J9⟩) λn j=>have:J0 n.1.2.2.1.2.1=_:=JE j.1.1.c.1.2.1;have:J0 X.1.2.2.1.2.1=_:=JE h.1.c.1.2.1;have:n.2=0->J0 n.1.2.2.1.2.1=J0 X.1.2.2.1.2.1+1:=j.2;.ne (λq=>.bind (eS j.1.2) λG x=>.some ⟨⟨h.1,x.1.u⟩,om⟩) λq=>have:=J2.1 h.2.1.2.1;.eq (λo=>.bind (xj (B:=B) (S:=S) ⟨j.1.1,h.2.1.1,k.1,k.2.1⟩) λI E=>.not (λr=>.bind (uy (B:=B) (S:=S) ⟨j.1.1.e.1,h.2.1.1,k.1,k.2.1⟩) λK w=>.some ⟨⟨⟨j.1.1.1,j.1.1.2.1,j.1.1.c.1,j.1.1.d.1,w,j.1.1.g⟩,aG 1,h.2.1.1,aC,⟨trivial,J9⟩,aC⟩,om⟩) λr=>.some ⟨⟨j.1.1,aG 1,h.2.1.1,aC,⟨trivial,J9⟩,aC⟩,om⟩) λo=>.some ⟨⟨j.1.1,aG 1,h.2.1.1,aC,⟨trivial,J9⟩,aC⟩,om⟩
theorem us{B S:Int}{X:cX}(h:aB B S fH X)(Q:BG B S:=by omega):Tot (fY X) λy=>aB B S nZ y/\((y.2.1=1/\J0 y.1.2.2.1.2.1=J0 X.1.2.2.1.2.1+1)\/y.2.1=3\/y.2.1=5):=by unfold fY;exact .bind (WC (B:=B) (S:=S) (h)) λM h1=>.ne (λK=>.bind (eS h1.2) λT N=>.some ⟨⟨h.1,N.1.u⟩,om⟩) λK=>have:=J2.1 h1.1.2.1;.eq (λF=>have:J0 M.1.2.2.2.2.1<=4096:=h1.1.e.1.1;.eq (λv=>.bind ((wI (B:=B) (S:=S) (X:=(X.1,0,5,X.2,0,0,0,(0,0,(false,[]),false,[]),[])) ⟨h.1,aC,aG 5,h.2,aC,aC,aC,⟨aC,aC,⟨trivial,J9⟩,trivial,J9⟩,J9⟩).eqn) λr j=>have:J0 r.1.2.2.1.2.1=_:=JE j.1.1.1.c.1.2.1;have:J0 X.1.2.2.1.2.1=_:=JE h.1.c.1.2.1;have:r.2.2=0->J0 r.1.2.2.1.2.1=J0 X.1.2.2.1.2.1+1/\J0 X.1.2.2.1.2.1<=4095/\0<=(0:Int)/\(0:Int)<64/\0<=(0:Int)/\(0:Int)<16:=j.1.2;.ne (λH=>.bind (eS j.1.1.c) λV x=>.some ⟨⟨h.1,x.1.u⟩,om⟩) λH=>.bind (VZ (B:=16384) (S:=1073741824) ⟨j.1.1.1.e.1,h.2⟩) λL A=>have E:aB 16384 1073741824 JH L:=A.u;.some ⟨⟨⟨j.1.1.1.1,j.1.1.1.2.1,j.1.1.1.c.1.u,j.1.1.1.d.1.u,E.u,j.1.1.1.g.u⟩,aG 1,aC,aC,⟨trivial,J9⟩,aC⟩,om⟩) λv=>.bind (uu (B:=B) (S:=S) (h)) λR D=>.not (λw=>.bind (eS (B:=0) (S:=0) (aG 14)) λU C=>.some ⟨⟨h.1,C.1.u⟩,om⟩) λw=>.bind (g6 (B:=B) (S:=S) ⟨h.1,h1.1.u,D.1.u⟩) λq o=>have:(q.2.1=1/\J0 q.1.2.2.1.2.1=J0 X.1.2.2.1.2.1+1)\/q.2.1=3\/q.2.1=5:=o.2;.some ⟨⟨o.1.1,o.1.2.z.u⟩,om⟩) λF=>.bind (uu (B:=B) (S:=S) (h)) λO G=>.not (λI=>.bind (eS (B:=0) (S:=0) (aG 14)) λP J=>.some ⟨⟨h.1,J.1.u⟩,om⟩) λI=>.bind (g6 (B:=B) (S:=S) ⟨h.1,h1.1.u,G.1.u⟩) λk n=>have:(k.2.1=1/\J0 k.1.2.2.1.2.1=J0 X.1.2.2.1.2.1+1)\/k.2.1=3\/k.2.1=5:=n.2;.some ⟨⟨n.1.1,n.1.2.z.u⟩,om⟩
theorem xk{B S:Int}{X:cX}(h:aB B S fH X)(x:BG B S:=by omega):Tot (MY X) λy=>aB 4096 8192 (.pr Jo .b) y:=by unfold MY;exact .bind ((kM h.1).eqn) λC h1=>.ite (λo=>have v:=lO h.1 h1.2 o;have e:aB 4096 8192 Ja X.1:=v.2;.bind ((rJ (B:=4096) (S:=8192) (X:=(X.1.2.2.2.2.2.1,X.2)) ⟨e.g.1,h.2⟩).eqn) λk n=>have:J0 X.1.2.2.2.2.2.1=_:=JE e.g.1;have: -1<=k/\k<J0 X.1.2.2.2.2.2.1:=n.1.2;.ge (λq=>.bind (Jl e.g.1) λA w=>.eq (λj=>.bind (Jl e.g.1) λz r=>.some ⟨r.1,trivial⟩) λj=>.some ⟨aP,trivial⟩) λq=>.some ⟨aP,trivial⟩) λo=>.some ⟨aP,trivial⟩
theorem Lx{B S:Int}{X:J7}(h:aB B S Ja X)(C:BH B S:=by omega)(J:B<=34359738368:=by omega):Tot (SC X) λy=>aB B 0 (.l zI) y:=by unfold SC;exact have:J0 X.2.2.2.2.2.1=_/\_:=lF h.g.1;Jq (τ:=NJ) (λq=>(q.1,X,q.2)) (λq=>(aB 0 0 zI q.1/\0<=q.1/\(q.1<=J0 X.2.2.2.2.2.1\/q.1<=0))/\(aB B 0 (.l zI) q.2/\J0 q.2<=1*q.1+0)) (λq=>J0 X.2.2.2.2.2.1-q.1) (by rintro⟨e,j⟩ n;dsimp only at n;obtain⟨⟨i4,D,I⟩,k,E⟩:=n;unfold wv;(try dsimp only);exact have:=J2.1 i4;.lt (λx=>.bind (Jl h.g.1) λF o=>.bind (xk (B:=B) (S:=S) ⟨h,o.1.1⟩) λH A=>.ite (λw=>.bind (Jl h.g.1) λG r=>have:J0 j<=B:=k.1;.bind (bT (B:=B) (Bl:=B) (Bm:=1) (S:=0) (J0 j) 1 k (cF (B:=1) (S:=0) (t:=zI) oo r.1.1)) λz v=>have:=Jm e 1;.some ⟨(J1 .i64 e 1,z),rfl,⟨⟨Je,om,om⟩,v.1,om⟩,om,om⟩) λw=>have:=Jm e 1;.some ⟨(J1 .i64 e 1,j),rfl,⟨⟨Je,om,om⟩,k,om⟩,om,om⟩) λx=>.some k) (0,[]) rfl (have:J0 ([]:List Int)=0:=rfl;⟨⟨aC,om,om⟩,Jc,om⟩)
theorem F7{B S:Int}{X:qI}(h:aB B S jq X)(n:BS B S 0 0:=by omega)(v:B<=9223372036854775807:=by omega):Tot (RV X) λy=>aB 0 0 .b y:=by unfold RV;exact have:J0 X.1<=B:=h.1.1;have:=Jh (l:=X.1);cU (J0 X.1) (λq=>(X.1,X.2,q)) λj i3 o w=>by unfold wb;dsimp only;exact .lt (λg=>.bind (Jl h.1) λr k=>.eq (λe=>.some trivial) λe=>.some ⟨g,rfl⟩) λg=>.some trivial
theorem Li{B S:Int}{X:jH}(h:aB B S xM X)(o:BC B S 0 0:=by omega):Tot (RZ X) λy=>aB 0 256 kQ y:=by unfold RZ;exact .bind ((iv (B:=B) (S:=S) (X:=(X.1,X.2)) (h)).eqn) λv h1=>.ne (λg=>.some ⟨J9,h1.1⟩) λg=>have n:=Ur (x:=(X.1,X.2)) (h) h1.2 g;have:=J2.1 h.2;have:0<=X.2/\X.2<J0 X.1.1/\J0 X.1.1<=64:=n.1;have e:aB 64 256 JZ X.1:=n.2;.bind (F7 (B:=64) (S:=256) ⟨e.c.1,h.2⟩) λr q=>.ite (λk=>.some ⟨J9,aG 11⟩) λk=>.bind (Jl e.1) λw j=>.some ⟨j.1.z,aC⟩
theorem hM{B S:Int}{X:mS}(h:aB B S JF X)(D:BS B S 0 0:=by omega)(H:S<=9223372036854775807:=by omega):Tot (dN X) λy=>aB 0 0 cY y:=by unfold dN;exact have s0:aB 0 S JF X:=h;have:=J2.1 s0.2.2;.ltf (λc1=>.gtf (λx=>have:=J2.1 s0.2.1;.lt (λw=>.some ⟨aC,aG 1⟩) λw=>have:J0 X.1<=S:=s0.1;have:=Jh (l:=X.1);.gtf (λv=>have:=bC (J0 X.1) X.2.1;.lt (λo=>.some ⟨aC,aG 5⟩) λo=>Jq (τ:=Int×Int) (λq=>(X.1,X.2.1,X.2.2,q.1,q.2)) (λq=>(aB 0 0 zI q.2/\0<=q.2/\(q.2<=X.2.2\/q.2<=0))/\aB 0 0 (.i .u64) q.1) (λq=>X.2.2-q.2) (by rintro⟨j,e⟩ g;dsimp only at g;obtain⟨⟨k,C,z⟩,F⟩:=g;unfold VG;(try dsimp only);exact have:=J2.1 k;.lt (λn=>have:=Jm X.2.1 e;.bind (NP (l:=X.1)) λG E=>have:=cvu .u64 (cV .i64 8 e);.bind (JKG (B:=0) (S:=0) oo) λr A=>have:=Jm e 1;.some ⟨(orI .u64 j r,J1 .i64 e 1),rfl,⟨⟨Je,om,om⟩,JJf⟩,om,om⟩) λn=>.some ⟨sX,aC⟩) (0,0) rfl ⟨⟨aC,om,om⟩,cS .u64 0⟩) λv=>.some ⟨aC,aG 5⟩) λx=>.some ⟨aC,aG 1⟩) λc1=>.some ⟨aC,aG 1⟩
theorem N8{B S:Int}{X:Unit}(h:aB B S .u X)(e:BS B S 0 0:=by omega):Tot (UT X) λy=>aB 0 1000000 .s y:=by unfold UT;exact .bind (VA (B:=0) (S:=0) (aG 256) om om) λg h1=>.some h1.1
end Go.Am
end
section
namespace Go.Am
set_option linter.unusedVariables false
set_option maxRecDepth 20000
set_option maxHeartbeats 4000000
theorem Sf{B S:Int}{X:List UInt8}(h:aB B S .s X)(W:BS B S 0 0:=by omega)(hS:S<=9223372036854775807:=by omega):Tot (VM X) λy=>aB 0 S sC y:=by unfold VM;exact have s0:aB 0 S .s X:=h;have:=Jh (l:=X);.ne (λc1=>.some ⟨⟨aC,aC,bZ oo oo (.ar 16 Jr)⟩,aG 2⟩) λc1=>.bind (N8 trivial) λy2 h4=>.ite (λM=>.some ⟨⟨aC,aC,bZ oo oo (.ar 16 Jr)⟩,aG 7⟩) λM=>.bind (vS s0) λy3 h6=>.bind (pb s0) λy4 h9=>.ite (λr=>.some ⟨⟨aC,aC,bZ oo oo (.ar 16 Jr)⟩,aG 27⟩) λr=>.bind ((hM (B:=0) (S:=S) (X:=(X,244,4)) ⟨s0,aG 244,aG 4⟩).eqn) λy5 O=>.bind (vS s0) λL w=>have A:aB 0 S .s L:=w.1;.bind (RU A) λy7 Q=>.ne (λI=>.some ⟨⟨aC,aC,bZ oo oo (.ar 16 Jr)⟩,aG 3⟩) λI=>.bind ((hM (B:=0) (S:=S) (X:=(X,0,8)) ⟨s0,aC,aG 8⟩).eqn) λK D=>.bind ((hM (B:=0) (S:=S) (X:=(X,8,4)) ⟨s0,aG 8,aG 4⟩).eqn) λN C=>Jq (τ:=NZ) (λq=>(X,q.1,(0,0,Vector.replicate 16 (false,[])),q.2)) (λq=>(aB 0 0 zI q.1/\0<=q.1/\(q.1<=16\/q.1<=0))/\aB 0 S Jd q.2) (λq=>16-q.1) (by rintro⟨e,g⟩ n;dsimp only at n;obtain⟨⟨z,P,Z⟩,j⟩:=n;unfold x4;(try dsimp only);exact have:=J2.1 z;.lt (λG=>have:=jo e 13;have:=mV 12 (cV .i64 e 13);.bind (NP (l:=X)) λo T=>have:=k7 o;.eq (λF=>have:=mV e 1;.some ⟨(J1 .i64 e 1,g),rfl,⟨⟨Je,om,om⟩,j⟩,om,om⟩) λF=>.gt (λE=>.some ⟨⟨aC,aC,bZ oo oo (.ar 16 Jr)⟩,aG 4⟩) λE=>have:=mV (J1 .i64 12 (cV .i64 e 13)) 1;have:=mV (J1 .i64 (J1 .i64 12 (cV .i64 e 13)) 1) (bS .i64 o);.bind (LI s0) λk J=>have H:aB 0 S .s k:=J.1;.bind (fK) λ_ _=>.bind (iS j.2.2) λV Y=>have:=mV e 1;.some ⟨(J1 .i64 e 1,(g.1,g.2.1,hU g.2.2 (Int.toNat e) (true,k))),rfl,⟨⟨Je,om,om⟩,j.1,j.2.1,vY j.2.2 ⟨trivial,H⟩⟩,om,om⟩) λG=>.inr (.bind (ik j) λR U=>.nef (λx=>.ite (λv=>.some ⟨⟨aC,aC,bZ oo oo (.ar 16 Jr)⟩,aG 4⟩) λv=>.some ⟨j,aC⟩) λx=>.some ⟨⟨aC,aC,bZ oo oo (.ar 16 Jr)⟩,aG 4⟩)) (0,(N.1,K.1,Vector.replicate 16 (false,[]))) rfl ⟨⟨aC,om,om⟩,C.1.1,D.1.1,bZ om om (.ar 16 Jr)⟩
theorem E4{B S X:Int}(h:aB B S zI X)(e:BS B S 0 0:=by omega):Tot (LS X) λy=>aB 0 0 Jd y:=by unfold LS;exact .some ⟨h,aC,bZ oo oo (.ar 16 Jr)⟩
theorem Wt{B S:Int}{X:eU}(h:aB B S kQ X)(q:BS B S 0 0:=by omega)(v:S<=9223372036854775807:=by omega):Tot (BF X) λy=>aB 0 S sC y:=by unfold BF;exact have s0:aB 0 S kQ X:=h;.ltf (λc1=>.ge (λo=>.some ⟨⟨aC,aC,bZ oo oo (.ar 16 Jr)⟩,aG 1⟩) λo=>.bind (Sf (B:=0) (S:=S) s0.1) λw e=>.eq (λn=>.bind (E4 (B:=0) (S:=0) s0.2) λr j=>.some ⟨j.u,aC⟩) λn=>.eq (λk=>have:=J2.1 e.1.1;.ne (λg=>.some ⟨⟨aC,aC,bZ oo oo (.ar 16 Jr)⟩,aG 6⟩) λg=>.some (e)) λk=>.some (e)) λc1=>.some ⟨⟨aC,aC,bZ oo oo (.ar 16 Jr)⟩,aG 1⟩
theorem Nw{B S:Int}{X:zp}(h:aB B S (.pr (.l Jf) (.pr zI (.pr zI .s))) X)(F:BC B S 0 0:=by omega)(K:S<=9223372036854775807:=by omega):Tot (AZ X) λy=>aB 0 S sC y:=by unfold AZ;exact .bind ((FV h.1).eqn) λL h1=>.not (λr=>.some ⟨⟨aC,aC,bZ oo oo (.ar 16 Jr)⟩,aG 28⟩) λr=>have A:=AT h.1 h1.2 r;have:J0 X.1=_:=JE h.1;have g:aB 64 0 (.l Jf) X.1:=A.2;have:=J2.1 h.2.z.1;.ltf (λx=>.gef (λo=>have:=J2.1 h.2.z.2.1;.lt (λj=>.some ⟨⟨aC,aC,bZ oo oo (.ar 16 Jr)⟩,aG 1⟩) λj=>.bind (Wt (B:=0) (S:=S) ⟨h.2.z.2.2,h.2.z.1⟩) λG e=>.ne (λq=>.some ⟨⟨aC,aC,bZ oo oo (.ar 16 Jr)⟩,e.2⟩) λq=>have:=J2.1 e.1.2.1;.gt (λk=>.bind (Jl g) λJ D=>.gt (λw=>.some ⟨⟨aC,aC,bZ oo oo (.ar 16 Jr)⟩,aG 9⟩) λw=>.bind (Jl g) λH C=>.lt (λv=>.some ⟨⟨aC,aC,bZ oo oo (.ar 16 Jr)⟩,aG 8⟩) λv=>.some ⟨e.1,aC⟩) λk=>.bind (Jl g) λI E=>.lt (λn=>.some ⟨⟨aC,aC,bZ oo oo (.ar 16 Jr)⟩,aG 8⟩) λn=>.some ⟨e.1,aC⟩) λo=>.some ⟨⟨aC,aC,bZ oo oo (.ar 16 Jr)⟩,aG 1⟩) λx=>.some ⟨⟨aC,aC,bZ oo oo (.ar 16 Jr)⟩,aG 1⟩
theorem G4{B S:Int}{X:NN}(h:aB B S kl X)(D:BG B S:=by omega):Tot (rK X) λy=>aB 65 12 (.pr zI (.pr zI (.pr zI (.l dU)))) y/\(y.2.2.1=0->J0 y.2.2.2=J0 X.1.2.1+1):=by unfold rK;exact .bind ((xC h.1).eqn) λG h1=>.not (λr=>have:J0 X.1.2.1<=B:=h.1.2.1.1;.some ⟨⟨aC,aC,aG 15,Jc⟩,om⟩) λr=>have w:=rR h.1 h1.2 r;have:J0 X.1.2.1<=B:=h.1.2.1.1;have:J0 X.1.2.1=_:=JE h.1.2.1;have e:aB 64 12 JS X.1:=w.2;.bind ((MO (B:=0) (S:=S) (X:=X.2) h.2.z).eqn) λE g=>.ne (λk=>.some ⟨⟨aC,aC,g.1,Jc⟩,om⟩) λk=>have v:=MI (x:=X.2) h.2.z g.2 k;have n:aB 0 12 Jd X.2:=v.2;.bind (AG (B:=64) (S:=12) ⟨e,n.1⟩) λF C=>.ge (λo=>.some ⟨⟨aC,aC,aG 25,Jc⟩,om⟩) λo=>.eq (λq=>.some ⟨⟨aC,aC,aG 21,Jc⟩,om⟩) λq=>.clo e.2.1 oo (by decide) (.bind (bT (B:=65) (Bl:=64) (Bm:=1) (S:=12) (J0 X.1.2.1) 1 e.2.1 (cF (B:=1) (S:=12) (t:=dU) oo ⟨n.u,trivial,aC,trivial⟩)) λA j=>have:J0 A=_:=JE j.1;.some ⟨⟨e.1,e.c,aC,j.1⟩,om⟩)
theorem Un{B S:Int}{X:j5}(h:aB B S (.pr Ja Jd) X)(a8:BG B S:=by omega):Tot (rL X) λy=>aB 4096 8192 fH y/\(y.2=0->J0 y.1.2.2.1.2.1=J0 X.1.2.2.1.2.1):=by unfold rL;exact .bind ((kM h.1).eqn) λy2 h1=>.not (λM=>have:J0 X.1.2.2.1.2.1<=B:=h.1.c.1.2.1.1;.some ⟨⟨aP,aG 15⟩,om⟩) λM=>have Z:=lO h.1 h1.2 M;have:=Jh (l:=X.1.2.2.2.1.2.1);have:J0 X.1.2.2.2.1.2.1=_:=JE h.1.d.1.2.1;have j:aB 4096 8192 Ja X.1:=Z.2;.ltf (λP=>.ge (λI=>.some ⟨⟨aP,aG 1⟩,om⟩) λI=>have K:aB 16384 1073741824 fH (X.1,X.2.1):=⟨j.u,h.2.z.1⟩;.bind (MG K) λy3 a3=>.lt (λH=>.some ⟨⟨aP,aG 8⟩,om⟩) λH=>have L:aB 16384 1073741824 fH (X.1,X.2.1):=⟨j.u,h.2.z.1⟩;.bind (MG L) λy4 a4=>.gt (λJ=>.some ⟨⟨aP,aG 9⟩,om⟩) λJ=>have R:aB 16384 S kl (X.1.2.2.2.1,X.2):=⟨j.d.1.u,h.2.z.u⟩;.bind (G4 R) λk o=>have:J0 k.2.2.2=_/\_:=lF o.1.d;have:k.2.2.1=0->J0 k.2.2.2=J0 X.1.2.2.2.1.2.1+1:=o.2;.ne (λT=>.some ⟨⟨aP,o.1.c.1⟩,om⟩) λT=>.bind (VB (B:=4096) (S:=8192) ⟨j,h.2.z.1⟩) λG U=>.ite (λQ=>have:=bC (J0 k.2.2.2) 1;.bind (fC (l:=k.2.2.2)) λ_ _=>.bind (jF o.1.d) λn w=>have:J0 (aW k.2.2.2 (Int.toNat (JJ .i64 (J0 k.2.2.2) 1)) (n.1,true,n.2.2))=_/\_:=lF (kL (t:=dU) (i:=Int.toNat (JJ .i64 (J0 k.2.2.2) 1)) (x:=(n.1,true,n.2.2)) o.1.d ⟨w.1.z.1.u,trivial,w.1.z.2.2⟩);have:J0 (aW k.2.2.2 (Int.toNat (JJ .i64 (J0 k.2.2.2) 1)) (n.1,true,n.2.2))=J0 k.2.2.2:=pJ;have:=bC (J0 (aW k.2.2.2 (Int.toNat (JJ .i64 (J0 k.2.2.2) 1)) (n.1,true,n.2.2))) 1;.bind (fC (l:=aW k.2.2.2 (Int.toNat (JJ .i64 (J0 k.2.2.2) 1)) (n.1,true,n.2.2))) λ_ _=>.bind (jF (kL (t:=dU) (i:=Int.toNat (JJ .i64 (J0 k.2.2.2) 1)) (x:=(n.1,true,n.2.2)) o.1.d ⟨w.1.z.1.u,trivial,w.1.z.2.2⟩)) λA N=>have:J0 X.1.2.2.2.2.2.2.2=_/\_:=lF j.i;Jq (τ:=vF) (λq=>(q.1,X.1,X.2,(0,0,(0,[],0),(0,[],0),([],[]),[],[],[]),aW (aW k.2.2.2 (Int.toNat (JJ .i64 (J0 k.2.2.2) 1)) (n.1,true,n.2.2)) (Int.toNat (JJ .i64 (J0 (aW k.2.2.2 (Int.toNat (JJ .i64 (J0 k.2.2.2) 1)) (n.1,true,n.2.2))) 1)) (A.1,A.2.1,G.1.2.1,A.2.2.2),k.1,k.2.1,G.1,q.2)) (λq=>(aB 0 0 zI q.1/\0<=q.1/\(q.1<=J0 X.1.2.2.2.2.2.2.2\/q.1<=0))/\(aB 4096 0 (.l Jf) q.2/\J0 q.2<=1*q.1+0)) (λq=>J0 X.1.2.2.2.2.2.2.2-q.1) (by rintro⟨r,v⟩ F;dsimp only at F;obtain⟨⟨W,a1,a2⟩,C,a7⟩:=F;unfold WH;(try dsimp only);exact have:=J2.1 W;.lt (λO=>.bind (Jl j.i) λa5 a6=>.ne (λV=>.bind (Jl j.i) λa0 Y=>have:J0 v=_/\_:=lF C;.bind (bT (B:=4096) (Bl:=4096) (Bm:=1) (S:=0) (J0 v) 1 C (cF (B:=1) (S:=0) (t:=Jf) oo Y.1)) λE D=>have:=Jm r 1;have:J0 E=_:=JE D.1;.some ⟨(J1 .i64 r 1,E),rfl,⟨⟨Je,om,om⟩,D.1,om⟩,om,om⟩) λV=>have:=Jm r 1;have:J0 v=_:=JE C;.some ⟨(J1 .i64 r 1,v),rfl,⟨⟨Je,om,om⟩,C,om⟩,om,om⟩) λO=>.some ⟨⟨⟨j.1,j.2.1,j.c.1,⟨o.1.1,(kL (t:=dU) (i:=Int.toNat (JJ .i64 (J0 (aW k.2.2.2 (Int.toNat (JJ .i64 (J0 k.2.2.2) 1)) (n.1,true,n.2.2))) 1)) (x:=(A.1,A.2.1,G.1.2.1,A.2.2.2)) (kL (t:=dU) (i:=Int.toNat (JJ .i64 (J0 k.2.2.2) 1)) (x:=(n.1,true,n.2.2)) o.1.d ⟨w.1.z.1.u,trivial,w.1.z.2.2⟩) ⟨N.1.z.1.u,trivial,U.1.2.1,trivial⟩).u,o.1.2.1⟩,j.e.1,j.g.1,j.h.1,C.u⟩,aC⟩,om⟩) (0,[]) rfl (have:J0 ([]:List aA)=0:=rfl;⟨⟨aC,om,om⟩,Jc,om⟩)) λQ=>.some ⟨⟨⟨j.1,j.2.1,j.c.1,⟨o.1.1,o.1.d.u,o.1.2.1⟩,j.e⟩,aC⟩,om⟩) λP=>.some ⟨⟨aP,aG 1⟩,om⟩
theorem US{B S:Int}{X:IE}(h:aB B S (.pr Jd J8) X)(F:BS B S 0 0:=by omega):Tot (iK X) λy=>aB 0 8192 sC y:=by unfold iK;exact have s0:aB 0 S (.pr Jd J8) X:=h;.bind ((xD (B:=0) (S:=S) (X:=X.2) s0.2).eqn) λI h1=>.nof (λr=>have D:=rU (x:=X.2) s0.2 h1.2 r;have g:aB 0 8192 J8 X.2:=D.2;.bind (uH g) λG E=>.not (λA=>.some ⟨⟨aC,aC,bZ oo oo (.ar 16 Jr)⟩,aG 12⟩) λA=>.bind ((MO (B:=0) (S:=S) (X:=X.1) s0.1).eqn) λH j=>.ne (λk=>.some ⟨⟨aC,aC,bZ oo oo (.ar 16 Jr)⟩,j.1⟩) λk=>have v:=MI (x:=X.1) s0.1 j.2 k;have q:aB 0 12 Jd X.1:=v.2;.ne (λn=>.some ⟨⟨aC,aC,bZ oo oo (.ar 16 Jr)⟩,aG 6⟩) λn=>.ne (λo=>.some ⟨⟨aC,aC,bZ oo oo (.ar 16 Jr)⟩,aG 13⟩) λo=>.bind (vw (B:=0) (S:=8192) ⟨q.u,g.h.1⟩) λC z=>have e:aB 0 8192 sC C:=z.u;.ne (λw=>.some ⟨⟨aC,aC,bZ oo oo (.ar 16 Jr)⟩,e.2⟩) λw=>.some ⟨⟨e.1.1,g.1,e.1.c⟩,aC⟩) λr=>.some ⟨⟨aC,aC,bZ oo oo (.ar 16 Jr)⟩,aG 12⟩
section
variable {B S:Int}
theorem Ku{X:NQ}(h:aB B S (.pr Jy Jf) X)(K:BC B S 0 0:=by omega):Tot (FJ X) λy=>aB 4096 8192 jx y:=by
 obtain⟨l,page,last,above⟩:=X;obtain⟨o,J,r,z⟩:=h;unfold FJ;dsimp only;dsimp only at o J r z;have e: ∀k:Int,aB 0 0 zI k->aB 4096 8192 jx (([]:List J5),k):=λk G=>⟨Jc,G⟩;refine .bind ((mL o).eqn) λP h2=>.not (λ_=>.some (e _ (aG 26))) λc=>.ltf (λc1=>.gef (λN=>.ltf (λT=>.lt (λ_=>.some (e _ (aG 1))) λD=>?_) λ_=>.some (e _ (aG 1))) λ_=>.some (e _ (aG 1))) λ_=>.some (e _ (aG 1));subst c;obtain⟨q,w⟩:=wc o h2.2;have A:=(mH o h2.2 rfl).2;refine Jq (τ:=DM) (λq=>(page,above,q.1,q.2,l)) (λq=>aB 4096 8192 (.l J8) q.1/\aB 0 0 zI q.2/\(J0 q.1=0\/J0 q.1+q.2<=l.1+J0 l.2.1-1)) (λq=>q.2) ?_ ([],last) rfl ⟨Jc,r,.inl rfl⟩;rintro⟨out,g⟩ ⟨x,E,F⟩;dsimp only at x E F;unfold wX;dsimp only;refine .gt (λc=>?_) λc=>.inr (.lt (λ_=>.some (e _ (aG 13))) λ_=>.some ⟨x,aC⟩);refine .bind ((tR (X:=(l,g)) ⟨A,E⟩).eqn) λv j=>.ne (λ_=>.some (e _ (aG 14))) λD=>.bind (uH j.1.1) λM O=>.nof (λ_=>.ne (λ_=>.some (e _ (aG 13))) λ_=>?_) λ_=>.some (e _ (aG 13));rcases tx j.2 with⟨_,_,V,W,H⟩|⟨_,b⟩;obtain⟨U,I⟩:=w _ _ H;have Q:=(rU j.1.1 I rfl).1;have:=Jh (l:=out);have R:J0 out+1<=4096:=by omega
 unfold MK;dsimp only;refine .bind (.bind (bT (B:=4096) (Bl:=4096) (Bm:=4096) (S:=8192) (t:=J8) 1 (J0 out) (cF (B:=4096) (S:=8192) oo j.1.1) x rfl rfl (aZ _) (aZ _) oo oo (by decide)) λy h=>.some h) λn C=>.some ⟨(n,v.1.2.2.2.2.1),rfl,⟨C.1,j.1.1.2.2.2.2.1,?_⟩,?_,?_⟩;have L:J0 n=1+J0 out:=C.2.1;show J0 n=0\/J0 n+v.1.2.2.2.2.1<=l.1+J0 l.2.1-1;omega;show v.1.2.2.2.2.1<g;omega;show 0<=g;omega;exact absurd D b
end
theorem wa{B S:Int}{X:kS}(h:aB B S GX X)(A:BC B S 0 0:=by omega):Tot (xB X) λy=>aB 4096 8192 jx y:=by unfold xB;exact .bind ((mL h.1).eqn) λE h1=>.not (λo=>.some ⟨Jc,aG 26⟩) λo=>have w:=mH h.1 h1.2 o;have n:aB 4096 8192 Jy X.1:=w.2;.bind ((MO (B:=0) (S:=S) (X:=X.2.1) h.2.z.1).eqn) λC g=>.ne (λe=>.some ⟨Jc,g.1⟩) λe=>have v:=MI (x:=X.2.1) h.2.z.1 g.2 e;have j:aB 0 12 Jd X.2.1:=v.2;.lt (λq=>.some ⟨Jc,aG 1⟩) λq=>.ge (λr=>.some (aP)) λr=>.bind (Ku (B:=4096) (S:=8192) ⟨n,j.1,h.2.z.2,j.2.1⟩) λD k=>.some (k)
theorem uo{B S:Int}{X:kS}(h:aB B S GX X)(D:BC B S 0 0:=by omega):Tot (tX X) λy=>aB 0 (S+8192) (.pr Jd cY) y:=by unfold tX;exact .bind (wa (B:=B) (S:=S) ⟨h.1,h.2.z.1.u,h.2.z.2⟩) λg h1=>.ne (λC=>.some ⟨⟨aC,aC,bZ oo oo (.ar 16 Jr)⟩,aC,h1.2⟩) λC=>have:J0 g.1=_/\_:=lF h1.1;Jq (τ:=NZ) (λq=>(g.1,q.1,X.1,q.2,0,0,Vector.replicate 16 (false,[]))) (λq=>(aB 0 0 zI q.1/\0<=q.1/\(q.1<=J0 g.1\/q.1<=0))/\aB 0 (S+8192) Jd q.2) (λq=>J0 g.1-q.1) (by rintro⟨e,w⟩ j;dsimp only at j;obtain⟨⟨x,G,E⟩,o⟩:=j;unfold wV;(try dsimp only);exact have:=J2.1 x;.lt (λn=>.bind (Jl h1.1) λF r=>.bind (US (B:=0) (S:=(S+8192)) ⟨o,r.1.z.u⟩) λA k=>.ne (λv=>.some ⟨⟨aC,aC,bZ oo oo (.ar 16 Jr)⟩,aC,k.2⟩) λv=>have:=Jm e 1;.some ⟨(J1 .i64 e 1,A.1),rfl,⟨⟨Je,om,om⟩,k.1.u⟩,om,om⟩) λn=>.some ⟨o,jR h1.1.1 oo,aC⟩) (0,X.2.1) rfl ⟨⟨aC,om,om⟩,h.2.z.1.u⟩
theorem uk{B S:Int}{X:kS}(h:aB B S GX X)(e:BC B S 0 0:=by omega):Tot (pU X) λy=>aB 0 (S+8192) sC y:=by unfold pU;exact .bind (uo (B:=B) (S:=S) ⟨h.1,h.2.z.1.u,h.2.z.2⟩) λg h1=>.some ⟨h1.1,h1.c⟩
theorem Lz{B S:Int}{X:iQ}(h:aB B S sL X)(G:BG B S:=by omega):Tot (tY X) λy=>aB 128 12 sL y:=by unfold tY;exact .bind ((xC h.1).eqn) λI h1=>.not (λz=>.some ⟨aP,aG 15⟩) λz=>have E:=rR h.1 h1.2 z;have:J0 X.1.2.1=_/\_:=lF h.1.2.1;have e:aB 64 12 JS X.1:=E.2;.bind (AG (B:=64) (S:=12) ⟨e,h.2⟩) λo k=>have:=J2.1 k.1;have: -1<=o/\o<J0 X.1.2.1:=k.2;.lt (λw=>.some ⟨aP,aG 18⟩) λw=>.bind (Jl e.2.1) λH F=>.ite (λC=>.some ⟨aP,aG 23⟩) λC=>.bind (qO e.2.1) λx j=>.clo j.1 oo (by decide) (have:=Jm o 1;.bind (pI e.2.1) λq n=>have:J0 x=_:=JE j.1;have:J0 q=_/\_:=lF n.1;.bind (bT (B:=128) (Bl:=64) (Bm:=64) (S:=12) (J0 x) (J0 q) j.1 n.1) λD g=>.lt (λr=>have:=bC X.1.2.2 1;.ge (λv=>.some ⟨⟨e.1,g.1,aC⟩,aC⟩) λv=>.some ⟨⟨e.1,g.1,dX⟩,aC⟩) λr=>have:J0 D<=128:=g.1.1;.ge (λA=>.some ⟨⟨e.1,g.1,aC⟩,aC⟩) λA=>.some ⟨⟨e.1,g.1,e.c⟩,aC⟩)
section
variable {B S:Int}
def SZ{σ τ ρ:Type}(R:σ->τ->Prop)(o:aI (σ⊕ρ))(e:aI (τ⊕ρ)):Prop:=(o=none/\e=none)\/(∃y,o=some (.inr y)/\e=some (.inr y))\/ ∃a b,o=some (.inl a)/\e=some (.inl b)/\R a b
theorem sb{σ τ ρ:Type}{R:σ->τ->Prop}{L:σ->aI (σ⊕ρ)}{L':τ->aI (τ⊕ρ)}(h: ∀z g,R z g->SZ R (L z) (L' g)){z:σ}{g:τ}(hz:R z g):Jg L z=Jg L' g:=by
 have k: ∀n z g,R z g->cH L n z=cH L' n g:=by
  intro n
  induction n with
  |zero=>intros;rfl
  |succ n ih=>
   intro z g hz;rcases h z g hz with⟨h1,h2⟩|⟨y,h1,h2⟩|⟨a,b,h1,h2,h3⟩;simp only[cH,h1,h2];simp only[cH,h1,h2];simp only[cH,h1,h2];exact ih a b h3
 cases e:Jg L z with
 |some r=>obtain⟨n,j⟩:=gE.1 e;exact(gE.2 ⟨n,(k n z g hz)▸j⟩).symm
 |none=>
  cases e':Jg L' g with
  |none=>rfl
  |some r=>obtain⟨n,j⟩:=gE.1 e';rw[gE.2 ⟨n,(k n z g hz).symm▸j⟩]at e;cases e
def FrE(f g:aF):Prop:=f.1=g.1/\f.2.1=g.2.1/\f.2.2.1=g.2.2.1
def oH(l m:List aF):Prop:=l.length=m.length/\ ∀(j:Nat) (f g:aF),l[j]?=some f->m[j]?=some g->FrE f g
theorem oH.idx{l m:List aF}(h:oH l m)(i:Int):(idx l i=none/\idx m i=none)\/ ∃f g,idx l i=some f/\idx m i=some g/\FrE f g:=by
 unfold Am.idx;by_cases h0:0<=i;rw[if_pos h0,if_pos h0];by_cases e:i.toNat<l.length;exact .inr ⟨_,_,zQ9 e,zQ9 (h.1▸e),h.2 _ _ _ (zQ9 e) (zQ9 (h.1▸e))⟩;exact .inl ⟨oM oo,oM (by have:=h.1;omega)⟩;rw[if_neg h0,if_neg h0];exact .inl ⟨rfl,rfl⟩
theorem oH.refl(l:List aF):oH l l:=⟨rfl,λj f g h1 h2=>by rw[h1]at h2;injection h2 with h2;subst h2;exact⟨rfl,rfl,rfl⟩⟩
theorem oH.put{l m:List aF}(h:oH l m){i:Int}{f g:aF}(hi:Am.idx m i=some f)(k:FrE g f):oH l (aW m i.toNat g):=by
 refine⟨by unfold aW;rw[List.length_set];exact h.1,λj a b n e=>?_⟩;unfold aW at e;rw[List.getElem?_set]at e;split at e;rename_i r;split at e;injection e with e;subst e;obtain⟨_,h2⟩:=cL hi;rw[r]at h2;obtain⟨o,v,q⟩:=h.2 j a f n h2;exact⟨o.trans k.1.symm,v.trans k.2.1.symm,q.trans k.2.2.symm⟩;cases e;exact h.2 j a b n e
theorem JJb(n i:Int)(p q:JK)(f g:aF)(hp:oH p.2.1 q.2.1)(hf:FrE f g):(Jg fQ (n,i,0,p,f)=some (.inr false)/\Jg fQ (n,i,0,q,g)=some (.inr false))\/(Jg fQ (n,i,0,p,f)=some (.inl (n,J1 .i64 i 1,p))/\Jg fQ (n,i,0,q,g)=some (.inl (n,J1 .i64 i 1,q)))\/(Jg fQ (n,i,0,p,f)=none/\Jg fQ (n,i,0,q,g)=none):=by
 let C:JK->((cJ)⊕Bool)->Bool:=λ_ r=>match r with| .inl _=>true| .inr b=>b
 have z: ∀m k,(cH fQ m (n,i,k,p,f)=none/\cH fQ m (n,i,k,q,g)=none)\/(cH fQ m (n,i,k,p,f)=some (.inr false)/\cH fQ m (n,i,k,q,g)=some (.inr false))\/(cH fQ m (n,i,k,p,f)=some (.inl (n,J1 .i64 i 1,p))/\cH fQ m (n,i,k,q,g)=some (.inl (n,J1 .i64 i 1,q))):=by
  intro m
  induction m with
  |zero=>intro k;exact .inl ⟨rfl,rfl⟩
  |succ m ih=>
   intro k;simp only[cH];unfold fQ;dsimp only;by_cases j:aK k i=true;rw[if_pos j,if_pos j];rcases hp.idx k with⟨x,w⟩|⟨a,b,x,w,B⟩;rw[x,w];exact .inl ⟨rfl,rfl⟩;rw[x,w,JQ,JQ,<-B.1,<-hf.1];by_cases v:aH a.1.1 f.1.1=true;rw[if_pos v,if_pos v];exact .inr (.inl ⟨rfl,rfl⟩);rw[if_neg v,if_neg v];exact ih _;rw[if_neg j,if_neg j];exact .inr (.inr ⟨rfl,rfl⟩)
 by_cases o: ∃m r,cH fQ m (n,i,0,p,f)=some r;obtain⟨m,r,h⟩:=o;rcases z m 0 with⟨h1,_⟩|⟨h1,h2⟩|⟨h1,h2⟩;rw[h1]at h;cases h;exact .inl ⟨gE.2 ⟨m,h1⟩,gE.2 ⟨m,h2⟩⟩;exact .inr (.inl ⟨gE.2 ⟨m,h1⟩,gE.2 ⟨m,h2⟩⟩);have A:Jg fQ (n,i,0,p,f)=none:=by
  cases e:Jg fQ (n,i,0,p,f)with
  |none=>rfl
  |some r=>obtain⟨m,h⟩:=gE.1 e;exact absurd ⟨m,r,h⟩ o
 have y:Jg fQ (n,i,0,q,g)=none:=by
  cases e:Jg fQ (n,i,0,q,g)with
  |none=>rfl
  |some r=>
   obtain⟨m,h⟩:=gE.1 e;rcases z m 0 with⟨_,h2⟩|⟨h1,_⟩|⟨h1,_⟩;rw[h2]at h;cases h;exact absurd ⟨m,_,h1⟩ o;exact absurd ⟨m,_,h1⟩ o
 exact .inr (.inr ⟨A,y⟩)
theorem V6{p q:JK}(hs:p.1=q.1)(hf:oH p.2.1 q.2.1)(e:JY p=some true)(h0:0<=q.2.2)(h1:q.2.2<J0 q.2.1\/q.2.2=0):JY q=some true:=by
 obtain⟨⟨M,U,L,N,O⟩,_⟩:=ia e;have el:J0 p.2.1=J0 q.2.1:=by unfold J0;rw[hf.1]
 have Q:=tD 0 (JJ .i64 (J0 q.2.1) 1);have P:=bC (J0 q.2.1) 1;have S:=Jh (l:=q.2.1);have J: ∀x:JK,1<=x.1->x.1<=64->J0 x.2.1<=x.1->0<=x.2.2->(x.2.2<J0 x.2.1\/x.2.2=0)->JY x=Jg WF (J0 x.2.1,0,x):=by
  intro x H I C F D;have Q:=tD 0 (JJ .i64 (J0 x.2.1) 1);have P:=bC (J0 x.2.1) 1;have S:=Jh (l:=x.2.1);unfold JY;have c1:aK x.1 1=false:=by simp only[aK,decide_eq_false_iff_not];omega
  have v:aO x.1 64=false:=by simp only[aO,decide_eq_false_iff_not];omega
  have o:aO (J0 x.2.1) x.1=false:=by simp only[aO,decide_eq_false_iff_not];omega
  have k:aK x.2.2 0=false:=by simp only[aK,decide_eq_false_iff_not];omega
  have T: ¬aO x.2.2 (cP 0 (JJ .i64 (J0 x.2.1) 1))=true:=by simp only[aO,decide_eq_true_eq];omega
  rw[if_pos c1,if_pos v,if_pos o,if_pos k,if_neg T]
 rw[J p M U L N O]at e;rw[J q oo oo oo h0 h1,<-e]
 symm
 refine sb (R:=λz h=>z.1=J0 p.2.1/\h.1=J0 q.2.1/\z.2.1=h.2.1/\z.2.2=p/\h.2.2=q) ?_ ⟨rfl,rfl,rfl,rfl,rfl⟩;rintro⟨n,i,z⟩ ⟨V,W,h⟩ ⟨H,I,C,F,D⟩;dsimp only at H I C F D;subst F;subst D;subst C;subst H;subst I;unfold WF;dsimp only;rw[el];have j: ∀{f g:aF},FrE f g->SZ (fun(a b:cJ)=>a.1=J0 h.2.1/\b.1=J0 h.2.1/\a.2.1=b.2.1/\a.2.2=z/\b.2.2=h) (Jg fQ (J0 h.2.1,i,0,z,f)) (Jg fQ (J0 h.2.1,i,0,h,g)):=fun{f g} K=>by
  rcases JJb (J0 h.2.1) i z h f g hf K with⟨b1,b2⟩|⟨b1,b2⟩|⟨b1,b2⟩;exact .inr (.inl ⟨_,b1,b2⟩);exact .inr (.inr ⟨_,_,b1,b2,rfl,rfl,rfl,rfl,rfl⟩);exact .inl ⟨b1,b2⟩
 have w:SZ (fun(a b:cJ)=>a.1=J0 h.2.1/\b.1=J0 h.2.1/\a.2.1=b.2.1/\a.2.2=z/\b.2.2=h) (some (.inr false:(cJ)⊕Bool)) (some (.inr false)):=.inr (.inl ⟨_,rfl,rfl⟩);by_cases B:aK i (J0 h.2.1)=true;rw[if_pos B,if_pos B];rcases hf.idx i with⟨G,E⟩|⟨f,g,G,E,r⟩;rw[G,E];exact .inl ⟨rfl,rfl⟩;rw[G,E,JQ,JQ,<-r.1,<-r.2.1,<-r.2.2];cases hv:mP f.1 with
 |none=>exact .inl ⟨rfl,rfl⟩
 |some b=>
  rw[JQ,JQ];by_cases A:Jp b=false;rw[if_pos A,if_pos A];by_cases y:f.2.1=true;rw[if_pos y,if_pos y];by_cases c1:aK f.2.2.1 1=false;rw[if_pos c1,if_pos c1];by_cases v:aO f.2.2.1 f.1.2.1=false;rw[if_pos v,if_pos v];by_cases o:Jp f.2.1=true;rw[if_pos o,if_pos o];by_cases k:aM f.2.2.1 0=true;rw[if_pos k,if_pos k];exact w;rw[if_neg k,if_neg k];exact j r;rw[if_neg o,if_neg o];exact j r;rw[if_neg v,if_neg v];exact w;rw[if_neg c1,if_neg c1];exact w;rw[if_neg y,if_neg y];by_cases o:Jp f.2.1=true;rw[if_pos o,if_pos o];by_cases k:aM f.2.2.1 0=true;rw[if_pos k,if_pos k];exact w;rw[if_neg k,if_neg k];exact j r;rw[if_neg o,if_neg o];exact j r;rw[if_neg A,if_neg A];exact w
 rw[if_neg B,if_neg B];exact .inr (.inl ⟨_,rfl,rfl⟩)
theorem JEi{p:JK}{id:Int}(hp:J0 p.2.1<=64){k:Int}{f:aF}(hk:idx p.2.1 k=some f)(hf:f.1.1=id): ∀{j:Int},iG (p,id)=some j->0<=j:=by
 intro j x;have n:Par (iG (p,id)) λj=>0<=j:=(by unfold iG;dsimp only;obtain⟨r,o⟩:=cL hk;have y:=sY o;refine .while (λz=>z.1=id/\z.2.2=p/\0<=z.2.1/\z.2.1<=k) ⟨rfl,rfl,aZ _,r⟩ ?_;rintro⟨a,i,q⟩ ⟨h1,h2,h3,w⟩;dsimp only at h1 h2 h3 w;subst h1;subst h2;unfold VO;dsimp only;have:=Jm i 1;refine .lt (λc=>.bind λg h=>.eq (λ_=>.some h3) λv=>.some ⟨rfl,rfl,?_,?_⟩) λc=>?_;show 0<=J1 .i64 i 1;omega;show J1 .i64 i 1<=k;by_cases e:i=k;subst e;rw[hk]at h;injection h with h;subst h;exact absurd hf v;omega;exfalso;omega);exact n _ x
theorem InP.of{p:JK}{id:Int}(hv:JY p=some true){k:Int}{f:aF}(hk:idx p.2.1 k=some f)(hf:f.1.1=id)(g:aB B S JS p)(hi:aB 0 0 zI id)(h:BS B S 0 0:=by omega)(q:B<=9223372036854775807:=by omega):InP p id:=by obtain⟨⟨_,n,o,_⟩,_⟩:=ia hv;obtain⟨j,e,_⟩:=AG (B:=B) (S:=S) (X:=(p,id)) ⟨g,hi⟩;refine⟨j,?_,JEi oo hk hf e⟩;unfold gR;dsimp only;rw[hv,JQ,if_neg (by simp[Jp]),e];rfl
def IA(l:List aF):Int:=(l.countP λf=>f.2.2.2:Nat)
theorem Ss{X:JK}(h:aB B S JS X)(R:BC B S 0 0:=by omega):Tot (tZ X) λy=>aB 64 12 kv y/\(JY X=some true->1<=J0 X.2.1->JY y.1=some true/\InP y.1 y.2.1/\y.1.1=X.1/\J0 y.1.2.1=J0 X.2.1):=by
 unfold tZ;refine .bind ((xC h).eqn) λZ h2=>.not (λc=>.some ⟨⟨aP,aC,aG 15⟩,λe=>by rw[e]at h2;have q:=h2.2;injection q with q;subst q;cases c⟩) λc=>.eq (λM=>.some ⟨⟨aP,aC,aG 18⟩,λ_ _=>by omega⟩) λM=>?_;subst c;have H:=h2.2;obtain⟨⟨U,Y,T,J,V⟩,O⟩:=rR h H rfl;have:=Jh (l:=X.2.1);have hl:1<=J0 X.2.1:=by omega
 refine Jq (τ:=JK) (λq=>(q,0,[],0)) (λq=>q.1=X.1/\oH X.2.1 q.2.1/\0<=q.2.2/\q.2.2<J0 X.2.1/\aB 64 12 JS q) (λq=>IA q.2.1) ?_ X rfl ⟨rfl,oH.refl _,J,oo,O⟩;rintro p ⟨F,E,D,W,o⟩;have el:J0 X.2.1=J0 p.2.1:=by unfold J0;rw[E.1]
 unfold WG;dsimp only;have n:p.2.2.toNat<p.2.1.length:=by unfold J0 at*;omega
 have v:idx p.2.1 p.2.2=some p.2.1[p.2.2.toNat]:=by unfold idx;rw[if_pos D,zQ9 n]
 have g:=o.2.1.2 _ (kU n);have j:p.2.1[p.2.2.toNat]?=some p.2.1[p.2.2.toNat]:=zQ9 n;generalize p.2.1[p.2.2.toNat]=f at v g j;rw[v];show Tot (if f.2.2.2=true then _ else _) _;refine .ite (λC=>?_) λC=>.inr ?_;show Tot ((iX (p,p.2.2,f.1,f.2.1,f.2.2.1,false)).bind _) _;have es:iX (p,p.2.2,f.1,f.2.1,f.2.2.1,false)=some (p.1,aW p.2.1 p.2.2.toNat (f.1,f.2.1,f.2.2.1,false),p.2.2):=by
  unfold iX;obtain⟨r,Q,e⟩:=(HQ (bytes:=424) o.2.1 oo (by decide));subst e;have P:cZ (α:=aF) 424 p.2.1=some p.2.1:=Q;dsimp only;rw[P,JQ];have N:aV p.2.1.length p.2.2=some ():=by unfold aV;rw[if_pos ⟨D,oo⟩]
  have L:bF p.2.1 p.2.2.toNat=some f:=by unfold bF;exact j
  rw[N,JQ,L,JQ]
 rw[es,JQ];dsimp only;have G:J0 (aW p.2.1 p.2.2.toNat (f.1,f.2.1,f.2.2.1,false))=J0 p.2.1:=pJ;rw[G];have:=Jm p.2.2 1;refine .bind (XS (k:=.i64) (B:=0) (S:=0) (x:=J1 .i64 p.2.2 1) (y:=J0 p.2.1) Je oo) λz A=>.some ⟨(p.1,aW p.2.1 p.2.2.toNat (f.1,f.2.1,f.2.2.1,false),z),rfl,⟨F,E.put v ⟨rfl,rfl,rfl⟩,?_,?_,o.1,kL o.2.1 ⟨g.1,g.2.1,g.2.2.1,trivial⟩,A.1⟩,?_,?_⟩;show 0<=z;exact A.2.1 oo;show z<J0 X.2.1;have:=A.c oo;omega;show IA (aW p.2.1 p.2.2.toNat (f.1,f.2.1,f.2.2.1,false))<IA p.2.1;unfold IA aW;rw[List.countP_set n];have I:p.2.1[p.2.2.toNat]=f:=by have:=zQ9 n;rw[j]at this;injection this with this;exact this.symm
 rw[I];have K:0<p.2.1.countP (λf=>f.2.2.2):=List.countP_pos_iff.2 ⟨f,zQ5 j,C⟩;rw[if_pos C,if_neg (by simp)];omega;show 0<=IA p.2.1;exact Int.natCast_nonneg _;show Tot ((some f).bind _) _;rw[JQ];have w:JY p=some true:=V6 F.symm E H D (.inl oo);refine .some ⟨⟨o,g.1.1,aC⟩,λ_ _=>⟨w,InP.of (B:=64) (S:=12) w v rfl o g.1.1,F,el.symm⟩⟩
theorem K5{X:J7}(h:aB B S Ja X)(C:BG B S:=by omega):Tot (rI X) λy=>aB 16384 1073741824 (.pr Ja (.pr Jd (.pr .b zI))) y/\(y.2.2.2=0->J0 y.1.2.2.1.2.1=J0 X.2.2.1.2.1/\J0 X.2.2.1.2.1<=4096):=by
 unfold rI;have j:aB 16384 1073741824 Jd (0,0,Vector.replicate 16 (false,[])):=⟨aC,aC,bZ oo oo (.ar 16 Jr)⟩;have z:aB 16384 1073741824 Ja (0,0,(0,[],0),(0,[],0),([],[]),[],[],[]):=bZ oo oo Ja;refine .bind ((kM h).eqn) λG h2=>.not (λc=>.some ⟨⟨z,j,trivial,aG 15⟩,λc=>by cases c⟩) λc=>?_;subst c;obtain⟨q,e⟩:=lO h h2.2 rfl;have w:=AW h2.2;refine .lt (λc=>.some ⟨⟨e.u,j,trivial,aC⟩,λ_=>⟨rfl,q.2.2.2.2.2.2.2.1⟩⟩) λc=>.bind (Ss e.2.2.2.1) λg h3=>?_;obtain⟨J,A,H,I⟩:=h3.2 w.2.1 oo;refine .bind ((zR (B:=64) (S:=12) (X:=(g.1,g.2.1)) ⟨h3.1.1,h3.1.2.1⟩).eqn) λF n=>?_;have r:=dk A n.2;refine .bind (Jl h3.1.1.2.1 r n.1.c) λv o=>.not (λ_=>?_) λ_=>?_;exact .bind (Lz (B:=16384) (S:=1073741824) (X:=(g.1,g.2.1)) ⟨h3.1.1.u,h3.1.2.1⟩) λE x=>.some ⟨⟨⟨e.1,e.2.1,e.2.2.1.u,x.1.u,e.2.2.2.2.u⟩,j,trivial,aC⟩,λ_=>⟨rfl,q.2.2.2.2.2.2.2.1⟩⟩;exact .bind (UX (B:=16384) (S:=1073741824) (X:=((X.1,X.2.1,X.2.2.1,g.1,X.2.2.2.2),v.1.2.1)) ⟨⟨e.1,e.2.1,e.2.2.1.u,h3.1.1.u,e.2.2.2.2.u⟩,o.1.1.2.1⟩) λD k=>.some ⟨⟨k.1,o.1.1.u,trivial,aC⟩,λ_=>⟨k.2,q.2.2.2.2.2.2.2.1⟩⟩
end
theorem Ki{B S:Int}{X:Jz}(h:aB B S Jn X)(w:BG B S:=by omega):Tot (rH X) λy=>aB B S mU y/\(y.2=0->J0 X.1.2.2.1.2.1<=J0 y.1.1.2.2.1.2.1):=by unfold rH;exact Jq (τ:=Jz) (λq=>(q,(0,0,(0,[],0),(0,[],0),([],[]),[],[],[]),[],0,[],false,[])) (λq=>aB B S Jn q/\(J0 X.1.2.2.1.2.1<=J0 q.1.2.2.1.2.1)) (λq=>4097-J0 q.1.2.2.1.2.1) (by rintro e ⟨i1,x⟩;unfold VR;(try dsimp only);exact have:J0 X.1.2.2.1.2.1=_:=JE h.1.c.1.2.1;have:J0 e.1.2.2.1.2.1=_:=JE i1.1.2.2.1.2.1;.bind (K5 i1.1) λk j=>have:J0 k.1.2.2.1.2.1=_/\_:=lF j.1.1.c.1.2.1;have:k.2.2.2=0->J0 k.1.2.2.1.2.1=J0 e.1.2.2.1.2.1/\J0 e.1.2.2.1.2.1<=4096:=j.2;.ne (λr=>.some ⟨⟨⟨aP,Jc,aC,Jc,trivial,Jc⟩,j.1.2.z.2.2⟩,om⟩) λr=>.not (λv=>.some ⟨⟨⟨j.1.1.u,i1.2⟩,aC⟩,om⟩) λv=>.bind (vx (B:=B) (S:=S) ⟨i1,j.1.1.u,j.1.2.z.1.u⟩) λn g=>have:J0 n.1.1.2.2.1.2.1=_/\_:=lF g.1.1.1.c.1.2.1;have:n.2=0->J0 n.1.1.2.2.1.2.1=J0 k.1.2.2.1.2.1+1:=g.2;.ne (λo=>.some ⟨⟨⟨aP,Jc,aC,Jc,trivial,Jc⟩,g.1.2⟩,om⟩) λo=>.some ⟨n.1,rfl,⟨g.1.1.u,om⟩,om,om⟩) X rfl (have:J0 X.1.2.2.1.2.1<=B:=h.1.c.1.2.1.1;⟨h,om⟩)
theorem MN{B S:Int}{X:eL}(h:aB B S mU X)(J:BG B S:=by omega)(P:S<=9223372036854775807:=by omega):Tot (lN X) λy=>aB B S mU y/\(y.2=0->J0 X.1.1.2.2.1.2.1<=J0 y.1.1.2.2.1.2.1):=by unfold lN;exact .bind ((kM h.1.1).eqn) λQ h1=>.not (λA=>have:J0 X.1.1.2.2.1.2.1<=B:=h.1.1.c.1.2.1.1;.some ⟨⟨⟨aP,Jc,aC,Jc,trivial,Jc⟩,aG 15⟩,om⟩) λA=>have H:=lO h.1.1 h1.2 A;have:J0 X.1.1.2.2.1.2.1=_:=JE h.1.1.c.1.2.1;have G:aB 4096 8192 Ja X.1.1:=H.2;.ltf (λD=>.ge (λw=>.some ⟨⟨⟨aP,Jc,aC,Jc,trivial,Jc⟩,aG 1⟩,om⟩) λw=>.bind ((zR (B:=4096) (S:=8192) (X:=(X.1.1.2.2.2.1,X.2)) ⟨G.d.1,h.2⟩).eqn) λL I=>.ge (λz=>.some ⟨⟨h.1,aC⟩,om⟩) λz=>.bind (Ki h.1) λj e=>have:J0 j.1.1.2.2.1.2.1=_:=JE e.1.1.1.c.1.2.1;have:j.2=0->J0 X.1.1.2.2.1.2.1<=J0 j.1.1.2.2.1.2.1:=e.2;.ne (λC=>.some ⟨⟨⟨aP,Jc,aC,Jc,trivial,Jc⟩,e.1.2⟩,om⟩) λC=>.bind (Li (B:=B) (S:=S) ⟨e.1.1.2,h.2⟩) λN q=>.ne (λF=>.some ⟨⟨⟨aP,Jc,aC,Jc,trivial,Jc⟩,q.2⟩,om⟩) λF=>.bind (MG (B:=B) (S:=S) ⟨e.1.1.1,h.2⟩) λO o=>.bind (Nw (B:=B) (S:=S) ⟨e.1.1.1.h.1,h.2,o,q.1.u⟩) λK n=>.ne (λE=>.some ⟨⟨⟨aP,Jc,aC,Jc,trivial,Jc⟩,n.2⟩,om⟩) λE=>.bind (uk (B:=B) (S:=S) ⟨e.1.1.1.c.1,n.1.u,o⟩) λM k=>.ne (λv=>.some ⟨⟨⟨aP,Jc,aC,Jc,trivial,Jc⟩,k.2⟩,om⟩) λv=>.bind (Un (B:=B) (S:=(S+8192)) ⟨e.1.1.1.u,k.1.u⟩) λr g=>have:J0 r.1.2.2.1.2.1=_:=JE g.1.1.c.1.2.1;have:r.2=0->J0 r.1.2.2.1.2.1=J0 j.1.1.2.2.1.2.1:=g.2;.ne (λx=>.some ⟨⟨⟨aP,Jc,aC,Jc,trivial,Jc⟩,g.1.2⟩,om⟩) λx=>.some ⟨⟨⟨g.1.1.u,e.1.1.2⟩,aC⟩,om⟩) λD=>.some ⟨⟨⟨aP,Jc,aC,Jc,trivial,Jc⟩,aG 1⟩,om⟩
section
variable {B S:Int}
def eD(k y:J7):Prop:=y.2.2.2.2.2.1=k.2.2.2.2.2.1/\y.2.2.1.1=k.2.2.1.1/\ ∃m,y.2.2.1.2.1=k.2.2.1.2.1++m
theorem eD.refl(k:J7):eD k k:=⟨rfl,rfl,[],(lV _).symm⟩
theorem eD.trans{a b c:J7}(h:eD a b)(g:eD b c):eD a c:=by obtain⟨h1,h2,m,h3⟩:=h;obtain⟨k,j,n,e⟩:=g;exact⟨k.trans h1,j.trans h2,m++n,by rw[e,h3,iB]⟩
def mX(p:JK)(id:Int):Prop:= ∃f∈p.2.1,f.1.1=id
theorem mX.inP{p:JK}{id:Int}(h:mX p id)(hv:JY p=some true)(n:aB B S JS p)(r:BS B S 0 0:=by omega)(v:B<=9223372036854775807:=by omega):InP p id:=by obtain⟨f,o,e⟩:=h;obtain⟨j,q⟩:=kR.1 o;have g:=n.2.1.2 f o;refine InP.of hv (k:=j) (f:=f) ?_ e n (e▸g.1.1);unfold idx;rw[if_pos (Int.natCast_nonneg j)];simpa using q
theorem vv{l:Jt}{n:Int}{y:gW}(e:kN (l,n)=some y)(c:y.2=0):y.1.1=l.1/\y.1.2.1=l.2.1:=by
 have g:Par (kN (l,n)) λy=>y.2=0->y.1.1=l.1/\y.1.2.1=l.2.1:=by unfold kN;exact .bind λ_ _=>.not (λ_=>.some nofun) λ_=>.bind λ_ _=>.gt (λ_=>.some nofun) λ_=>.some λ_=>⟨rfl,rfl⟩
 exact g _ e c
theorem Ox{k:J7}{n:Int}{y:J7}(e:lP (k,n)=some y):eD k y/\y.2.2.2.1=k.2.2.2.1:=by
 have g:Par (lP (k,n)) λy=>eD k y/\y.2.2.2.1=k.2.2.2.1:=(by unfold lP;refine .bind λa j=>.bind λb h=>.eq (λc=>.some ⟨⟨rfl,?_,[],?_⟩,rfl⟩) λ_=>.some ⟨eD.refl k,rfl⟩;exact(vv h c).1;rw[lV];exact(vv h c).2);exact g _ e
theorem Qg{l:List Ju}{x:J5}{y:eA}(e:fG (l,x)=some y)(h:x.2.2.1=0)(c:y.2=0):y.1=l:=by
 have g:Par (fG (l,x)) λy=>y.2=0->y.1=l:=by unfold fG;exact .bind λ_ _=>.not (λ_=>.some nofun) λ_=>.bind λ_ _=>.not (λ_=>.some nofun) λ_=>.eq (λ_=>.some λ_=>rfl) λc=>absurd h c
 exact g _ e c
theorem Lv{x:CU}{y:gU}(e:fX x=some y)(c:y.2.2=0)(h0:x.2.2.2.1=0):eD x.1 y.1:=by
 have C:Par (fX x) λy=>y.2.2=0->eD x.1 y.1:=by
  obtain⟨k,n,B,M,L,I,r⟩:=x;dsimp only at h0;subst h0;unfold fX;dsimp only;have z: ∀{a b:Int} {g:yI} {v:yM} {h:eA} {D:List aA},gF (k.2.2.1,(n,B,0,a,b,r))=some g->g.2.2=0->eB (g.1,g.2.1)=some v->fG (k.2.2.2.2.2.1,v.1)=some h->h.2=0->eD k (k.1,k.2.1,g.1,k.2.2.2.1,k.2.2.2.2.1,h.1,D,k.2.2.2.2.2.2.2):=fun{a b g v h D} q o A w j=>by have E:=D0 q o A w j;obtain⟨_,_,F,_⟩:=ie q o;subst F;exact⟨Qg w (by rw[E]) j,rfl,_,rfl⟩
  refine .bind λ_ _=>.not (λ_=>.some nofun) λ_=>.gt (λc=>absurd c (by decide)) λ_=>.bind λJ _=>.ite (λ_=>.bind λK _=>?_) λ_=>?_
  all_goals
   refine .bind λg q=>.ne (λc=>.some λd=>absurd d c) λo=>.bind λv A=>.bind λh w=>.ne (λc=>.some λd=>absurd d c) λj=>.bind λG _=>.ne (λc=>.some λd=>absurd d c) λH=>.some λ_=>z q o A w j
 exact C _ e c
theorem Vm{x:gU}{y:cX}(e:rO x=some y)(c:y.2=0):eD x.1 y.1:=by
 have g:Par (rO x) λy=>y.2=0->eD x.1 y.1:=by
  unfold rO;refine .bind λ_ _=>.not (λ_=>.some nofun) λ_=>.ltf (λ_=>.gef (λ_=>.ltf (λ_=>.bind λ_ _=>.gt (λ_=>.some nofun) λ_=>.bind λj q=>.ge (λ_=>.bind λp o=>.ne (λc=>.some λd=>absurd d c) λ_=>?_) λ_=>?_) λ_=>.some nofun) λ_=>.some nofun) λ_=>.some nofun
  all_goals
   refine .bind λn h=>.ne (λc=>.some λd=>absurd d c) λk=>.some λ_=>Lv h k rfl
 exact g _ e c
theorem Qr{x:kn}{y:eL}(e:pQ x=some y)(c:y.2=0):eD x.2.1 y.1.1:=by
 have g:Par (pQ x) λy=>y.2=0->eD x.2.1 y.1.1:=by unfold pQ;exact .bind λ_ _=>.bind λ_ _=>.ne (λc=>.some λd=>absurd d c) λ_=>.bind λk j=>.ne (λc=>.some λd=>absurd d c) λh=>.some λ_=>Vm j h
 exact g _ e c
theorem uc{x:J7}{y:kp}(e:rI x=some y)(c:y.2.2.2=0):eD x y.1:=by
 have g:Par (rI x) λy=>y.2.2.2=0->eD x y.1:=(by unfold rI;refine .bind λ_ _=>.not (λ_=>.some nofun) λ_=>.lt (λ_=>.some λ_=>eD.refl _) λ_=>.bind λv _=>.bind λ_ _=>.bind λ_ _=>.not (λ_=>.bind λd _=>.some λ_=>?_) λ_=>.bind λo h=>.some λ_=>?_;exact⟨rfl,rfl,[],(lV _).symm⟩;obtain⟨⟨j,k,m,n⟩,_⟩:=Ox h;exact⟨j,k,m,n⟩);exact g _ e c
theorem Kc{x:Jz}{y:eL}(e:rH x=some y)(c:y.2=0):eD x.1 y.1.1:=by
 have h:Par (rH x) λy=>y.2=0->eD x.1 y.1.1:=by unfold rH;refine .while (λz=>eD x.1 z.1.1) (eD.refl _) ?_;rintro⟨s,z⟩ g;dsimp only at g;unfold VR;dsimp only;exact .bind λo h3=>.ne (λc=>.some λd=>absurd d c) λj=>.not (λ_=>.some λ_=>g.trans (uc h3 j)) λ_=>.bind λq n=>.ne (λc=>.some λd=>absurd d c) λk=>.some ((g.trans (uc h3 j)).trans (Qr n k))
 exact h _ e c
theorem tw{p:JK}{x:Ji}{y:Int×Int×Int×List aF}(e:rK (p,x)=some y)(c:y.2.2.1=0):y.2.2.2=p.2.1++[(x,false,0,true)]:=by
 have j:Par (rK (p,x)) λy=>y.2.2.1=0->y.2.2.2=p.2.1++[(x,false,0,true)]:=(by unfold rK;refine .bind λ_ _=>.not (λ_=>.some nofun) λ_=>.bind λ_ _=>.ne (λc=>.some λd=>absurd d c) λ_=>.bind λ_ _=>.ge (λ_=>.some nofun) λ_=>.eq (λ_=>.some nofun) λ_=>.bind λn h=>.bind λo g=>.some λ_=>?_;have k:n=p.2.1:=(by unfold cZ at h;split at h;injection h with h;exact h.symm;cases h);subst k;unfold JO at g;split at g;injection g with g;exact g.symm;cases g);exact j _ e c
theorem qk{l:List aF}{i:Nat}{f g:aF}{id:Int}(hi:bF l i=some f)(q:g.1=f.1)(h: ∃a∈l,a.1.1=id): ∃a∈aW l i g,a.1.1=id:=by
 obtain⟨a,r,e⟩:=h;obtain⟨j,k⟩:=kR.1 r;unfold bF at hi;have o:=(eP.1 hi).1;by_cases n:i=j;subst n;rw[hi]at k;injection k with k;subst k;exact⟨g,kR.2 ⟨i,by unfold aW;rw[CN o]⟩,by rw[q];exact e⟩;exact⟨a,kR.2 ⟨j,by unfold aW;rw[GM n];exact k⟩,e⟩
theorem Sv{x:j5}{y:cX}(e:rL x=some y)(c:y.2=0):eD x.1 y.1/\mX y.1.2.2.2.1 x.2.1:=by
 have v:Par (rL x) λy=>y.2=0->eD x.1 y.1/\mX y.1.2.2.2.1 x.2.1:=by
  unfold rL;refine .bind λ_ _=>.not (λ_=>.some nofun) λ_=>.ltf (λ_=>.ge (λ_=>.some nofun) λ_=>.bind λ_ _=>.lt (λ_=>.some nofun) λ_=>.bind λ_ _=>.gt (λ_=>.some nofun) λ_=>.bind λq B=>.ne (λc=>.some λd=>absurd d c) λw=>.bind λC _=>.ite (λ_=>.bind λ_ _=>.bind λo D=>.bind λ_ _=>.bind λh n=>?_) λ_=>.some λ_=>?_) λ_=>.some nofun;have ep:=tw B w;have E: ∃a∈q.2.2.2,a.1.1=x.2.1:=by rw[ep];exact⟨_,List.mem_append_right _ (lZ.2 rfl),rfl⟩
  have h2:=qk (g:=(o.1,true,o.2.2)) D rfl E;have h3:=qk (g:=(h.1,h.2.1,C.1.2.1,h.2.2.2)) n rfl h2;refine .while (λz=>z.2.1=x.1/\ ∃a∈z.2.2.2.2.1,a.1.1=x.2.1) ⟨rfl,h3⟩ ?_;rintro⟨i,k,p,F,fr,a,b,r,rest⟩ ⟨A,j⟩;dsimp only at A j;subst A;unfold WH;dsimp only;exact .lt (λ_=>.bind λ_ _=>.ne (λ_=>.bind λ_ _=>.bind λ_ _=>.some ⟨rfl,j⟩) λ_=>.some ⟨rfl,j⟩) λ_=>.some λ_=>⟨⟨rfl,rfl,[],(lV _).symm⟩,j⟩;have ep:=tw B w;refine⟨⟨rfl,rfl,[],(lV _).symm⟩,?_⟩;show∃a∈q.2.2.2,a.1.1=x.2.1;rw[ep];exact⟨_,List.mem_append_right _ (lZ.2 rfl),rfl⟩
 exact v _ e c
theorem x5{x:eU}{y:iR}(e:BF x=some y)(c:y.2=0):y.1.1=x.2:=by
 have g:Par (BF x) λy=>y.2=0->y.1.1=x.2:=by unfold BF;refine .ltf (λ_=>.ge (λ_=>.some nofun) λ_=>.bind λj _=>.eq (λ_=>.bind λh h3=>.some λ_=>?_) λ_=>.eq (λ_=>.ne (λ_=>.some nofun) λc=>.some λ_=>c) λc=>.some λd=>absurd d c) λ_=>.some nofun;unfold LS at h3;injection h3 with h3;subst h3;rfl
 exact g _ e c
theorem Pp{x:(List aA)×Int×Int×List UInt8}{y:iR}(e:AZ x=some y)(c:y.2=0):y.1.1=x.2.1:=by
 have g:Par (AZ x) λy=>y.2=0->y.1.1=x.2.1:=by unfold AZ;exact .bind λ_ _=>.not (λ_=>.some nofun) λ_=>.ltf (λ_=>.gef (λ_=>.lt (λ_=>.some nofun) λ_=>.bind λj h3=>.ne (λc=>.some λd=>absurd d c) λh=>.gt (λ_=>.bind λ_ _=>.gt (λ_=>.some nofun) λ_=>.bind λ_ _=>.lt (λ_=>.some nofun) λ_=>.some λ_=>x5 h3 h) λ_=>.bind λ_ _=>.lt (λ_=>.some nofun) λ_=>.some λ_=>x5 h3 h) λ_=>.some nofun) λ_=>.some nofun
 exact g _ e c
theorem Ou{x:IE}{y:iR}(e:iK x=some y)(c:y.2=0):y.1.1=x.1.1:=by
 have h: ∀{p:Ji} {d:aN} {y:iR},rS (p,d)=some y->y.2=0->y.1.1=p.1:=fun{p d y} e c=>by
  have g:Par (rS (p,d)) λy=>y.2=0->y.1.1=p.1:=by unfold rS;exact .bind λ_ _=>.not (λ_=>.some nofun) λ_=>.ne (λ_=>.some nofun) λ_=>.bind λ_ _=>.bind λ_ _=>.not (λ_=>.some nofun) λ_=>.bind λ_ _=>.bind λ_ _=>.some λ_=>rfl
  exact g _ e c
 have g:Par (iK x) λy=>y.2=0->y.1.1=x.1.1:=by unfold iK;exact .bind λ_ _=>.nof (λ_=>.bind λ_ _=>.not (λ_=>.some nofun) λ_=>.bind λ_ _=>.ne (λc=>.some λd=>absurd d c) λ_=>.ne (λ_=>.some nofun) λ_=>.ne (λ_=>.some nofun) λ_=>.bind λn k=>.ne (λc=>.some λd=>absurd d c) λj=>.some λ_=>by have q:=h k j;exact q) λ_=>.some nofun
 exact g _ e c
theorem Hm{x:kS}{y:iR}(e:pU x=some y)(c:y.2=0):y.1.1=x.2.1.1:=by
 have k: ∀{y:mt},tX (x.1,x.2.1,x.2.2)=some y->y.2.2=0->y.1.1=x.2.1.1:=fun{y} e c=>by
  have g:Par (tX (x.1,x.2.1,x.2.2)) λy=>y.2.2=0->y.1.1=x.2.1.1:=by unfold tX;refine .bind λ_ _=>.ne (λc=>.some λd=>absurd d c) λ_=>.while (λz=>z.2.2.2.1.1=x.2.1.1) rfl ?_;rintro⟨l,i,q,p,v⟩ h;dsimp only at h;unfold wV;dsimp only;exact .lt (λ_=>.bind λ_ _=>.bind λr n=>.ne (λc=>.some λd=>absurd d c) λj=>.some ((Ou n j).trans h)) λ_=>.some λ_=>h
  exact g _ e c
 have g:Par (pU x) λy=>y.2=0->y.1.1=x.2.1.1:=by unfold pU;exact .bind λa o=>.some λc=>k o c
 exact g _ e c
theorem UV{x y:eL}(hx:aB B S JS x.1.1.2.2.2.1)(e:lN x=some y)(c:y.2=0):eD x.1.1 y.1.1/\mX y.1.1.2.2.2.1 x.2:=by
 have v:Par (lN x) λy=>y.2=0->eD x.1.1 y.1.1/\mX y.1.1.2.2.2.1 x.2:=by
  unfold lN;refine .bind λ_ _=>.not (λ_=>.some nofun) λ_=>.ltf (λ_=>.ge (λ_=>.some nofun) λ_=>.bind λj n=>.ge (λc=>.some λ_=>⟨eD.refl _,?_⟩) λ_=>.bind λO I=>.ne (λc=>.some λd=>absurd d c) λH=>.bind λ_ _=>.ne (λc=>.some λd=>absurd d c) λ_=>.bind λ_ _=>.bind λL E=>.ne (λc=>.some λd=>absurd d c) λD=>.bind λM F=>.ne (λc=>.some λd=>absurd d c) λA=>.bind λN G=>.ne (λc=>.some λd=>absurd d c) λC=>.some λ_=>?_) λ_=>.some nofun;have k:Par (gR (x.1.1.2.2.2.1,x.2)) λj=>0<=j->mX x.1.1.2.2.2.1 x.2:=by
   unfold gR;refine .bind λ_ _=>.not (λ_=>.some λh=>absurd h (by decide)) λ_=>.bind λj n=>.some ?_;have g:Par (iG (x.1.1.2.2.2.1,x.2)) λj=>0<=j->mX x.1.1.2.2.2.1 x.2:=by unfold iG;refine .while (λz=>z.1=x.2/\z.2.2=x.1.1.2.2.2.1) ⟨rfl,rfl⟩ ?_;rintro⟨a,i,q⟩ ⟨h1,h2⟩;dsimp only at h1 h2;subst h1;subst h2;unfold VO;dsimp only;exact .lt (λ_=>.bind λf J=>.eq (λc=>.some λ_=>⟨f,zQ5 (cL J).2,c⟩) λ_=>.some ⟨rfl,rfl⟩) λ_=>.some λh=>absurd h (by decide)
   exact g _ n
  exact k _ n oo;obtain⟨K,o⟩:=Sv G C;refine⟨(Kc I H).trans K,?_⟩;have w:=Hm F A;have r:=Pp E D;dsimp only at o w r;rw[w,r]at o;exact o
 exact v _ e c
end
theorem FN{B S X:Int}(h:aB B S zI X)(e:BS B S 0 0:=by omega):Tot (uB X) λy=>aB 0 0 dP y:=by unfold uB;exact .ne (λc1=>.bind (eS h) λg h3=>.some h3.1) λc1=>.some ⟨aG 1,aC,aC,⟨trivial,J9⟩,aC⟩
theorem WA{B S:Int}{X:nK}(h:aB B S CO X)(z:BC B S 0 0:=by omega):Tot (BJ X) λy=>aB 0 0 (.pr Jb .b) y:=by unfold BJ;exact .bind ((AY h.1).eqn) λE h1=>.ite (λk=>have r:=wU h.1 h1.2 k;have:=Jh (l:=X.1.1);have:J0 X.1.1=_:=JE h.1.1;have:=Jh (l:=X.1.2);have:J0 X.1.2=_:=JE h.1.2;have g:aB 1024 0 JH X.1:=r.2;cU (J0 X.1.2) (λq=>(X.2,q,X.1,0,(0,0),0)) λo A x w=>.lt (λe=>.bind (Jl g.2) λD v=>.eq (λn=>.bind (Jl g.2) λC j=>.some ⟨j.1,trivial⟩) λn=>.some ⟨e,rfl⟩) λe=>.some ⟨aP,trivial⟩) λk=>.some ⟨aP,trivial⟩
section
variable {B S:Int}
theorem gx{X:qI}(h:aB B S jq X)(j:BS B S 0 0:=by omega)(k:B<=17179869183:=by omega):Tot (FI X) λy=>aB (B+1) S (.l zI) y/\J0 y<=J0 X.1+1:=by obtain⟨un,n⟩:=X;obtain⟨h,g⟩:=h;have o:J0 un<=B:=h.1;have q:Tot (FI (un,n)) λy=>aB (J0 un+1) 0 (.l zI) y:=Bz (b:=J0 un) (un:=un) ⟨aZ _,h.2⟩ g oo;exact q.mono λy e=>⟨e.u,e.1⟩
end
theorem gn{B S:Int}{X:nK}(h:aB B S CO X)(a3:BS B S 0 0:=by omega)(hB:B<=8589934591:=by omega):Tot (FE X) λy=>aB (2*B) 0 (.l zI) y:=by unfold FE;exact .bind (WA (B:=B) (S:=S) (h)) λR h1=>.not (λV=>.some Jc) λV=>have:J0 X.1.1=_/\_:=lF h.1.1;Jq (τ:=qI) (λq=>(X.2,q.1,q.2,X.1,R.1)) (λq=>(aB 0 0 zI q.2/\0<=q.2/\(q.2<=J0 X.1.1\/q.2<=0))/\(aB B 0 (.l zI) q.1/\J0 q.1<=1*q.2+0)) (λq=>J0 X.1.1-q.2) (by rintro⟨e,j⟩ C;dsimp only at C;obtain⟨⟨U,w9,W⟩,v,w8⟩:=C;unfold wd;(try dsimp only);exact have:=J2.1 U;.lt (λJ=>.bind (Jl h.1.1) λy4 L=>.bind (FX (B:=0) (S:=0) ⟨L.1,h1.1⟩) λy5 a0=>.ite (λQ=>.bind (Jl h.1.1) λy6 G=>.bind (gx (B:=B) (S:=0) ⟨v,G.1.1⟩) λo z=>have w:aB (B+1) 0 (.l zI) o:=z.1.u;have:J0 o<=(B+1):=w.1;have:J0 e<=B:=v.1;have:J0 o<=J0 e+1:=z.2;have K:aB B 0 (.l zI) o:=⟨(by omega:J0 o<=B),λx F=>w.2 x F⟩;have:=Jm j 1;.some ⟨(o,J1 .i64 j 1),rfl,⟨⟨Je,om,om⟩,K,om⟩,om,om⟩) λQ=>have:=Jm j 1;.some ⟨(e,J1 .i64 j 1),rfl,⟨⟨Je,om,om⟩,v,om⟩,om,om⟩) λJ=>.inr (have:J0 X.1.2=_/\_:=lF h.1.2;have:J0 e<=B:=v.1;Jq (τ:=qI) (λq=>(X.2,q.1,q.2,X.1,R.1)) (λq=>(aB 0 0 zI q.2/\0<=q.2/\(q.2<=J0 X.1.2\/q.2<=0))/\(aB (2*B) 0 (.l zI) q.1/\J0 q.1<=1*q.2+J0 e)) (λq=>J0 X.1.2-q.2) (by rintro⟨r,k⟩ D;dsimp only at D;obtain⟨⟨N,Z,a1⟩,n,a2⟩:=D;unfold vn;(try dsimp only);exact have:=J2.1 N;.lt (λT=>.bind (Jl h.1.2) λy9 a6=>.ne (λP=>.bind (Jl h.1.2) λY H=>.bind (FX (B:=0) (S:=0) ⟨H.1,h1.1⟩) λa7 a5=>.ite (λM=>.bind (Jl h.1.2) λa4 O=>.bind (gx (B:=(2*B)) (S:=0) ⟨n,O.1.1⟩) λg E=>have A:aB (2*B+1) 0 (.l zI) g:=E.1.u;have:J0 g<=(2*B+1):=A.1;have:J0 g<=J0 r+1:=E.2;have I:aB (2*B) 0 (.l zI) g:=⟨(by omega:J0 g<=(2*B)),λx F=>A.2 x F⟩;have:=Jm k 1;.some ⟨(g,J1 .i64 k 1),rfl,⟨⟨Je,om,om⟩,I,om⟩,om,om⟩) λM=>have:=Jm k 1;.some ⟨(r,J1 .i64 k 1),rfl,⟨⟨Je,om,om⟩,n,om⟩,om,om⟩) λP=>.some n) λT=>.some n) (e,0) rfl ⟨⟨aC,om,om⟩,v.u,om⟩)) ([],0) rfl (have:J0 ([]:List Int)=0:=rfl;⟨⟨aC,om,om⟩,Jc,om⟩)
theorem Ve{B S:Int}{X:cX}(h:aB B S fH X)(x:BH B S:=by omega)(F:B<=8589934591:=by omega):Tot (WB X) λy=>aB 0 0 (.pr zI (.pr cY .b)) y:=by unfold WB;exact .bind (WA (B:=B) (S:=S) ⟨h.1.e.1,h.2⟩) λv h1=>.not (λo=>.some ⟨aC,aP,trivial⟩) λo=>.bind (gn (B:=B) (S:=S) ⟨h.1.e.1,h.2⟩) λg h3=>have:J0 g<=(2*B):=h3.1;have:=Jh (l:=g);cU (J0 g) (λq=>(g,J0 g,q,X.1,(0,0),v.1)) λr D z E=>.lt (λk=>.bind (Jl h3) λA j=>.bind (xk (B:=B) (S:=S) ⟨h.1,j.1⟩) λC w=>.ite (λn=>.some ⟨j.1,h1.1.2.1,trivial⟩) λn=>.some ⟨k,rfl⟩) λk=>.some ⟨aC,aP,trivial⟩
theorem vg{B S:Int}{X:SU}(h:aB B S jz X)(z:BS B S 0 0:=by omega)(E:B<=9223372036854775807:=by omega):Tot (MJ X) λy=>aB 0 0 zI y/\(0<=y/\y<=J0 X.1.2):=by unfold MJ;exact .bind (zY (B:=B) (S:=S) ⟨h.1,h.2.1,h.c.1⟩) λF h1=>.eq (λo=>have:J0 X.1.2=_/\_:=lF h.1.2;.some ⟨(jR h.1.2.1 oo),om⟩) λo=>have:J0 X.1.2=_/\_:=lF h.1.2;cU (J0 X.1.2) (λq=>(q,X.1,X.2)) λr k v x=>.lt (λe=>.bind (Jl h.1.2) λD j=>.ite (λg=>have A:=dY.1 g;.bind (zY (B:=B) (S:=S) ⟨h.1,j.1.1,j.1.2.1⟩) λC w=>.eq (λn=>.some ⟨k,om⟩) λn=>.some ⟨e,rfl⟩) λg=>.some ⟨e,rfl⟩) λe=>.some ⟨(jR h.1.2.1 oo),om⟩
theorem Ue{B S:Int}{X:SU}(h:aB B S jz X)(ac:BG B S:=by omega):Tot (WE X) λy=>aB 4098 0 (.pr JH (.pr .b zI)) y:=by unfold WE;exact .bind ((AY h.1).eqn) λy2 h1=>.not (λM=>.some ⟨aP,trivial,aG 17⟩) λM=>have v3:=wU h.1 h1.2 M;have:J0 X.1.1=_/\_:=lF h.1.1;have:J0 X.1.2<=B:=h.1.2.1;have:J0 X.1.2=_:=JE h.1.2;have e:aB 1024 0 JH X.1:=v3.2;.bind (il h.2) λy3 a5=>.not (λQ=>.some ⟨aP,trivial,aG 1⟩) λQ=>.bind (WA (B:=1024) (S:=0) ⟨e,h.2.1⟩) λy4 a3=>.ite (λL=>.not (λF=>.some ⟨aP,trivial,aG 15⟩) λF=>have a9:=dY.1 F;.ite (λH=>.some ⟨e.u,trivial,aC⟩) λH=>.bind (zY (B:=1024) (S:=0) ⟨e,h.2.1,h.c.1⟩) λy5 a2=>.ge (λJ=>.some ⟨e.u,trivial,aC⟩) λJ=>have:=Jm (J0 X.1.1) (J0 X.1.2);.eq (λW=>.some ⟨aP,trivial,aG 21⟩) λW=>.bind (vg (B:=1024) (S:=0) ⟨e,h.2⟩) λN o=>have:=J2.1 o.1;have:0<=N/\N<=J0 X.1.2:=o.2;.bind (qO e.2) λG g=>.clo g.1 oo (by decide) (have:J0 G=_/\_:=lF g.1;.bind (bT (B:=1025) (Bl:=1024) (Bm:=1) (S:=0) (J0 G) 1 g.1 (cF (B:=1) (S:=0) (t:=Jb) oo h.2)) λU C=>.bind (pI e.2) λn k=>have:J0 U=_:=JE C.1;have:J0 n=_:=JE k.1;.bind (bT (B:=2049) (Bl:=1025) (Bm:=1024) (S:=0) (J0 U) (J0 n) C.1 k.1) λab Z=>.bind (MX (B:=2049) (S:=0) ⟨e.1.u,Z.1⟩) λT P=>have z:aB 4098 0 JH T:=P.1.u;.bind (zY (B:=4098) (S:=0) ⟨z,h.2.1,h.c.1⟩) λa4 a8=>.some ⟨z,trivial,aC⟩)) λL=>.ite (λY=>.some ⟨e.u,trivial,aC⟩) λY=>.bind (zY (B:=1024) (S:=0) ⟨e,h.2.1,h.c.1⟩) λa7 a1=>.ge (λK=>.some ⟨e.u,trivial,aC⟩) λK=>have:=Jm (J0 X.1.1) (J0 X.1.2);.eq (λR=>.some ⟨aP,trivial,aG 21⟩) λR=>.bind (vg (B:=1024) (S:=0) ⟨e,h.2⟩) λq D=>have:=J2.1 D.1;have:0<=q/\q<=J0 X.1.2:=D.2;.bind (qO e.2) λx j=>.clo j.1 oo (by decide) (have:J0 x=_/\_:=lF j.1;.bind (bT (B:=1025) (Bl:=1024) (Bm:=1) (S:=0) (J0 x) 1 j.1 (cF (B:=1) (S:=0) (t:=Jb) oo h.2)) λr E=>.bind (pI e.2) λv w=>have:J0 r=_:=JE E.1;have:J0 v=_:=JE w.1;.bind (bT (B:=2049) (Bl:=1025) (Bm:=1024) (S:=0) (J0 r) (J0 v) E.1 w.1) λa6 O=>.bind (MX (B:=2049) (S:=0) ⟨e.1.u,O.1⟩) λI V=>have A:aB 4098 0 JH I:=V.1.u;.bind (zY (B:=4098) (S:=0) ⟨A,h.2.1,h.c.1⟩) λaa ad=>.some ⟨A,trivial,aC⟩)
theorem Wl{B S:Int}{X:dA}(h:aB B S JH X)(I:BC B S 0 0:=by omega):Tot (VX X) λy=>aB 1024 0 (.l zI) y:=by unfold VX;exact .bind ((AY h).eqn) λL h1=>.ite (λD=>have E:=wU h h1.2 D;have:=Jh (l:=X.1);have:J0 X.1=_:=JE h.1;have:=Jh (l:=X.2);have:J0 X.2=_:=JE h.2;have C:aB 1024 0 JH X:=E.2;Jq (τ:=qI) (λq=>(q.1,q.2,X)) (λq=>(aB 0 0 zI q.2/\0<=q.2/\(q.2<=J0 X.2\/q.2<=0))/\(aB 1024 0 (.l zI) q.1/\J0 q.1<=1*q.2+0)) (λq=>J0 X.2-q.2) (by rintro⟨g,j⟩ r;dsimp only at r;obtain⟨⟨A,G,J⟩,k,H⟩:=r;unfold yt;(try dsimp only);exact have:=J2.1 A;.lt (λw=>.bind (Jl C.2) λK v=>.bind (gx (B:=1024) (S:=0) ⟨k,v.1.1⟩) λe o=>have n:aB 1025 0 (.l zI) e:=o.1.u;have:J0 e<=1025:=n.1;have:=Jh (l:=e);have:J0 g<=1024:=k.1;have:=Jh (l:=g);have:J0 e<=J0 g+1:=o.2;have z:aB 1024 0 (.l zI) e:=⟨(by omega:J0 e<=1024),λx F=>n.2 x F⟩;have:=Jm j 1;.some ⟨(e,J1 .i64 j 1),rfl,⟨⟨Je,om,om⟩,z,om⟩,om,om⟩) λw=>.some k) ([],0) rfl (have:J0 ([]:List Int)=0:=rfl;⟨⟨aC,om,om⟩,Jc,om⟩)) λD=>.some Jc
section
variable {B S:Int}
theorem JG1(k:Nat): ∀{t:dA} {e:List Int} {n:Int},aB B S JH t->aB 1024 0 (.l zI) e->1<=J0 e->J0 e<=n->n<=1024->n-J0 e<k->0<=B->0<=S->B<=8589934591->Tot (pX FP k (t,e,n)) λy=>aB 1024 0 (.l zI) y:=by
 induction k with
 |zero=>intro t e n h1 h2 h3 P E L;omega
 |succ k ih=>
  intro t e n h1 h2 h3 P E L z w M;show Tot (FP (pX FP k) (t,e,n)) _;unfold FP;dsimp only;have V:=bC (J0 e) 1;refine .bind (Jl h2 oo (by show _<J0 e;omega)) λN K=>.bind (gn (B:=B) (S:=S) (X:=(t,N)) ⟨h1,K.1⟩) λg h=>.eq (λc=>?_) λc=>?_;have I:J0 g<=2*B:=oG h.1 oo;refine Jq (τ:=Int) (λq=>(e,g,J0 g,q,t)) (λq=>0<=q/\q<=J0 g) (λq=>J0 g-q) ?_ 0 rfl ⟨aZ _,Jh⟩;rintro i ⟨o,Q⟩;unfold yp;dsimp only;have H:=Jm i 1;refine .lt (λc=>.bind (Jl h o c) λ_ _=>.bind (Jl h2 (aZ _) (by show 0<J0 e;omega)) λ_ _=>.eq (λ_=>.some h2) λ_=>.some ⟨J1 .i64 i 1,rfl,⟨oo,oo⟩,oo,oo⟩) λ_=>.some (Jc oo);have I:J0 g<=2*B:=oG h.1 oo;refine Jq (τ:=Int) (λq=>(e,n,g,J0 g,q,t)) (λq=>0<=q/\q<=J0 g) (λq=>J0 g-q) ?_ 0 rfl ⟨aZ _,Jh⟩;rintro i ⟨o,Q⟩;unfold xx;dsimp only;have H:=Jm i 1;refine .lt (λJ=>.bind (Jl h o J) λr F=>?_) λ_=>.some (Jc oo);refine Jq (τ:=Bool×Int) (λq=>(e,n,r,q.1,g,J0 g,i,e,J0 e,q.2,t)) (λq=>0<=q.2/\q.2<=J0 e) (λq=>J0 e-q.2) ?_ (false,0) rfl ⟨aZ _,by show 0<=J0 e;omega⟩;rintro⟨G,j⟩ ⟨D,O⟩;dsimp only at D O;unfold yq;dsimp only;have W:=Jm j 1;have go: ∀b:Bool,j<J0 e-> ∃c':Bool×Int,((e,n,r,b,g,J0 g,i,e,J0 e,J1 .i64 j 1,t):kg)=(e,n,r,c'.1,g,J0 g,i,e,J0 e,c'.2,t)/\(0<=c'.2/\c'.2<=J0 e)/\J0 e-c'.2<J0 e-j/\0<=J0 e-j:=λb Y=>⟨(b,J1 .i64 j 1),rfl,⟨by show 0<=J1 .i64 j 1;omega,by show J1 .i64 j 1<=_;omega⟩,by show J0 e-J1 .i64 j 1<_;omega,oo⟩;refine .lt (λv=>.bind (Jl h2 D v) λR _=>.itf (λ_=>.some (go _ v)) λ_=>.some (go _ v)) λ_=>.inr ?_;have C: ∃c':Int,((e,n,g,J0 g,J1 .i64 i 1,t):SG)=(e,n,g,J0 g,c',t)/\(0<=c'/\c'<=J0 g)/\J0 g-c'<J0 g-i/\0<=J0 g-i:=⟨J1 .i64 i 1,rfl,⟨oo,oo⟩,oo,oo⟩;refine .ite (λ_=>.some C) λ_=>.clo h2 oo (by decide) ?_;refine .bind (bT (B:=1024) (Bl:=1024) (Bm:=1024) (S:=0) (J0 e) 1 h2 (cF (B:=1024) (S:=0) (t:=.i .i64) oo F.1) rfl rfl (aZ _) (aZ _) oo oo (by decide)) λU x=>.bind (ih h1 x.1 oo oo E oo z w M) λT A=>.gt (λ_=>.some A) λ_=>.some C
theorem O0{X:nK}(h:aB B S CO X)(k:0<=B:=by omega)(j:0<=S:=by omega)(w:B<=8589934591:=by omega):Tot (UY X) λy=>aB 1024 0 (.l zI) y:=by obtain⟨t,x⟩:=X;obtain⟨e,g⟩:=h;unfold UY;dsimp only;refine Jq (τ:=Int) (λq=>(x,q,t)) (λq=>1<=q/\q<=1025) (λq=>1025-q) ?_ 1 rfl ⟨aZ _,by decide⟩;rintro n ⟨z,E⟩;unfold xq;dsimp only;have C:=Jm n 1;refine .bind (Wl e) λo v=>.le (λc=>?_) λ_=>.some (Jc oo);have A:J0 o<=1024:=v.1;refine .bind (JG1 (B:=B) (S:=S) 1100 e (cF (B:=1024) (S:=0) (t:=.i .i64) oo g) (aZ _) (by show(1:Int)<=n;omega) oo (by show n-1<1100;omega) k j w) λD r=>.gt (λ_=>.some r) λ_=>.some ⟨J1 .i64 n 1,rfl,⟨oo,oo⟩,oo,oo⟩
end
theorem ww{B S:Int}{X:eA}(h:aB B S iZ X)(r:BC B S 0 0:=by omega):Tot (wW X) λy=>aB 0 0 cY y/\(y.2=0->0<=y.1/\y.1<J0 X.1):=by unfold wW;exact .bind ((xA h.1).eqn) λw h1=>.not (λj=>have:J0 X.1<=B:=h.1.1;.some ⟨⟨aC,aG 15⟩,om⟩) λj=>have q:=rV h.1 h1.2 j;have:J0 X.1=_:=JE h.1;have g:aB 4096 0 (.l Jo) X.1:=q.2;.bind (VJ (B:=4096) (S:=0) ⟨g,h.2⟩) λk e=>have:=J2.1 e.1;have: -1<=k/\k<J0 X.1:=e.2;.lt (λo=>.some ⟨⟨aC,aG 16⟩,om⟩) λo=>.bind (Jl g) λx v=>.ne (λn=>.some ⟨⟨aC,aG 15⟩,om⟩) λn=>.some ⟨⟨e.1,aC⟩,om⟩
section
variable {B S:Int}
theorem wu{x:eA}{y:JP}(h:aB B S iZ x)(e:wW x=some y)(c:y.2=0):(J0 x.1<=64)/\aB 4096 0 (.l Jo) x.1:=by
 have g:Par (wW x) λy=>y.2=0->iW x.1=some true:=by unfold wW;refine .bind λa j=>.not (λ_=>.some nofun) λc=>?_;subst c;exact λ_ _ _=>j
 exact rV h.1 (g _ e c) rfl
end
theorem ur{B S:Int}{X:CB}(h:aB B S jf X)(J:BG B S:=by omega):Tot (MA X) λy=>aB 4096 0 iZ y:=by unfold MA;exact .bind ((ww (B:=B) (S:=S) (X:=(X.1,X.2.1)) ⟨h.1,h.2.1⟩).eqn) λq h1=>have:=J2.1 h1.1.1.1;have:J0 X.1=_:=JE h.1;have:q.2=0->0<=q.1/\q.1<J0 X.1:=h1.1.2;.ne (λr=>.some ⟨Jc,h1.1.1.2⟩) λr=>have I:=wu (x:=(X.1,X.2.1)) ⟨h.1,h.2.1⟩ h1.2 r;have n:aB 4096 0 (.l Jo) X.1:=I.2;.bind (Jl n) λw j=>have:=J2.1 h.c;.ltf (λE=>have:J0 w.2.2.2.2.2<=4096:=j.1.g.1;have:=Jh (l:=w.2.2.2.2.2);.ge (λC=>.some ⟨Jc,aG 19⟩) λC=>have:=Jm X.2.2 1;.bind (qO j.1.g) λo k=>.clo k.1 oo (by decide) (have:J0 o<=4096:=k.1.1;have:=Jh (l:=o);.bind (fC (l:=o)) λ_ _=>.bind (jF k.1) λK v=>.bind (VT (B:=4096) (S:=0) ⟨j.1.1,aG 2,j.1.c.1,v.1,j.1.e.1,k.1⟩) λG F=>have z:aB 4096 0 Jo G:=F.u;.bind (LR (B:=4096) (S:=0) ⟨n,h1.1.1.1,z⟩ om om) λH A=>have D:aB 4096 0 (.l Jo) H:=A.1.u;.some ⟨D,aC⟩)) λE=>.some ⟨Jc,aG 19⟩
theorem uz{B S:Int}{X:eA}(h:aB B S iZ X)(D:BG B S:=by omega):Tot (MC X) λy=>aB 4097 0 iZ y:=by unfold MC;exact .bind ((ww (B:=B) (S:=S) (X:=(X.1,X.2)) (h)).eqn) λo h1=>have:=J2.1 h1.1.1.1;have:J0 X.1=_:=JE h.1;have:o.2=0->0<=o.1/\o.1<J0 X.1:=h1.1.2;.ne (λr=>.some ⟨Jc,h1.1.1.2⟩) λr=>have C:=wu (x:=(X.1,X.2)) (h) h1.2 r;have k:aB 4096 0 (.l Jo) X.1:=C.2;.bind (Jl k) λn j=>have:J0 n.2.2.2.2.2<=4096:=j.1.g.1;have:=Jh (l:=n.2.2.2.2.2);.eq (λz=>.some ⟨Jc,aG 21⟩) λz=>.clo j.1.g oo (by decide) (.bind (bT (B:=4097) (Bl:=4096) (Bm:=1) (S:=0) (J0 n.2.2.2.2.2) 1 j.1.g (cF (B:=1) (S:=0) (t:=zI) oo j.1.c.1)) λE v=>.bind (LR (B:=4097) (S:=0) ⟨k.u,h1.1.1.1,j.1.1,j.1.2.1,j.1.c.1,j.1.d.1,j.1.e.1.u,v.1⟩ om om) λA q=>have w:aB 4097 0 (.l Jo) A:=q.1.u;.some ⟨w,aC⟩)
end Go.Am
end
