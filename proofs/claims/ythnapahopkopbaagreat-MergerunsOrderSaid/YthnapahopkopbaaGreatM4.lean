/-
  Parts of a proof.
-/
import Derived.Test.YthnapahopkopbaaGreatM2
import Derived.Test.YthnapahopkopbaaGreatM3
set_option linter.unusedSimpArgs false
set_option linter.unusedVariables false
section
namespace Go.Am
abbrev zI:Ty:=.i .i64
def Tot{ρ:Type}(o:Option ρ)(Q:ρ->Prop):Prop:= ∃r,o=some r/\Q r
section
variable {α β ρ σ τ:Type} {Q:ρ->Prop}
theorem Tot.bind{P:α->Prop}{o:Option α}{f:α->Option ρ}(h:Tot o P)(h2: ∀r,P r->Tot (f r) Q):Tot (o.bind f) Q:=by obtain⟨r,rfl,hq⟩:=h;exact h2 r hq
theorem Tot.some{r:ρ}(h:Q r):Tot (some r) Q:=⟨r,rfl,h⟩
theorem Tot.mono{P:ρ->Prop}{o:Option ρ}(h:Tot o P)(h2: ∀r,P r->Q r):Tot o Q:=by obtain⟨r,e,hq⟩:=h;exact⟨r,e,h2 r hq⟩
theorem Tot.map{P:α->Prop}{o:Option α}{f:α->ρ}(h:Tot o P)(h2: ∀r,P r->Q (f r)):Tot (Option.map f o) Q:=by obtain⟨r,rfl,hq⟩:=h;exact⟨f r,rfl,h2 r hq⟩
theorem Tot.get{o:Option ρ}{r:ρ}(h:Tot o Q)(e:o=Option.some r):Q r:=by obtain⟨r',e',h⟩:=h;simp_all
variable {u v:Option ρ}
theorem Tot.ite{c:Bool}(h1:c=true->Tot u Q)(h2:c=false->Tot v Q):Tot (if c=true then u else v) Q:=by
 grind
theorem Tot.itf{c:Bool}(h1:c=false->Tot u Q)(h2:c=true->Tot v Q):Tot (if c=false then u else v) Q:=by
 grind
theorem Tot.not{c:Bool}(h1:c=false->Tot u Q)(h2:c=true->Tot v Q):Tot (if Jr c=true then u else v) Q:=by
 cases c with
 |true=>exact h2 rfl
 |false=>exact h1 rfl
theorem Tot.nof{c:Bool}(h1:c=true->Tot u Q)(h2:c=false->Tot v Q):Tot (if Jr c=false then u else v) Q:=by
 cases c with
 |true=>exact h1 rfl
 |false=>exact h2 rfl
variable {a c:Int}
theorem J4G:ltI a c=true↔a<c:=by simp[ltI]
theorem J8s:gtI a c=true↔c<a:=by simp[gtI]
theorem J1R:leI a c=true↔a<=c:=by simp[leI]
theorem J9V:geI a c=true↔c<=a:=by simp[geI]
theorem J5h:eqI a c=true↔a=c:=by simp[eqI]
theorem Jb5:neI a c=true↔ ¬a=c:=by simp[neI]
theorem Tot.by{p:Prop}{x:Bool}(hp:x=true↔p)(h1:p->Tot u Q)(h2: ¬p->Tot v Q):Tot (if x=true then u else v) Q:=.ite (λh=>h1 (hp.1 h)) λh=>h2 λh3=>by simp_all
theorem Tot.byf{p:Prop}{x:Bool}(hp:x=true↔p)(h1: ¬p->Tot u Q)(h2:p->Tot v Q):Tot (if x=false then u else v) Q:=.itf (λh=>h1 λh3=>by simp_all) λh=>h2 (hp.1 h)
theorem Tot.lt(h1:a<c->Tot u Q)(h2: ¬a<c->Tot v Q):Tot (if ltI a c=true then u else v) Q:=.by J4G h1 h2
theorem Tot.gt(h1:c<a->Tot u Q)(h2: ¬c<a->Tot v Q):Tot (if gtI a c=true then u else v) Q:=.by J8s h1 h2
theorem Tot.le(h1:a<=c->Tot u Q)(h2: ¬a<=c->Tot v Q):Tot (if leI a c=true then u else v) Q:=.by J1R h1 h2
theorem Tot.ge(h1:c<=a->Tot u Q)(h2: ¬c<=a->Tot v Q):Tot (if geI a c=true then u else v) Q:=.by J9V h1 h2
theorem Tot.eq(h1:a=c->Tot u Q)(h2: ¬a=c->Tot v Q):Tot (if eqI a c=true then u else v) Q:=.by J5h h1 h2
theorem Tot.ne(h1: ¬a=c->Tot u Q)(h2:a=c->Tot v Q):Tot (if neI a c=true then u else v) Q:=.by Jb5 h1 (λh=>h2 (Decidable.of_not_not h))
theorem Tot.ltf(h1: ¬a<c->Tot u Q)(h2:a<c->Tot v Q):Tot (if ltI a c=false then u else v) Q:=.byf J4G h1 h2
theorem Tot.gtf(h1: ¬c<a->Tot u Q)(h2:c<a->Tot v Q):Tot (if gtI a c=false then u else v) Q:=.byf J8s h1 h2
theorem Tot.lef(h1: ¬a<=c->Tot u Q)(h2:a<=c->Tot v Q):Tot (if leI a c=false then u else v) Q:=.byf J1R h1 h2
theorem Tot.gef(h1: ¬c<=a->Tot u Q)(h2:c<=a->Tot v Q):Tot (if geI a c=false then u else v) Q:=.byf J9V h1 h2
theorem Tot.eqf(h1: ¬a=c->Tot u Q)(h2:a=c->Tot v Q):Tot (if eqI a c=false then u else v) Q:=.byf J5h h1 h2
theorem Tot.nef(h1:a=c->Tot u Q)(h2: ¬a=c->Tot v Q):Tot (if neI a c=false then u else v) Q:=.byf Jb5 (λh=>h1 (Decidable.of_not_not h)) h2
end
def Ty.fit(B S:Int):(t:Ty)->t.D->Prop
 | .b,_=>True
 | .i k,z=>k.min<=z/\z<=k.max
 | .s,z=>J0 (α:=UInt8) z<=S
 | .l t,z=>J0 (α:=t.D) z<=B/\ ∀x∈(z:List t.D),t.fit B S x
 | .pr a c,x=>a.fit B S x.1/\c.fit B S x.2
 | .ar n t,v=> ∀(i:Nat) (h:i<n),t.fit B S ((v:Vector t.D n)[i])
 | .u,_=>True
 | .f,_=>True
abbrev zFt:= @Ty.fit
theorem Ty.fit.up{B S g e:Int}(h1:B<=g)(h2:S<=e): ∀{t:Ty} {x:t.D},t.fit B S x->t.fit g e x
 | .b,_,_=>trivial
 | .i _,_,h=>h
 | .s,_,h=>Jd3 h h2
 | .l _,_,h=>⟨Jd3 h.1 h1,λx hx=>(h.2 x hx).up h1 h2⟩
 | .pr _ _,_,h=>⟨h.1.up h1 h2,h.2.up h1 h2⟩
 | .ar _ _,_,h=>λi hi=>(h i hi).up h1 h2
 | .u,_,_=>trivial
 | .f,_,_=>trivial
section
variable {α:Type} {l:List α}
theorem J4:0<=J0 l:=Int.natCast_nonneg _
theorem Jdm:J0 ([]:List α)=0:=rfl
theorem J5G{x:α}:J0 [x]=1:=rfl
theorem J76{m:List α}:J0 (l++m)=J0 l+J0 m:=by simp[J0]
end
theorem wrap64(n:Int):IntKind.i64.wrap n=(n+9223372036854775808)%18446744073709551616-9223372036854775808:=by simp[IntKind.wrap,IntKind.bits,IntKind.signed];omega
theorem J6G(k:IntKind)(n:Int):k.min<=k.wrap n/\k.wrap n<=k.max:=by cases k<;>simp[IntKind.wrap,IntKind.min,IntKind.max,IntKind.bits,IntKind.signed]<;>omega
theorem Jb(a b:Int):J1 .i64 a b=(a+b+9223372036854775808)%18446744073709551616-9223372036854775808:=wrap64 _
theorem J0o(a b:Int):JH .i64 a b=(a-b+9223372036854775808)%18446744073709551616-9223372036854775808:=wrap64 _
theorem Jlo(a b:Int):J2u .i64 a b=(a*b+9223372036854775808)%18446744073709551616-9223372036854775808:=wrap64 _
theorem JAr(a:Int):cvI .i64 a=(a+9223372036854775808)%18446744073709551616-9223372036854775808:=wrap64 _
section
variable {B S:Int} {k:IntKind} {a b:Int}
theorem J3:Ty.fit B S (.i .i64) a↔ -9223372036854775808<=a/\a<=9223372036854775807:=by simp[Ty.fit,IntKind.min,IntKind.signed,IntKind.bits]
theorem J58(k:IntKind)(n:Int)(h:k.min<=n/\n<=k.max:=by decide):Ty.fit B S (.i k) n:=h
theorem J8:Ty.fit B S (.i k) (J1 k a b):=J6G _ _
theorem J2f:Ty.fit B S (.i k) (JH k a b):=J6G _ _
theorem JH7:Ty.fit B S (.i k) (J2u k a b):=J6G _ _
theorem JbI:Ty.fit B S (.i k) (cvI k a):=J6G _ _
theorem cvu(k:IntKind)(a:Int)(h:k.min=0:=by rfl):0<=cvI k a:=by have:=(J6G k a).1;rw[h]at this;exact this
theorem JIx:Ty.fit B S (.i k) (orI k a b):=J6G _ _
theorem Jzo:Ty.fit B S (.i k) (JeP k a b):=J6G _ _
theorem JIc:Ty.fit B S (.i k) (JEe k a):=J6G _ _
theorem JHm(ha:Ty.fit B S (.i k) a)(hb:Ty.fit B S (.i k) b):Ty.fit B S (.i k) (JaR a b):=by
 grind [JaR]
theorem J4B(ha:Ty.fit B S (.i k) a)(hb:Ty.fit B S (.i k) b):Ty.fit B S (.i k) (J1m a b):=by
 grind [J1m]
theorem J4y{α:Type}{l:List α}{n:Int}(h:J0 l<=n)(hn:n<=9223372036854775807):Ty.fit B S (.i .i64) (J0 l):=by
 have:=J4 (l:=l)
 grind [J3]
theorem Jc{t:Ty}(e:0<=B:=by omega):Ty.fit B S (.l t) ([]:List t.D):=⟨e,λ_ h=>by cases h⟩
theorem J0j{t:Ty}{x:t.D}(e:1<=B)(h:t.fit B S x):Ty.fit B S (.l t) ([x]:List t.D):=⟨e,λy hy=>by simp_all⟩
theorem J10{t:Ty}{x:t.D}{l:List t.D}(e:J0 (x::l)<=B)(h:t.fit B S x)(hl:Ty.fit B S (.l t) l):Ty.fit B S (.l t) (x::l):=⟨e,λy hy=>by
 rcases J40.1 hy with rfl|hy
 ·exact h
 ·exact hl.2 y hy⟩
theorem Jmj:Ty.fit B S (.i .u8) a↔0<=a/\a<=255:=by simp[Ty.fit,IntKind.min,IntKind.max,IntKind.signed,IntKind.bits]
theorem J0i(g:0<=B)(e:0<=S): ∀t:Ty,t.fit B S t.zero
 | .b=>trivial
 | .i k=>by cases k<;>simp[Ty.fit,Ty.zero,IntKind.min,IntKind.max,IntKind.signed,IntKind.bits]
 | .s=>e
 | .l _=>Jc g
 | .pr a c=>⟨J0i g e a,J0i g e c⟩
 | .ar n t=>λi hi=>by show t.fit B S ((Vector.replicate n t.zero)[i]);rw[Vector.getElem_replicate];exact J0i g e t
 | .u=>trivial
 | .f=>trivial
end
theorem Jk{B S:Int}{t:Ty}{l:List t.D}(_:Ty.fit B S (.l t) l): @J0 t.D l= @J0 t.D l:=rfl
section
variable {B S:Int} {t:Ty}
theorem Jh{l:List t.D}{i:Int}(h:Ty.fit B S (.l t) l)(g:0<=i:=by omega)(h1:i<J0 l:=by omega):Tot (idx l i) λr=>t.fit B S r/\r∈l:=by
 have e:i.toNat<l.length:=by grind [J0]
 refine⟨l[i.toNat],?_,h.2 _ (Jam e),Jam e⟩
 grind [idx]
theorem JgH{n bytes:Nat}(h:(n:Int)<=34359738368)(hb:bytes<=2048):J8O n bytes=true:=by unfold J8O;rw[decide_eq_true_eq];have:(2*n+512)*bytes<=(2*34359738368+512)*2048:=Nat.mul_le_mul (by omega) hb;omega
theorem J0x{bytes:Nat}{l m:List t.D}{Bl Bm:Int}(k n:Int)(hl:Ty.fit Bl S (.l t) l)(hm:Ty.fit Bm S (.l t) m)(hk:J0 l=k:=by rfl)(hn:J0 m=n:=by rfl)(h1:Bl<=B:=by omega)(h2:Bm<=B:=by omega)(h3:k+n<=B:=by omega)(e:B<=34359738368:=by omega)(hb:bytes<=2048:=by decide):
  Tot (JA bytes l m) λr=>Ty.fit B S (.l t) r/\J0 r=k+n/\r=l++m:=by
 subst hn hk;refine⟨l++m,?_,⟨by grind [J76],λx hx=>?_⟩,J76,rfl⟩
 ·grind [JA,JgH,J0]
 ·rcases J2h.1 hx with h|h
  ·exact(hl.2 x h).up h1 (J0F _)
  ·exact(hm.2 x h).up h2 (J0F _)
theorem JmX{bytes:Nat}{l:List t.D}(hl:Ty.fit B S (.l t) l)(e:B<=34359738368)(hb:bytes<=2048):Tot (J1J bytes l) λr=>r=l:=by refine⟨l,?_,rfl⟩;unfold J1J;rw[if_pos (JgH (by have:=hl.1;grind [J0]) hb)]
theorem Jor{α:Type}{l:List α}{k:Int}(e:0<=k)(h1:k<=J0 l):Tot (J0s l none (some k)) λr=>r=l.take k.toNat/\J0 r=k:=by
 refine⟨l.take k.toNat,?_,rfl,?_⟩
 all_goals grind [J0s,JeM,Jgi,J0]
theorem Jbx{α:Type}{l:List α}{k:Int}(e:0<=k)(h1:k<=J0 l):Tot (J0s l (some k) none) λr=>r=l.drop k.toNat/\J0 r=J0 l-k:=by
 refine⟨l.drop k.toNat,?_,rfl,?_⟩
 all_goals grind [J0s,JeM,Jgi,J0]
theorem Ji1{α:Type}{l:List α}{j k:Int}(e:0<=j)(h2:j<=k)(h1:k<=J0 l):Tot (J0s l (some j) (some k)) λr=>r=(l.drop j.toNat).take (k-j).toNat/\J0 r=k-j:=by
 refine⟨(l.drop j.toNat).take (k-j).toNat,?_,rfl,?_⟩
 all_goals grind [J0s,JeM,Jgi,J0]
theorem JEB{l:List t.D}{n:Nat}(h:Ty.fit B S (.l t) l):Ty.fit B S (.l t) (l.take n):=⟨by
 have:=h.1
 grind [J0],λx hx=>h.2 x (JGi hx)⟩
theorem JFp{l:List t.D}{n:Nat}(h:Ty.fit B S (.l t) l):Ty.fit B S (.l t) (l.drop n):=⟨by
 have:=h.1
 grind [J0],λx hx=>h.2 x (zQ7 hx)⟩
theorem J75{a b:List UInt8}(h:J0 a+J0 b<=4611686018427387904:=by omega):Tot (J5B a b) λr=>J0 r=J0 a+J0 b/\r=a++b:=by
 refine⟨a++b,?_,J76,rfl⟩
 grind [J5B,J0]
theorem Jum{bytes:Nat}{n m:Int}{z:t.D}(hz:t.fit B S z)(e:0<=n:=by omega)(h1:n<=m:=by omega)(h2:m<=34359738368:=by omega)(hn:n<=B:=by omega)(hb:bytes<=2048:=by decide):Tot (mkS bytes n m z) λr=>Ty.fit B S (.l t) r/\J0 r=n:=by
 refine⟨List.replicate n.toNat z,?_,⟨?_,λx hx=>?_⟩,?_⟩
 ·unfold mkS;have:(bytes:Int)*m<=2048*34359738368:=Jd3 (Int.mul_le_mul_of_nonneg_right (by omega) (by omega)) (Int.mul_le_mul_of_nonneg_left h2 (by omega))
  grind
 all_goals grind [J0]
theorem JKK{x y:Int}(h: ¬y=0):Tot (Jgn x y) λr=>r=x.tmod y:=⟨_,by grind [Jgn],rfl⟩
theorem JKe{k:IntKind}{x y:Int}(h:0<=y):Tot (JgL k x y) λr=>r=k.wrap (x*2^(min y.toNat k.bits)):=⟨_,by grind [JgL],rfl⟩
theorem JKZ{k:IntKind}{x y:Int}(h:0<=y):Tot (Jg8 k x y) λr=>r=x.fdiv (2^(min y.toNat k.bits)):=⟨_,by grind [Jg8],rfl⟩
theorem J7k{n:Nat}{i:Int}(e:0<=i:=by omega)(h1:i<n:=by omega):Tot (inb n i) λ_=>True:=⟨(),by grind [inb],trivial⟩
theorem Jcb{l:List t.D}{i:Int}(h:Ty.fit B S (.l t) l)(g:0<=i:=by omega)(h1:i<J0 l:=by omega):Tot (lat l i.toNat) λr=>t.fit B S r/\r∈l:=by
 have e:i.toNat<l.length:=by grind [J0]
 exact⟨l[i.toNat],by simp[lat],h.2 _ (Jam e),Jam e⟩
theorem Jcd{n:Nat}{v:Vector t.D n}{i:Nat}(h:Ty.fit B S (.ar n t) v)(h1:i<n:=by omega):Tot (vat v i) λr=>t.fit B S r:=
 ⟨v[i],by simp[vat],h _ h1⟩
theorem J4I{l:List t.D}{i:Nat}{x:t.D}(h:Ty.fit B S (.l t) l)(hx:t.fit B S x):Ty.fit B S (.l t) (J0B l i x):=⟨by
 have:=h.1
 grind [J0B,J0],λy hy=>by
 rcases JEY hy with h1|rfl
 ·exact h.2 y h1
 ·exact hx⟩
theorem J6x{α:Type}{l:List α}{i:Nat}{x:α}:J0 (J0B l i x)=J0 l:=by simp[J0B,J0]
theorem JkA{n:Nat}{v:Vector t.D n}{i:Nat}{x:t.D}(h:Ty.fit B S (.ar n t) v)(hx:t.fit B S x):Ty.fit B S (.ar n t) (JgI v i x):=λj hj=>by
 unfold JgI;show t.fit B S ((v.setIfInBounds i x)[j]);rw[Vector.getElem_setIfInBounds];split
 ·exact hx
 ·exact h j hj
theorem JBe{l:List UInt8}{i:Int}(g:0<=i:=by omega)(h1:i<J0 l:=by omega):Tot (JeT l i) λr=>0<=r/\r<=255:=by
 have e:i.toNat<l.length:=by grind [J0]
 refine⟨(l[i.toNat].toNat:Int),?_,by omega,?_⟩
 ·grind [JeT]
 ·have:=l[i.toNat].toNat_lt;omega
theorem JCO{l:List UInt8}:J0 (toByt l)=J0 l:=by simp[toByt,J0]
theorem J8p{l:List Int}:J0 (toStr l)=J0 l:=by simp[toStr,J0]
end
theorem Ty.fit.u{B S g e:Int}{t:Ty}{x:t.D}(h:t.fit B S x)(h1:B<=g:=by omega)(h2:S<=e:=by omega):t.fit g e x:=h.up h1 h2
theorem Tot.inr{σ ρ:Type}{o:Option ρ}{Q:σ⊕ρ->Prop}(h:Tot o λy=>Q (.inr y)):Tot (Option.map .inr o) Q:=h.map λ_ h=>h
section
variable {B S:Int} {t:Ty}
theorem Tot.clo{ρ:Type}{Q:ρ->Prop}{bytes:Nat}{l:List t.D}{f:List t.D->Option ρ}(hl:Ty.fit B S (.l t) l)(g:B<=34359738368)(hb:bytes<=2048)(h:Tot (f l) Q):Tot ((J1J bytes l).bind f) Q:=
 .bind (JmX hl g hb) λr e=>by simp_all
theorem J6g{α:Type}{x:α}{l:List α}:J0 (x::l)=J0 l+1:=by simp[J0]
theorem Je(h:0<=S:=by omega):Ty.fit B S .s ([]:List UInt8):=h
theorem JJl{l:List UInt8}(n:Int)(h:J0 l=n)(h2:n<=S):Ty.fit B S .s l:=by show J0 l<=S;omega
theorem J6j{α:Type}{l:List α}{i:Int}(e:0<=i:=by omega)(h1:i<J0 l:=by omega):Tot (inb l.length i) λ_=>True:=J7k e h1
theorem J6m{l:List t.D}{k:Int}(h:Ty.fit B S (.l t) l)(g:0<=k:=by omega)(h1:k<=J0 l:=by omega):Tot (J0s l none (some k)) λr=>Ty.fit B S (.l t) r/\J0 r=k:=
 (Jor g h1).mono λ_ ⟨e,h2⟩=>⟨e▸JEB h,h2⟩
theorem J3J{l:List t.D}{k:Int}(h:Ty.fit B S (.l t) l)(g:0<=k:=by omega)(h1:k<=J0 l:=by omega):Tot (J0s l (some k) none) λr=>Ty.fit B S (.l t) r/\J0 r=J0 l-k:=
 (Jbx g h1).mono λ_ ⟨e,h2⟩=>⟨e▸JFp h,h2⟩
theorem JcM{l:List UInt8}{k:Int}(h:J0 l<=S)(e:0<=k:=by omega)(h1:k<=J0 l:=by omega):Tot (J0s l none (some k)) λr=>J0 r<=S/\J0 r=k:=
 (Jor e h1).mono λ_ ⟨_,h2⟩=>⟨by omega,h2⟩
theorem JwK{l:List UInt8}{k:Int}(h:J0 l<=S)(e:0<=k:=by omega)(h1:k<=J0 l:=by omega):Tot (J0s l (some k) none) λr=>J0 r<=S/\J0 r=J0 l-k:=
 (Jbx e h1).mono λ_ ⟨_,h2⟩=>⟨by omega,h2⟩
theorem JcS{l:List UInt8}{j k:Int}(h:J0 l<=S)(e:0<=j:=by omega)(h2:j<=k:=by omega)(h1:k<=J0 l:=by omega):Tot (J0s l (some j) (some k)) λr=>J0 r<=S/\J0 r=k-j:=
 (Ji1 e h2 h1).mono λ_ ⟨_,h3⟩=>⟨by omega,h3⟩
theorem Jew{l:List Int}(h:J0 l<=S):Ty.fit B S .s (toStr l):=by
 show J0 (toStr l)<=S
 grind [J8p]
theorem JzU(a b:Int):JaR a b<=a/\JaR a b<=b/\(JaR a b=a\/JaR a b=b):=by grind [JaR]
theorem J6I(a b:Int):a<=J1m a b/\b<=J1m a b/\(J1m a b=a\/J1m a b=b):=by grind [J1m]
theorem Jze{x y:Int}(h:0<=x):x.tmod y<=x:=by
 obtain⟨m,rfl⟩:=Int.eq_ofNat_of_zero_le h;cases y with
 |ofNat n=>show((m%n:Nat):Int)<=m;exact Int.ofNat_le.2 (Nat.mod_le _ _)
 |negSucc n=>show((m%(n+1):Nat):Int)<=m;exact Int.ofNat_le.2 (Nat.mod_le _ _)
theorem JHA{x y:Int}:(0<=x->0<=x.tmod y)/\(0<y->x.tmod y<y)/\(x<=0->x.tmod y<=0)/\(0<=x->x.tmod y<=x)/\(x<=0->x<=x.tmod y):=by
 refine⟨λh=>Int.tmod_nonneg _ h,λh=>Int.tmod_lt_of_pos _ h,λh=>?_,λh=>?_,λh=>?_⟩
 ·have:=Int.tmod_nonneg (a:= -x) y (by omega);simp_all
 ·exact Jze h
 ·have h2:(-x).tmod y<= -x:=Jze (by omega);simp_all
theorem Jlv{k:IntKind}{x y:Int}(hx:Ty.fit B S (.i k) x)(h: ¬y=0):Tot (Jgn x y) λr=>Ty.fit B S (.i k) r/\((0<=x->0<=r)/\(0<y->r<y)):=
 (JKK h).mono λr e=>by
  subst e;obtain⟨h1,h2,h3,h4,h5⟩:=JHA (x:=x) (y:=y);refine⟨?_,h1,h2⟩;have hz:k.min<=0/\0<=k.max:=by cases k<;>simp[IntKind.min,IntKind.max,IntKind.bits,IntKind.signed]
  obtain⟨q1,q2⟩:k.min<=x/\x<=k.max:=hx;show k.min<=x.tmod y/\x.tmod y<=k.max
  grind
theorem JJR{k:IntKind}{x y:Int}(h:0<=y):Tot (JgL k x y) λr=>Ty.fit B S (.i k) r:=(JKe h).mono λr e=>e▸J6G _ _
theorem JH0{k:IntKind}{x:Int}{n:Nat}(hx:Ty.fit B S (.i k) x):Ty.fit B S (.i k) (x.fdiv (2^n)):=by
 have hp:(0:Int)<2^n:=Int.pow_pos (by decide);have hz:k.min<=0/\0<=k.max:=by cases k<;>simp[IntKind.min,IntKind.max,IntKind.bits,IntKind.signed]
 obtain⟨q1,q2⟩:k.min<=x/\x<=k.max:=hx;show k.min<=x.fdiv (2^n)/\x.fdiv (2^n)<=k.max;rw[Int.fdiv_eq_ediv_of_nonneg _ (Int.le_of_lt hp)];rcases Int.le_total 0 x with h|h
 ·have h1:=Int.ediv_nonneg h (Int.le_of_lt hp);have h2:=Int.ediv_le_self (2^n:Int) h;omega
 ·have h1:x/(2^n)<=0:=by
   have:=Int.ediv_le_ediv hp h;simp_all
  have h2:x<=x/(2^n):=by rw[Int.le_ediv_iff_mul_le hp];have:x*(2^n)<=x*1:=Int.mul_le_mul_of_nonpos_left h (by omega);omega
  omega
theorem JvC{k:IntKind}{x y:Int}(hx:Ty.fit B S (.i k) x)(h:0<=y):Tot (Jg8 k x y) λr=>Ty.fit B S (.i k) r:=(JKZ h).mono λr e=>e▸JH0 hx
end
theorem Jf{σ τ ρ:Type}{L:σ->Option (σ⊕ρ)}{Q:ρ->Prop}(e:τ->σ)(I:τ->Prop)(m:τ->Int)
  (h: ∀c,I c->Tot (L (e c)) λr=>match r with| .inl z=> ∃c',z=e c'/\I c'/\m c'<m c/\0<=m c| .inr y=>Q y) {z:σ} (c:τ) (hz:z=e c) (g:I c):Tot (Jg L z) Q:=by
 subst hz;have j: ∀(n:Nat) (c:τ),(m c+1).toNat<n->I c->Tot (Jg L (e c)) Q:=by
  intro n
  induction n with
  |zero=>simp_all
  |succ n ih=>
   intro c h1 g;obtain⟨r,h2,h3⟩:=h c g;cases r with
   |inl z=>
    grind [Jav]
   |inr y=>rw[J7e h2];exact⟨y,rfl,h3⟩
 exact j _ c (Nat.lt_succ_self _) g
theorem JLa(x m:Int)(g:0<=m:=by decide)(hm:m<4294967296:=by decide):0<=JtL .u32 x m/\JtL .u32 x m<=m:=by
 have e:JtL .u32 x m=IntKind.wrap .u32 (((BitVec.ofInt 32 x&&&BitVec.ofInt 32 m).toNat:Nat):Int):=rfl;have h2:(BitVec.ofInt 32 m).toNat=m.toNat:=by grind
 have h3:(BitVec.ofInt 32 x&&&BitVec.ofInt 32 m).toNat<=m.toNat:=by
  grind [Nat.and_le_right]
 generalize (BitVec.ofInt 32 x&&&BitVec.ofInt 32 m).toNat=z at e h3;have h4:IntKind.wrap .u32 (z:Int)=(z:Int)%4294967296:=rfl
 grind
theorem om{p:Prop}(h:p:=by first|omega|(dsimp only;omega)|(simp only[Jdm,J5G]<;>omega)):p:=h
abbrev BS(B S b s:Int):Prop:=b<=B/\s<=S
theorem fk0{B S:Int}:Ty.fit B S (.i .i64) 0:=J58 .i64 0
theorem fkn{B S:Int}(n:Int)(h:IntKind.i64.min<=n/\n<=IntKind.i64.max:=by decide):Ty.fit B S (.i .i64) n:=h
abbrev BC(B S b s:Int):Prop:=b<=B/\s<=S/\B<=4611686018427387903
abbrev BH(B S:Int):Prop:=16384<=B/\1073741824<=S
abbrev BG(B S:Int):Prop:=16384<=B/\1073741824<=S/\B<=4611686018427387903
theorem fzr{B S:Int}{t:Ty}{x:t.D}(e:x=t.zero:=by rfl)(h:0<=B:=by omega)(h2:0<=S:=by omega):Ty.fit B S t x:=e▸J0i h h2 t
def Ty.nl:Ty->Bool
 | .l _=>false
 | .pr a c=>a.nl&&c.nl
 | .ar _ t=>t.nl
 |_=>true
theorem Ty.fit.z'{B S:Int}: ∀{t:Ty} {x:t.D},t.nl=true->Ty.fit B S t x->Ty.fit 0 S t x
 | .b,_,_,_=>trivial
 | .i _,_,_,h=>h
 | .s,_,_,h=>h
 | .l _,_,n,_=>by cases n
 | .pr a c,_,n,h=>by have n:(a.nl&&c.nl)=true:=n;rw[J04]at n;exact⟨Ty.fit.z' n.1 h.1,Ty.fit.z' n.2 h.2⟩
 | .ar _ _,_,n,h=>λi hi=>Ty.fit.z' n (h i hi)
 | .u,_,_,_=>trivial
 | .f,_,_,_=>trivial
theorem Ty.fit.z{B S:Int}{t:Ty}{x:t.D}(h:Ty.fit B S t x)(n:t.nl=true:=by rfl):Ty.fit 0 S t x:=Ty.fit.z' n h
theorem omc{p q:Prop}(o:q)(h:q->p:=by intro o;first|omega|(dsimp only;omega)|(simp only[Jdm,J5G]<;>omega)):p:=h o
theorem oo{p:Prop}(h:p:=by omega):p:=h
end Go.Am
end
section
namespace Go.Am
theorem Tot.eqn{ρ:Type}{o:Option ρ}{Q:ρ->Prop}(h:Tot o Q):Tot o λr=>Q r/\o=Option.some r:=by obtain⟨r,e,h⟩:=h;exact⟨r,e,h,e⟩
theorem Tot.same{α ρ:Type}{o:Option α}{f:α->Option ρ}{w:α}{Q:ρ->Prop}(e:o=Option.some w)(h:Tot (f w) Q):Tot (o.bind f) Q:=by rw[e];exact h
def Par{ρ:Type}(o:Option ρ)(Q:ρ->Prop):Prop:= ∀r,o=Option.some r->Q r
section
variable {α β ρ σ:Type} {Q:ρ->Prop} {u v:Option ρ}
theorem Par.bind{o:Option α}{f:α->Option ρ}(h: ∀a,o=Option.some a->Par (f a) Q):Par (o.bind f) Q:=by
 intro r hr;cases o with
 |none=>cases hr
 |some a=>exact h a rfl r hr
theorem Par.map{o:Option α}{f:α->ρ}(h:Par o λa=>Q (f a)):Par (Option.map f o) Q:=by
 intro r hr;cases o with
 |none=>cases hr
 |some a=>injection hr with hr;subst hr;exact h a rfl
theorem Par.some{r:ρ}(h:Q r):Par (Option.some r) Q:=by intro r' e;simp_all
theorem Par.none:Par (Option.none:Option ρ) Q:=by intro r e;cases e
theorem Par.mono{o:Option ρ}{P:ρ->Prop}(h:Par o P)(h2: ∀r,P r->Q r):Par o Q:=λr e=>h2 r (h r e)
theorem Par.ite{c:Bool}(h1:c=true->Par u Q)(h2:c=false->Par v Q):Par (if c=true then u else v) Q:=by
 grind
theorem Par.itf{c:Bool}(h1:c=false->Par u Q)(h2:c=true->Par v Q):Par (if c=false then u else v) Q:=by
 grind
theorem Par.not{c:Bool}(h1:c=false->Par u Q)(h2:c=true->Par v Q):Par (if Jr c=true then u else v) Q:=by
 cases c with
 |true=>exact h2 rfl
 |false=>exact h1 rfl
theorem Par.nof{c:Bool}(h1:c=true->Par u Q)(h2:c=false->Par v Q):Par (if Jr c=false then u else v) Q:=by
 cases c with
 |true=>exact h1 rfl
 |false=>exact h2 rfl
variable {a c:Int}
theorem Par.by{p:Prop}{x:Bool}(hp:x=true↔p)(h1:p->Par u Q)(h2: ¬p->Par v Q):Par (if x=true then u else v) Q:=.ite (λh=>h1 (hp.1 h)) λh=>h2 λh3=>by simp_all
theorem Par.byf{p:Prop}{x:Bool}(hp:x=true↔p)(h1: ¬p->Par u Q)(h2:p->Par v Q):Par (if x=false then u else v) Q:=.itf (λh=>h1 λh3=>by simp_all) λh=>h2 (hp.1 h)
theorem Par.lt(h1:a<c->Par u Q)(h2: ¬a<c->Par v Q):Par (if ltI a c=true then u else v) Q:=.by J4G h1 h2
theorem Par.gt(h1:c<a->Par u Q)(h2: ¬c<a->Par v Q):Par (if gtI a c=true then u else v) Q:=.by J8s h1 h2
theorem Par.le(h1:a<=c->Par u Q)(h2: ¬a<=c->Par v Q):Par (if leI a c=true then u else v) Q:=.by J1R h1 h2
theorem Par.ge(h1:c<=a->Par u Q)(h2: ¬c<=a->Par v Q):Par (if geI a c=true then u else v) Q:=.by J9V h1 h2
theorem Par.eq(h1:a=c->Par u Q)(h2: ¬a=c->Par v Q):Par (if eqI a c=true then u else v) Q:=.by J5h h1 h2
theorem Par.ne(h1: ¬a=c->Par u Q)(h2:a=c->Par v Q):Par (if neI a c=true then u else v) Q:=.by Jb5 h1 (λh=>h2 (Decidable.of_not_not h))
theorem Par.ltf(h1: ¬a<c->Par u Q)(h2:a<c->Par v Q):Par (if ltI a c=false then u else v) Q:=.byf J4G h1 h2
theorem Par.gtf(h1: ¬c<a->Par u Q)(h2:c<a->Par v Q):Par (if gtI a c=false then u else v) Q:=.byf J8s h1 h2
theorem Par.lef(h1: ¬a<=c->Par u Q)(h2:a<=c->Par v Q):Par (if leI a c=false then u else v) Q:=.byf J1R h1 h2
theorem Par.gef(h1: ¬c<=a->Par u Q)(h2:c<=a->Par v Q):Par (if geI a c=false then u else v) Q:=.byf J9V h1 h2
theorem Par.eqf(h1: ¬a=c->Par u Q)(h2:a=c->Par v Q):Par (if eqI a c=false then u else v) Q:=.byf J5h h1 h2
theorem Par.nef(h1:a=c->Par u Q)(h2: ¬a=c->Par v Q):Par (if neI a c=false then u else v) Q:=.byf Jb5 (λh=>h1 (Decidable.of_not_not h)) h2
theorem Par.while{L:σ->Option (σ⊕ρ)}(I:σ->Prop){z:σ}(hz:I z)(h: ∀z,I z->Par (L z) λr=>match r with| .inl g=>I g| .inr y=>Q y):Par (Jg L z) Q:=by intro r hr;refine JiE (P:=λs r=>I s->Q r) (λs r e hs=>h s hs _ e) (λs s' r e ih hs=>ih (h s hs _ e)) hr hz
end
theorem J0H{α:Type}{l:List α}{i:Int}{r:α}(h:idx l i=Option.some r):0<=i/\l[i.toNat]?=Option.some r:=by
 grind [idx]
theorem J51{α:Type}{l:List α}{j:Nat}{e:α}(h:l[j]?=some e):(j:Int)<J0 l:=by
 grind [J0]
theorem JFu(a b:Int):J2u .i64 a b=a*b\/a*b< -9223372036854775808\/9223372036854775807<a*b:=by
 grind [J2u,wrap64]
theorem Jdn(a b:Int):J1 .i64 a b=a+b\/a+b< -9223372036854775808\/9223372036854775807<a+b:=by
 grind [Jb]
theorem JnF(a b:Int):JH .i64 a b=a-b\/a-b< -9223372036854775808\/9223372036854775807<a-b:=by
 grind [J0o]
def Jws{α:Type}(P:α->Prop)(l:List α)(i:Int):Prop:=0<=i/\ ∀x∈l.take i.toNat,P x
theorem JJC{α:Type}{P:α->Prop}{l:List α}:Jws P l 0:=⟨by omega,λx h=>by simp at h⟩
theorem JDA{α:Type}{P:α->Prop}{l:List α}{i j:Int}{x:α}(h:Jws P l i)(e:idx l i=Option.some x)(hx:P x)(hj:j=i+1):Jws P l j:=by
 obtain⟨g,h⟩:=h;obtain⟨_,e⟩:=J0H e;subst hj;refine⟨by omega,λy hy=>?_⟩;have:(i+1).toNat=i.toNat+1:=by omega
 grind [List.take_add_one]
theorem JEi{α:Type}{P:α->Prop}{l:List α}{i:Int}(h:Jws P l i)(hi: ¬i<J0 l): ∀x∈l,P x:=λx hx=>h.2 x (by
 grind [List.take_of_length_le,J0])
end Go.Am
end
section
namespace Go.Am
def Fw{α:Type}(o e:Option α):Prop:= ∀y,o=some y->e=some y
variable {α β σ τ ρ:Type}
theorem Fw.rfl{o:Option α}:Fw o o:=λ_ h=>h
theorem Fw.of{o g:Option α}(h:o=g):Fw o g:=λ_ e=>h▸e
theorem Fw.ite{c v:Bool}{a b e g:Option α}(h1:c=v->Fw a e)(h2: ¬c=v->Fw b g):Fw (if c=v then a else b) (if c=v then e else g):=by
 grind
theorem Fw.bind{o j:Option α}{f g:α->Option β}(h:Fw o j)(k: ∀y,o=some y->Fw (f y) (g y)):Fw (o.bind f) (j.bind g):=λr e=>by obtain⟨y,h1,h2⟩:=J2K.1 e;rw[h y h1];exact k y h1 r h2
theorem Fw.while{L:σ->Option (σ⊕ρ)}{M:τ->Option (τ⊕ρ)}(R:σ->τ->Prop)
  (h: ∀a b,R a b-> ∀r,L a=some r->match r with| .inl k=> ∃j,M b=some (.inl j)/\R k j| .inr y=>M b=some (.inr y)) {z:σ} {g:τ} (hz:R z g):Fw (Jg L z) (Jg M g):=λy hy=>by
 refine JiE (P:=λs r=> ∀b,R s b->Jg M b=some r) (λs r e b hb=>J7e (h s b hb _ e)) (λs s' r e ih b hb=>?_) hy g hz
 grind [Jav]
end Go.Am
end
section
namespace Go.Am
set_option linter.unusedVariables false
set_option maxRecDepth 20000
set_option maxHeartbeats 4000000
section
variable {B S:Int}
theorem Jjv{x:J1l}(e:J0m x=some true):J0 x.2<=12:=by
 have g:Par (J0m x) λy=>y=true->J0 x.2<=12:=by unfold J0m;exact .le (λc r _ _=>c) λ_=>.some nofun
 exact g _ e rfl
theorem Jso{x:JT}(e:J26 x=some true): ∀(j:Nat) (hj:j<16),J0 (x.2.2[j]).2<=12:=by
 have k:Par (J26 x) λy=>y=true-> ∀(j:Nat) (hj:j<16),J0 (x.2.2[j]).2<=12:=by
  unfold J26;refine .while (λz=>z.2=x/\0<=z.1/\z.1<=16/\ ∀(j:Nat) (hj:j<16),(j:Int)<z.1->J0 (x.2.2[j]).2<=12) ⟨rfl,J0F _,by dsimp only;omega,λj e h1=>by dsimp only at h1;omega⟩ ?_;rintro⟨i,z⟩ ⟨rfl,o,h,g⟩;dsimp only at o g h;unfold Jak;dsimp only;refine .lt (λc=>?_) λc=>.some λ_ j hj=>g j hj oo;refine .bind λ_ _=>.bind λr h4=>.bind λb hb=>.nof (λn=>?_) λ_=>.some nofun;subst n;have:=Jb i 1;have hn:z.2=z.2/\(0<=J1 .i64 i 1/\J1 .i64 i 1<=16/\ ∀(j:Nat) (hj:j<16),(j:Int)<J1 .i64 i 1->J0 (z.2.2[j]).2<=12):=by
   refine⟨rfl,oo,oo,λj hj q=>?_⟩;by_cases hl:(j:Int)<i
   ·exact g j hj hl
   ·have:j=i.toNat:=by omega
    subst this;unfold vat at h4;rw[Vector.getElem?_eq_getElem hj]at h4;injection h4 with h4;rw[h4];exact Jjv hb
  exact .eq (λ_=>.bind λ_ _=>.bind λ_ _=>.ite (λ_=>.some nofun) λ_=>.some ⟨rfl,hn.2⟩) λ_=>.some ⟨rfl,hn.2⟩
 exact k _ e rfl
theorem JdO{x:JT}(e:J1V x=some true):0<=x.1/\x.1<64/\0<=x.2.1/\x.2.1<=1099511627776:=by
 have g:Par (J1V x) λy=>y=true->0<=x.1/\x.1<64/\0<=x.2.1/\x.2.1<=1099511627776:=by unfold J1V;exact .ge (λ_=>.lt (λ_=>.ge (λ_=>.some λc=>by have:=J1R.1 c;omega) λ_=>.some nofun) λ_=>.some nofun) λ_=>.some nofun
 exact g _ e rfl
theorem JrF{x:JT}(e:J1M x=some true):J1V x=some true/\J26 x=some true:=by
 have g:Par (J1M x) λy=>y=true->J1V x=some true/\J26 x=some true:=by unfold J1M;exact .bind λa ha=>.ite (λc=>.bind λb hb=>.some λd=>⟨c▸ha,d▸hb⟩) λ_=>.some nofun
 exact g _ e rfl
theorem Jzl{x:JT}(h:zFt B S Ju x)(e:J26 x=some true):zFt 0 12 Ju x:=
 ⟨h.1,h.2.1,λi hi=>⟨trivial,Jso e i hi⟩⟩
theorem Jh7{x:JT}{y:Bool}(h:zFt B S Ju x)(e:J1M x=some y)(c:y=true):(0<=x.1/\x.1<64/\0<=x.2.1/\x.2.1<=1099511627776)/\zFt 0 12 Ju x:=by subst c;obtain⟨h1,h2⟩:=JrF e;exact⟨JdO h1,Jzl h h2⟩
theorem J7v{x:JT}{y:Int}(h:zFt B S Ju x)(e:J2x x=some y)(c:y=0):(0<=x.1/\x.1<64/\0<=x.2.1/\x.2.1<=1099511627776)/\zFt 0 12 Ju x:=by
 subst c;have g:Par (J2x x) λy=>y=0->J1V x=some true/\J26 x=some true:=by unfold J2x;exact .bind λa ha=>.not (λ_=>.some nofun) λc=>.bind λb hb=>.not (λ_=>.some nofun) λd=>.some λ_=>⟨c▸ha,d▸hb⟩
 obtain⟨h1,h2⟩:=g _ e rfl;exact⟨JdO h1,Jzl h h2⟩
def JK3(n i:Int)(p:JG)(r:(TQ105)⊕Bool):Prop:=r=.inl (n,J1 .i64 i 1,p)\/r=.inr false
theorem Jyj(n i k:Int)(p:JG)(f:T_api_Frame):Par (Jg J0c (n,i,k,p,f)) (JK3 n i p):=by refine .while (λz=>z.1=n/\z.2.1=i/\z.2.2.2.1=p) ⟨rfl,rfl,rfl⟩ ?_;rintro⟨n,i,k,p,f⟩ ⟨rfl,rfl,rfl⟩;unfold J0c;exact .lt (λ_=>.bind λ_ _=>.eq (λ_=>.map (.some (.inr rfl))) λ_=>.some ⟨rfl,rfl,rfl⟩) λ_=>.some (.inl rfl)
theorem Jc2{x:JG}(e:JR x=some true):(1<=x.1/\x.1<=64/\J0 x.2.1<=x.1/\0<=x.2.2/\(x.2.2<J0 x.2.1\/x.2.2=0))/\ ∀(j:Nat) (f:T_api_Frame),x.2.1[j]?=some f->J1M f.1=some true:=by
 have k:Par (JR x) λy=>y=true->(1<=x.1/\x.1<=64/\J0 x.2.1<=x.1/\0<=x.2.2/\(x.2.2<J0 x.2.1\/x.2.2=0))/\ ∀(j:Nat) (f:T_api_Frame),x.2.1[j]?=some f->J1M f.1=some true:=by
  unfold JR;refine .ltf (λv=>.gtf (λw=>.gtf (λc3=>.ltf (λC=>.gt (λ_=>.some nofun) λB=>?_) λ_=>.some nofun) λ_=>.some nofun) λ_=>.some nofun) λ_=>.some nofun;have:=J6I 0 (JH .i64 (J0 x.2.1) 1);have:=J0o (J0 x.2.1) 1;have:=J4 (l:=x.2.1);have hq:1<=x.1/\x.1<=64/\J0 x.2.1<=x.1/\0<=x.2.2/\(x.2.2<J0 x.2.1\/x.2.2=0):=by omega
  refine .while (λz=>z.2.2=x/\0<=z.2.1/\z.1=J0 x.2.1/\ ∀(j:Nat) (f:T_api_Frame),(j:Int)<z.2.1->x.2.1[j]?=some f->J1M f.1=some true) ⟨rfl,J0F _,rfl,λj e h1=>by dsimp only at h1;omega⟩ ?_;rintro⟨n,i,z⟩ ⟨rfl,q,hn,h⟩;dsimp only at q h hn hq c3;unfold J67;dsimp only;refine .lt (λc=>?_) λc=>.some λ_=>⟨hq,λj f he=>h j f (by have:=J51 he;omega) he⟩;refine .bind λf hf=>.bind λb hb=>.nof (λo=>?_) λ_=>.some nofun;subst o;have:=Jb i 1;have A:z=z/\0<=J1 .i64 i 1/\n=J0 z.2.1/\ ∀(j:Nat) (f:T_api_Frame),(j:Int)<J1 .i64 i 1->z.2.1[j]?=some f->J1M f.1=some true:=by
   refine⟨rfl,oo,hn,λj g hj he=>?_⟩;by_cases hl:(j:Int)<i
   ·exact h j g hl he
   ·have:j=i.toNat:=by omega
    subst this;rw[(J0H hf).2]at he;injection he with he;subst he
    exact hb
  refine .ite (λ_=>.ltf (λ_=>.gtf (λ_=>.not (λ_=>.ne (λ_=>.some nofun) λ_=>?_) λ_=>?_) λ_=>.some nofun) λ_=>.some nofun) λ_=>.not (λ_=>.ne (λ_=>.some nofun) λ_=>?_) λ_=>?_
  all_goals
   intro r hr;rcases Jyj n i 0 z f r hr with rfl|rfl
   ·exact A
   ·nofun
 exact k _ e rfl
theorem J30{x:JG}{y:Bool}(h:zFt B S JM x)(e:JR x=some y)(c:y=true):(1<=x.1/\x.1<=64/\J0 x.2.1<=x.1/\0<=x.2.2/\(x.2.2<J0 x.2.1\/x.2.2=0))/\zFt 64 12 JM x:=by subst c;obtain⟨q,k⟩:=Jc2 e;refine⟨q,h.1,⟨by show J0 x.2.1<=64;omega,λa ha=>?_⟩,h.c⟩;obtain⟨j,hj⟩:=J5w.1 ha;have h2:=h.2.1.2 a ha;exact⟨(Jh7 h2.1 (k j a hj) rfl).2.u,h2.2⟩
theorem J3X{x:J01}{y:Bool}(h:zFt B S JD x)(e:J1B x=some y)(c:y=true)(k:B<=4611686018427387903:=by omega):(J0 x.1+J0 x.2<=1024)/\zFt 1024 0 JD x:=by
 subst c;have g:Par (J1B x) λy=>y=true-> ¬1024<J1 .i64 (J0 x.1) (J0 x.2):=by unfold J1B;exact .gt (λ_=>.some nofun) λc _ _ _=>c
 have o:=g _ e rfl;have:=Jb (J0 x.1) (J0 x.2);have:=J4 (l:=x.1);have:=J4 (l:=x.2);have:J0 x.1<=B:=h.1.1;have:J0 x.2<=B:=h.2.1;have j:J0 x.1+J0 x.2<=1024:=by omega
 refine⟨j,⟨?_,λa ha=>?_⟩,?_,λa ha=>?_⟩
 ·show J0 x.1<=1024;omega
 ·have q:=h.1.2 a ha;exact q
 ·show J0 x.2<=1024;omega
 ·have q:=h.c a ha;exact q
theorem Jqn{x:Jo}(e:J2B x=some true):1<=x.1/\x.1<=1073741824/\1<=x.2.1/\x.2.1<=3/\J0 x.2.2.2.2.1<=4096/\J0 x.2.2.2.2.2<=8:=by
 have g:Par (J2B x) λy=>y=true->1<=x.1/\x.1<=1073741824/\1<=x.2.1/\x.2.1<=3/\J0 x.2.2.2.2.1<=4096/\J0 x.2.2.2.2.2<=8:=by unfold J2B;refine .ltf (λo=>.gtf (λh=>.ltf (λc3=>.gtf (λn=>.ltf (λ_=>.gtf (λ_=>.gtf (λj=>.gt (λ_=>.some nofun) λk=>?_) λ_=>.some nofun) λ_=>.some nofun) λ_=>.some nofun) λ_=>.some nofun) λ_=>.some nofun) λ_=>.some nofun) λ_=>.some nofun;intro _ _ _;omega
 exact g _ e rfl
theorem JrV{x:List Jo}(e:J18 x=some true):J0 x<=64/\ ∀(j:Nat) (f:Jo),x[j]?=some f->J2B f=some true:=by
 have k:Par (J18 x) λy=>y=true->J0 x<=64/\ ∀(j:Nat) (f:Jo),x[j]?=some f->J2B f=some true:=by
  unfold J18;refine .gt (λ_=>.some nofun) λr=>?_;have hq:J0 x<=64:=by omega
  refine .while (λz=>z.1=x/\0<=z.2/\ ∀(j:Nat) (f:Jo),(j:Int)<z.2->x[j]?=some f->J2B f=some true) ⟨rfl,J0F _,λj e h1=>by dsimp only at h1;omega⟩ ?_;rintro⟨z,i⟩ ⟨rfl,q,h⟩;dsimp only at q h hq;unfold Ja3;dsimp only;refine .lt (λc=>?_) λc=>.some λ_=>⟨hq,λj f he=>h j f (by have:=J51 he;omega) he⟩;refine .bind λf hf=>.bind λb hb=>.nof (λn=>?_) λ_=>.some nofun;subst n;have:=Jb i 1;have o:z=z/\0<=J1 .i64 i 1/\ ∀(j:Nat) (f:Jo),(j:Int)<J1 .i64 i 1->z[j]?=some f->J2B f=some true:=by
   refine⟨rfl,oo,λj g hj he=>?_⟩;by_cases hl:(j:Int)<i
   ·exact h j g hl he
   ·have:j=i.toNat:=by omega
    subst this;rw[(J0H hf).2]at he;injection he with he;subst he
    exact hb
  exact .gt (λ_=>.bind λ_ _=>.bind λ_ _=>.ge (λ_=>.some nofun) λ_=>.some o) λ_=>.some o
 exact k _ e rfl
theorem J2X{x:List Jo}{y:Bool}(h:zFt B S (.l Jm) x)(e:J18 x=some y)(c:y=true):(J0 x<=64)/\zFt 4096 0 (.l Jm) x:=by
 subst c;obtain⟨q,k⟩:=JrV e;refine⟨q,?_,λa ha=>?_⟩
 ·show J0 x<=4096;omega
 obtain⟨j,hj⟩:=J5w.1 ha;have w:=Jqn (k j a hj);obtain⟨h1,h2,h3,h4,h5,g⟩:=h.2 a ha;refine⟨h1,h2,h3,h4,⟨?_,h5.2⟩,?_,g.2⟩
 ·show J0 _<=4096;omega
 ·show J0 _<=4096;omega
theorem J4R{x:List T_api_Row}{y:Bool}(h:zFt B S (.l Jd) x)(e:J0Q x=some y)(c:y=true):(1<=J0 x/\J0 x<=64)/\zFt 64 0 (.l Jd) x:=by
 subst c;have g:Par (J0Q x) λy=>y=true->(1<=J0 x/\J0 x<=64):=by unfold J0Q;exact .ltf (λ_=>.gt (λ_=>.some nofun) λ_ _ _ _=>by omega) λ_=>.some nofun
 have q:=g _ e rfl;exact⟨q,q.2,λa ha=>h.2 a ha⟩
theorem Jip{l:List T_api_Row}{p:Int}(e:J0P (l,p)=some true)(hp:1<=p)(n:p<=64):J0 l<=p/\ ∀(j:Nat) (f:T_api_Row),l[j]?=some f->(j:Int)<=f.1/\f.1<p:=by
 have o:Par (J0P (l,p)) λy=>y=true->J0 l<=p/\ ∀(j:Nat) (f:T_api_Row),l[j]?=some f->(j:Int)<=f.1/\f.1<p:=by
  unfold J0P;refine .while (λz=>z.1=l/\z.2.1=p/\0<=z.2.2/\z.2.2<=p/\ ∀(j:Nat) (f:T_api_Row),(j:Int)<z.2.2->l[j]?=some f->(j:Int)<=f.1/\f.1<p) ⟨rfl,rfl,J0F _,by dsimp only;omega,λj e h1=>by dsimp only at h1;omega⟩ ?_;rintro⟨l,p,i⟩ ⟨rfl,rfl,r,k,h⟩;dsimp only at r h k hp n;unfold J59;dsimp only;refine .lt (λc=>?_) λc=>.some λ_=>⟨oo,λj f he=>h j f (by have:=J51 he;omega) he⟩;refine .bind λf hf=>.ltf (λA=>.gef (λB=>.ltf (λ_=>.gtf (λ_=>.gtf (λ_=>?_) λ_=>.some nofun) λ_=>.some nofun) λ_=>.some nofun) λ_=>.some nofun) λ_=>.some nofun;have:=Jb i 1;have:=J0o i 1;have q:i<=f.1->(l=l/\p=p/\0<=J1 .i64 i 1/\J1 .i64 i 1<=p/\ ∀(j:Nat) (f:T_api_Row),(j:Int)<J1 .i64 i 1->l[j]?=some f->(j:Int)<=f.1/\f.1<p):=by
   intro w;refine⟨rfl,rfl,oo,oo,λj g hj he=>?_⟩;by_cases hl:(j:Int)<i
   ·exact h j g hl he
   ·have:j=i.toNat:=by omega
    subst this;rw[(J0H hf).2]at he;injection he with he;subst he
    omega
  refine .gt (λx=>.bind λv h4=>.ge (λ_=>.some nofun) λC=>.some (q ?_)) λ_=>.some (q oo);obtain⟨_,h5⟩:=J0H h4;have:=h _ v oo h5;omega
 exact o _ e rfl
end
section
variable {B S:Int}
def Has(l:List Jo)(id:Int):Prop:= ∃j,J0X (l,id)=some j/\0<=j
def InP(p:JG)(id:Int):Prop:= ∃j,J0U (p,id)=some j/\0<=j
theorem Jke{l:List Jo}{id y:Int}(h:Has l id)(e:J0X (l,id)=some y):0<=y:=by obtain⟨j,h,g⟩:=h;rw[h]at e;injection e with e;omega
theorem Jkp{p:JG}{id y:Int}(h:InP p id)(e:J0U (p,id)=some y):0<=y:=by obtain⟨j,h,g⟩:=h;rw[h]at e;injection e with e;omega
theorem JeG{p:JG}{id:Int}{y:JT×Bool}(e:J2m (p,id)=some y):(y.2=true->InP p id)/\(InP p id->y.2=true):=by
 have g:Par (J2m (p,id)) λy=>(y.2=true->InP p id)/\(InP p id->y.2=true):=by unfold J2m;refine .bind λj hj=>.lt (λc=>.some ⟨nofun,λh=>by have:=Jkp h hj;omega⟩) λc=>.bind λf hf=>.some ⟨λ_=>⟨j,hj,oo⟩,λ_=>rfl⟩
 exact g _ e
end
section
variable {B S:Int}
theorem Jj5(n:Nat)(h:n<2^64):IntKind.wrap .u64 (n:Int)=(n:Int):=by
 have:(n:Int)<18446744073709551616:=by omega
 simp[IntKind.wrap,IntKind.bits,IntKind.signed];omega
theorem JJN{x y:Int}{k:Nat}(hk:k<=64)(hx:0<=x)(g:x<2^k)(hy:0<=y)(h:y<2^k):0<=orI .u64 x y/\orI .u64 x y<2^k:=by
 obtain⟨m,rfl⟩:=Int.eq_ofNat_of_zero_le hx;obtain⟨n,rfl⟩:=Int.eq_ofNat_of_zero_le hy;have e:((2:Int)^k)=((2^k:Nat):Int):=by simp
 rw[e]at g h⊢;have hm:m<2^k:=by omega
 have hn:n<2^k:=by omega
 have r:2^k<=2^64:=Jp6 (by decide) hk;have q: ∀z:Nat,z<2^k->(BitVec.ofInt 64 (z:Int)).toNat=z:=λz hz=>by rw[BitVec.toNat_ofInt];omega
 show 0<=IntKind.wrap .u64 (((BitVec.ofInt 64 (m:Int)|||BitVec.ofInt 64 (n:Int)).toNat:Nat):Int)/\_;have o:=Nat.or_lt_two_pow hm hn;have e2:orI .u64 (m:Int) (n:Int)=((m|||n:Nat):Int):=by show IntKind.wrap .u64 (((BitVec.ofInt 64 (m:Int)|||BitVec.ofInt 64 (n:Int)).toNat:Nat):Int)=_;rw[BitVec.toNat_or,q m hm,q n hn,Jj5 _ oo]
 have j:IntKind.wrap .u64 (((BitVec.ofInt 64 (m:Int)|||BitVec.ofInt 64 (n:Int)).toNat:Nat):Int)=((m|||n:Nat):Int):=e2;rw[e2,j];omega
theorem JyH{s:List UInt8}{at_ size:Int}{y:JI}(e:J09 (s,at_,size)=some y)(c:y.2=0):0<=at_/\at_<=J0 s/\size<=J0 s-at_/\1<=size/\size<=8/\(size<=4->0<=y.1/\y.1<2^(8*size.toNat)):=by
 have k:Par (J09 (s,at_,size)) λy=>y.2=0->(-9223372036854775808<=J0 s-at_->J0 s-at_<=9223372036854775807->size<=J0 s-at_)/\0<=at_/\at_<=J0 s/\1<=size/\size<=8/\(size<=4->0<=y.1/\y.1<2^(8*size.toNat)):=by
  unfold J09;dsimp only;refine .ltf (λH=>.gtf (λJ=>.lt (λ_=>.some nofun) λc3=>.gtf (λI=>.lt (λ_=>.some nofun) λK=>?_) λ_=>.some nofun) λ_=>.some nofun) λ_=>.some nofun;have o:=J0o (J0 s) at_;refine .while (λz=>z.1=s/\z.2.1=at_/\z.2.2.1=size/\0<=z.2.2.2.2/\z.2.2.2.2<=size/\0<=z.2.2.2.1/\z.2.2.2.1<2^(8*z.2.2.2.2.toNat)) ⟨rfl,rfl,rfl,J0F _,by dsimp only;omega,J0F _,by show(0:Int)<2^(8*0);decide⟩ ?_;rintro⟨s,at_,size,n,i⟩ ⟨h1,h2,h3,r,h4,h5,g⟩;dsimp only at h1 h2 h3;subst h1;subst h2;subst h3;dsimp only at r h4 h5 g;unfold J9k;dsimp only;have:=Jb i 1;refine .lt (λc=>?_) λc=>.some λ_=>⟨λ_ _=>by omega,oo,oo,oo,oo,λh=>?_⟩
  ·refine .bind λb hb=>.bind λj hy=>.some ⟨rfl,rfl,rfl,?_,?_,?_⟩
   ·show 0<=J1 .i64 i 1;omega
   ·show J1 .i64 i 1<=size;omega
   have F:0<=b/\b<=255:=by
    unfold JeT at hb;split at hb
    ·cases hx:s[(J1 .i64 at_ i).toNat]? with
     |none=>rw[hx]at hb;cases hb
     |some u=>
      rw[hx]at hb;injection hb with hb;subst hb
      have:=u.toNat_lt;omega
    ·cases hb
   have hi:(J1 .i64 i 1).toNat=i.toNat+1:=by omega
   show 0<=orI .u64 n j/\orI .u64 n j<2^(8*(J1 .i64 i 1).toNat);rw[hi];have:=Jlo 8 i;have B:cvI .u64 (J2u .i64 8 i)=8*i:=by rw[show J2u .i64 8 i=((8*i.toNat:Nat):Int) by omega];show IntKind.wrap .u64 _=_;rw[Jj5 _ oo];omega
   have x:cvI .u64 b=b:=by rw[show b=((b.toNat:Nat):Int) by omega];exact Jj5 _ oo
   rw[B,x]at hy;unfold JgL at hy;rw[if_neg oo]at hy;injection hy with hy;have hm:min (8*i).toNat IntKind.u64.bits=8*i.toNat:=by show min (8*i).toNat 64=_;omega
   rw[hm]at hy;have hp:((2:Int)^(8*i.toNat))=((2^(8*i.toNat):Nat):Int):=by simp
   have D:b.toNat*2^(8*i.toNat)<2^(8*(i.toNat+1)):=by rw[show 8*(i.toNat+1)=8+8*i.toNat by omega,Nat.pow_add];exact Nat.mul_lt_mul_of_pos_right oo (Nat.pow_pos (by decide))
   have G:2^(8*(i.toNat+1))<=2^64:=Jp6 (by decide) oo;have q:j=((b.toNat*2^(8*i.toNat):Nat):Int):=by rw[<-hy,hp,show b*((2^(8*i.toNat):Nat):Int)=((b.toNat*2^(8*i.toNat):Nat):Int) by rw[Int.natCast_mul];congr 1;omega];exact Jj5 _ oo
   have hn:n<2^(8*(i.toNat+1)):=Int.lt_of_lt_of_le g (by have:(2:Nat)^(8*i.toNat)<=2^(8*(i.toNat+1)):=Jp6 (by decide) oo;rw[hp,show((2:Int)^(8*(i.toNat+1)))=((2^(8*(i.toNat+1)):Nat):Int) by simp];omega)
   refine JJN oo h5 hn (by rw[q];omega) ?_;rw[q,show((2:Int)^(8*(i.toNat+1)))=((2^(8*(i.toNat+1)):Nat):Int) by simp];omega
  ·have hi:i.toNat=size.toNat:=by omega
   rw[hi]at g;have E:(2:Nat)^(8*size.toNat)<=2^32:=Jp6 (by decide) oo;have hp:((2:Int)^(8*size.toNat))=((2^(8*size.toNat):Nat):Int):=by simp
   rw[hp]at g;have:=JAr n;show 0<=cvI .i64 n/\cvI .i64 n<2^(8*size.toNat);rw[hp];omega
 obtain⟨k1,k2,v,C,w,A⟩:=k _ e c;have:=J4 (l:=s);exact⟨k2,v,by
  by_cases h:J0 s-at_<=9223372036854775807
  ·exact k1 oo h
  ·omega,C,w,A⟩
theorem J7A{x:J0J}{y:JI}(h:zFt B S JB x)(e:J09 x=some y)(c:y.2=0):(1<=x.2.2/\x.2.2<=8/\0<=x.2.1/\x.2.1<=J0 x.1/\x.2.2<=J0 x.1-x.2.1/\(x.2.2<=4->0<=y.1/\y.1<=4294967295)/\(x.2.2=1->y.1<=255)/\(x.2.2=2->y.1<=65535))/\True:=by
 obtain⟨s,at_,size⟩:=x;obtain⟨h1,h2,h3,h4,h5,g⟩:=JyH e c;dsimp only;refine⟨⟨h4,h5,h1,h2,h3,λh=>?_,λh=>?_,λh=>?_⟩,trivial⟩
 ·obtain⟨a,b⟩:=g h;refine⟨a,?_⟩;have j:(2:Nat)^(8*size.toNat)<=2^32:=Jp6 (by decide) oo;rw[show((2:Int)^(8*size.toNat))=((2^(8*size.toNat):Nat):Int) by simp]at b;omega
 ·subst h;obtain⟨a,b⟩:=g (by decide);have:y.1<256:=b;omega
 ·subst h;obtain⟨a,b⟩:=g (by decide);have:y.1<65536:=b;omega
end
theorem Jla{B S:Int}{x1:Jp}(h:zFt B S J7 x1)(p0:0<=x1.2)(g:BS B S 0 0:=by omega):Tot (J4m x1) λy=>zFt B S J7 y/\(y.2=0):=by
 unfold J4m;refine .gt (λe=>?_) λe=>?_
 ·refine .bind (J6m h.1) λj h5=>.some ⟨(⟨h5.1,fk0⟩),om⟩
 ·exact .some ⟨(⟨h.1,fk0⟩),om⟩
section
variable {B S:Int}
theorem JJo(k:Nat): ∀{n at_:Int} {l:List Int},zFt B S (.l (.i .u8)) l->zFt 0 0 zI n->0<=at_->zFt 0 0 zI at_->B<=4611686018427387903->(n<=256->1<=k)->(¬n<=256->2<=k)->Tot (JeE J3R k (n,l,at_)) λy=>zFt B S tq9 y/\(0<=y.1/\(1<=n->y.1<n)/\0<=y.2.2):=by
 induction k with
 |zero=>intro n at_ l h1 h2 h3 h4 h5 A o;omega
 |succ k ih=>
  intro n at_ l h1 h2 h3 h4 h5 A o;show Tot (J3R (JeE J3R k) (n,l,at_)) _;unfold J3R;dsimp only;have:=Jb at_ 1;have:J0 l<=B:=h1.1;refine .gef (λc=>.lt (λq=>.some ⟨⟨fk0,h1,h4⟩,J0F _,λc=>by omega,h3⟩) λq=>.bind (Jh h1 h3 (by show at_<J0 l;omega)) λe z=>?_) λc=>.some ⟨⟨fk0,h1,h4⟩,J0F _,λc=>c,h3⟩;have q2:=(Jmj (B:=B) (S:=S)).1 z.1;have:=JAr e;have g:zFt 0 0 zI (J1 .i64 at_ 1):=J8;refine .gt (λv=>.bind (ih (n:=256) h1 (fkn 256) oo g h5 (λ_=>by omega) λc=>by omega) λj h=>?_) λv=>?_
  ·have r:=h.2.2.1 (by decide);have:=Jlo 256 (cvI .i64 e);have:=Jb (J2u .i64 256 (cvI .i64 e)) j.1;exact .bind (Jlv (k:=.i64) (B:=B) (S:=S) (x:=J1 .i64 (J2u .i64 256 (cvI .i64 e)) j.1) (y:=n) J8 oo) λw f4=>.some ⟨⟨f4.1,h.1.2⟩,f4.2.1 oo,λ_=>f4.2.2 oo,h.2.2.2⟩
  ·exact .bind (Jlv (k:=.i64) (B:=B) (S:=S) (x:=cvI .i64 e) (y:=n) JbI oo) λw f4=>.some ⟨⟨f4.1,h1,g⟩,f4.2.1 oo,λ_=>f4.2.2 oo,by show 0<=J1 .i64 at_ 1;omega⟩
theorem Jj{x1:JbV}(h:zFt B S tq9 x1)(p0:0<=x1.2.2)(g:BS B S 0 0:=by omega)(e:B<=4611686018427387903:=by omega):Tot (Jn x1) λy=>zFt B S tq9 y/\(0<=y.1/\(1<=x1.1->y.1<x1.1)/\0<=y.2.2):=by obtain⟨n,l,a⟩:=x1;exact JJo (B:=B) (S:=S) 100 h.2.1 h.1 p0 h.c e (λ_=>by decide) λ_=>by decide
end
theorem J8T{B S:Int}{x1:Jp}(h:zFt B S J7 x1)(p0:0<=x1.2)(a9:BG B S:=by omega):Tot (J3S x1) λy=>zFt B S (.pr .s J7) y/\(0<=y.2.2/\J0 y.1<=13):=by
 unfold J3S;refine .bind (Jj (B:=B) (S:=S) (⟨fkn 5,h⟩) om) λv h2=>?_;have:=J3.1 h2.1.1;have:=J3.1 h2.1.c;have:0<=v.1/\v.1<5/\0<=v.2.2:=⟨h2.2.1,h2.c.1 (show(1:Int)<=5 by decide),h2.d⟩;refine .bind (Jj (B:=B) (S:=S) (⟨fkn 6,h2.1.2⟩) om) λy3 K=>?_;have:=J3.1 K.1.c;refine .eq (λU=>?_) λU=>?_
 ·refine .bind (Jj (B:=B) (S:=S) (⟨fkn 14,K.1.2⟩) om) λk j=>?_;have:=J3.1 j.1.1;have:=J3.1 j.1.c;have:0<=k.1/\k.1<14/\0<=k.2.2:=⟨j.2.1,j.c.1 (show(1:Int)<=14 by decide),j.d⟩;refine .bind (Jum (t:=(.i .u8)) (B:=0) (S:=0) (J58 .u8 0)) λP G=>Jf (τ:=JIT) (λq=>(k.1,q.1,q.2.1,q.2.2)) (λq=>zFt 0 0 zI q.1/\zFt B S J7 q.2.1/\zFt 13 0 (.l (.i .u8)) q.2.2/\(0<=q.1)/\(q.1<=k.1)/\(0<=q.2.1.2)/\(J0 q.2.2<=q.1)) (λq=>k.1-q.1) ?_ (0,k.2,P) rfl ?_
  ·rintro⟨w,a1,g⟩ I;dsimp only at I;obtain⟨M,A,r,z20,a7,z22,a3⟩:=I;unfold JaK
   try dsimp only
   have:=J3.1 M;have:=J3.1 A.2;have:J0 g<=13:=r.1;have:=J4 (l:=g);refine .lt (λT=>?_) λT=>?_
   ·refine .bind (Jj (B:=B) (S:=S) (⟨fkn 3,A⟩) om) λy7 H=>?_;have:=J3.1 H.1.c;refine .bind (J0x (B:=14) (Bl:=13) (Bm:=1) (S:=0) (J0 g) 1 r (J0j (B:=1) (S:=0) (t:=(.i .u8)) oo JbI)) λJ Q=>?_;have W:zFt 13 0 (.l (.i .u8)) J:=⟨(by omega:J0 J<=13),λx hx=>Q.1.2 x hx⟩;have:=Jb w 1;exact .some ⟨(J1 .i64 w 1,y7.2,J),rfl,⟨J8,H.1.2,W,om,om,om,om⟩,om,om⟩
   ·have:J0 (toStr g)<=13:=(J8p▸r.1);have:=J4 (l:=toStr g);exact .some ⟨(⟨(Jew (B:=0) (S:=13) r.1).u,A⟩),om⟩
  ·have:J0 P<=0:=G.1.1
   try dsimp only
   exact⟨fk0,j.1.2,G.1.u,om,om,om,om⟩
 ·refine .bind (Jum (t:=(.i .u8)) (B:=0) (S:=0) (J58 .u8 0)) λV E=>Jf (τ:=JIT) (λq=>(v.1,q.1,q.2.1,q.2.2)) (λq=>zFt 0 0 zI q.1/\zFt B S J7 q.2.1/\zFt 13 0 (.l (.i .u8)) q.2.2/\(0<=q.1)/\(q.1<=v.1)/\(0<=q.2.1.2)/\(J0 q.2.2<=q.1)) (λq=>v.1-q.1) ?_ (0,y3.2,V) rfl ?_
  ·rintro⟨o,Z,e⟩ D;dsimp only at D;obtain⟨L,C,n,a8,a6,a4,a5⟩:=D;unfold JaN
   try dsimp only
   have:=J3.1 L;have:=J3.1 C.2;have:J0 e<=13:=n.1;have:=J4 (l:=e);refine .lt (λR=>?_) λR=>?_
   ·refine .bind (Jj (B:=B) (S:=S) (⟨fkn 3,C⟩) om) λY F=>?_;have:=J3.1 F.1.c;refine .bind (J0x (B:=14) (Bl:=13) (Bm:=1) (S:=0) (J0 e) 1 n (J0j (B:=1) (S:=0) (t:=(.i .u8)) oo JbI)) λz O=>?_;have N:zFt 13 0 (.l (.i .u8)) z:=⟨(by omega:J0 z<=13),λx hx=>O.1.2 x hx⟩;have:=Jb o 1;exact .some ⟨(J1 .i64 o 1,Y.2,z),rfl,⟨J8,F.1.2,N,om,om,om,om⟩,om,om⟩
   ·have:J0 (toStr e)<=13:=(J8p▸n.1);have:J0 (toStr e)=J0 e:=J8p;exact .some ⟨(⟨(Jew (B:=0) (S:=13) n.1).u,C⟩),om⟩
  ·have:J0 V<=0:=E.1.1
   try dsimp only
   exact⟨fk0,K.1.2,E.1.u,om,om,om,om⟩
theorem J0O{B S:Int}{x1:Jp}(h:zFt B S J7 x1)(p0:0<=x1.2)(v:BG B S:=by omega):Tot (J0q x1) λy=>zFt B S tq9 y/\(0<=y.2.2):=by
 unfold J0q;refine .bind (Jj (B:=B) (S:=S) (⟨fkn 10,h⟩) om) λA h2=>?_;have:=J3.1 h2.1.c;refine .eq (λr=>?_) λr=>?_
 ·refine .bind (Jj (B:=B) (S:=S) (⟨fkn 3,h2.1.2⟩) om) λw n=>?_;have:=J3.1 n.1.c;exact .some ⟨(⟨J2f,n.1.2⟩),om⟩
 ·refine .eq (λk=>?_) λk=>?_
  ·refine .bind (Jj (B:=B) (S:=S) (⟨fkn 16,h2.1.2⟩) om) λj e=>?_;have:=J3.1 e.1.1;have:=J3.1 e.1.c;have:0<=j.1/\j.1<16/\0<=j.2.2:=⟨e.2.1,e.c.1 (show(1:Int)<=16 by decide),e.d⟩;refine .bind (Jh (J10 (B:=16) (S:=0) (t:=zI) (by have q:((16:Nat):Int)<=16:=oo;exact q) (fkn 9223372036854775807) (J10 (B:=16) (S:=0) (t:=zI) (by have q:((15:Nat):Int)<=16:=oo;exact q) (fkn (-9223372036854775808)) (J10 (B:=16) (S:=0) (t:=zI) (by have q:((14:Nat):Int)<=16:=oo;exact q) (fkn 1099511627776) (J10 (B:=16) (S:=0) (t:=zI) (by have q:((13:Nat):Int)<=16:=oo;exact q) (fkn 1099511627777) (J10 (B:=16) (S:=0) (t:=zI) (by have q:((12:Nat):Int)<=16:=oo;exact q) (fkn 1073741824) (J10 (B:=16) (S:=0) (t:=zI) (by have q:((11:Nat):Int)<=16:=oo;exact q) (fkn 1073741825) (J10 (B:=16) (S:=0) (t:=zI) (by have q:((10:Nat):Int)<=16:=oo;exact q) (fkn 64) (J10 (B:=16) (S:=0) (t:=zI) (by have q:((9:Nat):Int)<=16:=oo;exact q) (fkn 63) (J10 (B:=16) (S:=0) (t:=zI) (by have q:((8:Nat):Int)<=16:=oo;exact q) (fkn 16) (J10 (B:=16) (S:=0) (t:=zI) (by have q:((7:Nat):Int)<=16:=oo;exact q) (fkn 15) (J10 (B:=16) (S:=0) (t:=zI) (by have q:((6:Nat):Int)<=16:=oo;exact q) (fkn 256) (J10 (B:=16) (S:=0) (t:=zI) (by have q:((5:Nat):Int)<=16:=oo;exact q) (fkn 255) (J10 (B:=16) (S:=0) (t:=zI) (by have q:((4:Nat):Int)<=16:=oo;exact q) (fkn 4294967296) (J10 (B:=16) (S:=0) (t:=zI) (by have q:((3:Nat):Int)<=16:=oo;exact q) (fkn 65536) (J10 (B:=16) (S:=0) (t:=zI) (by have q:((2:Nat):Int)<=16:=oo;exact q) (fkn 256) (J10 (B:=16) (S:=0) (t:=zI) (by have q:((1:Nat):Int)<=16:=oo;exact q) (fkn 255) Jc)))))))))))))))) oo (show _<((16:Nat):Int) by omega)) λx o=>.some ⟨(⟨o.1,e.1.2⟩),om⟩
  ·refine .bind (Jj (B:=B) (S:=S) (⟨fkn 20,h2.1.2⟩) om) λz g=>?_;have:=J3.1 g.1.c;exact .some ⟨(g.1),om⟩
theorem JaM{B S:Int}{x1:JbV}(h:zFt B S tq9 x1)(p0:0<=x1.2.2)(be:BG B S:=by omega):Tot (J43 x1) λy=>zFt B S (.pr J0v J7) y/\(0<=y.2.2):=by
 unfold J43;refine .bind (Jj (B:=B) (S:=S) (⟨fkn 12,h.2⟩) om) λy2 h2=>?_;have:=J3.1 h2.1.1;have:=J3.1 h2.1.c;have:0<=y2.1/\y2.1<12/\0<=y2.2.2:=⟨h2.2.1,h2.c.1 (show(1:Int)<=12 by decide),h2.d⟩;refine .bind (Jh (J10 (B:=12) (S:=0) (t:=zI) (by have q:((12:Nat):Int)<=12:=oo;exact q) (fkn 1) (J10 (B:=12) (S:=0) (t:=zI) (by have q:((11:Nat):Int)<=12:=oo;exact q) (fkn 1) (J10 (B:=12) (S:=0) (t:=zI) (by have q:((10:Nat):Int)<=12:=oo;exact q) (fkn 2) (J10 (B:=12) (S:=0) (t:=zI) (by have q:((9:Nat):Int)<=12:=oo;exact q) (fkn 2) (J10 (B:=12) (S:=0) (t:=zI) (by have q:((8:Nat):Int)<=12:=oo;exact q) (fkn 2) (J10 (B:=12) (S:=0) (t:=zI) (by have q:((7:Nat):Int)<=12:=oo;exact q) (fkn 3) (J10 (B:=12) (S:=0) (t:=zI) (by have q:((6:Nat):Int)<=12:=oo;exact q) (fkn 4) (J10 (B:=12) (S:=0) (t:=zI) (by have q:((5:Nat):Int)<=12:=oo;exact q) (fkn 5) (J10 (B:=12) (S:=0) (t:=zI) (by have q:((4:Nat):Int)<=12:=oo;exact q) (fkn 6) (J10 (B:=12) (S:=0) (t:=zI) (by have q:((3:Nat):Int)<=12:=oo;exact q) (fkn 7) (J10 (B:=12) (S:=0) (t:=zI) (by have q:((2:Nat):Int)<=12:=oo;exact q) (fkn 2) (J10 (B:=12) (S:=0) (t:=zI) (by have q:((1:Nat):Int)<=12:=oo;exact q) (fkn 4) Jc)))))))))))) oo (show _<((12:Nat):Int) by omega)) λy3 e=>.eq (λc7=>?_) λc7=>?_
 ·refine .bind (Jj (B:=B) (S:=S) (⟨h.1,h2.1.2⟩) om) λy4 h9=>?_;have:=J3.1 h9.1.c;refine .bind (Jj (B:=B) (S:=S) (⟨fkn 2,h9.1.2⟩) om) λy5 j=>?_;have:=J3.1 j.1.c;refine .eq (λal=>?_) λal=>?_
  ·refine .bind (J8T j.1.2 om) λy6 a4=>.bind (JcM a4.1.1.z) λy7 ao=>?_;have a3:zFt 0 S .s y7:=ao.1;refine .bind (Jj (B:=B) (S:=S) (⟨fkn 40,a4.1.2⟩) om) λy8 a5=>.eq (λb1=>?_) λb1=>?_
   ·refine .bind (J0O a5.1.2 om) λy9 V=>?_;have:0<=y9.2.2:=V.2;refine .bind (J0O V.1.2 om) λaf K=>?_;have:0<=af.2.2:=K.2;exact .some ⟨(⟨⟨e.1,V.1.1,K.1.1,a3.u⟩,K.1.2⟩),om⟩
   ·exact .some ⟨(⟨⟨e.1,h9.1.1,j.1.1,a3.u⟩,a5.1.2⟩),om⟩
  ·refine .bind (Jj (B:=B) (S:=S) (⟨fkn 40,j.1.2⟩) om) λbd R=>?_;have:=J3.1 R.1.c;refine .eq (λai=>?_) λai=>?_
   ·refine .bind (J0O R.1.2 om) λah P=>?_;have:0<=ah.2.2:=P.2;refine .bind (J0O P.1.2 om) λb2 N=>?_;have:0<=b2.2.2:=N.2;exact .some ⟨(⟨⟨e.1,P.1.1,N.1.1,Je⟩,N.1.2⟩),om⟩
   ·exact .some ⟨(⟨⟨e.1,h9.1.1,j.1.1,Je⟩,R.1.2⟩),om⟩
 ·refine .eq (λb6=>?_) λb6=>?_
  ·refine .bind (Jj (B:=B) (S:=S) (⟨h.1,h2.1.2⟩) om) λbm I=>?_;have:=J3.1 I.1.c;refine .bind (Jj (B:=B) (S:=S) (⟨fkn 2,I.1.2⟩) om) λbp k=>?_;have:=J3.1 k.1.c;refine .eq (λak=>?_) λak=>?_
   ·refine .bind (J8T k.1.2 om) λa6 Y=>?_;have:=J3.1 Y.1.c;have:=J4 (l:=a6.1);have:=JzU (J0 a6.1) 12;refine .bind (JcM Y.1.1.z) λay au=>?_;have a2:zFt 0 S .s ay:=au.1;refine .bind (Jj (B:=B) (S:=S) (⟨fkn 40,Y.1.2⟩) om) λbi W=>?_;have:=J3.1 W.1.c;refine .eq (λax=>?_) λax=>?_
    ·refine .bind (J0O W.1.2 om) λaz U=>?_;have:0<=az.2.2:=U.2;refine .bind (J0O U.1.2 om) λb5 a0=>?_;have:0<=b5.2.2:=a0.2;exact .some ⟨(⟨⟨e.1,U.1.1,a0.1.1,a2.u⟩,a0.1.2⟩),om⟩
    ·exact .some ⟨(⟨⟨e.1,I.1.1,k.1.1,a2.u⟩,W.1.2⟩),om⟩
   ·refine .bind (Jj (B:=B) (S:=S) (⟨fkn 40,k.1.2⟩) om) λZ g=>?_;have:=J3.1 g.1.1;have:=J3.1 g.1.c;have:0<=Z.1/\Z.1<40/\0<=Z.2.2:=⟨g.2.1,g.c.1 (show(1:Int)<=40 by decide),g.d⟩;refine .eq (λan=>?_) λan=>?_
    ·refine .bind (J0O g.1.2 om) λav T=>?_;have:0<=av.2.2:=T.2;refine .bind (J0O T.1.2 om) λb4 M=>?_;have:0<=b4.2.2:=M.2;exact .some ⟨(⟨⟨e.1,T.1.1,M.1.1,Je⟩,M.1.2⟩),om⟩
    ·exact .some ⟨(⟨⟨e.1,I.1.1,k.1.1,Je⟩,g.1.2⟩),om⟩
  ·refine .eq (λb7=>?_) λb7=>?_
   ·refine .bind (Jj (B:=B) (S:=S) (⟨h.1,h2.1.2⟩) om) λbh J=>?_;have:=J3.1 J.1.c;refine .bind (Jj (B:=B) (S:=S) (⟨fkn 2,J.1.2⟩) om) λbo n=>?_;have:=J3.1 n.1.c;refine .eq (λad=>?_) λad=>?_
    ·refine .bind (J8T n.1.2 om) λbc Q=>.bind (JcM Q.1.1.z) λaj a7=>?_;have O:zFt 0 S .s aj:=a7.1;refine .bind (Jj (B:=B) (S:=S) (⟨fkn 40,Q.1.2⟩) om) λbq L=>.eq (λab=>?_) λab=>?_
     ·refine .bind (J0O L.1.2 om) λaw o=>?_;have:0<=aw.2.2:=o.2;refine .bind (J0O o.1.2 om) λaq D=>?_;have:0<=aq.2.2:=D.2;exact .some ⟨(⟨⟨e.1,o.1.1,D.1.1,O.u⟩,D.1.2⟩),om⟩
     ·exact .some ⟨(⟨⟨e.1,J.1.1,n.1.1,O.u⟩,L.1.2⟩),om⟩
    ·refine .bind (Jj (B:=B) (S:=S) (⟨fkn 40,n.1.2⟩) om) λbg A=>?_;have:=J3.1 A.1.c;refine .eq (λa9=>?_) λa9=>?_
     ·refine .bind (J0O A.1.2 om) λam C=>?_;have:0<=am.2.2:=C.2;refine .bind (J0O C.1.2 om) λb0 x=>?_;have:0<=b0.2.2:=x.2;exact .some ⟨(⟨⟨e.1,C.1.1,x.1.1,Je⟩,x.1.2⟩),om⟩
     ·exact .some ⟨(⟨⟨e.1,J.1.1,n.1.1,Je⟩,A.1.2⟩),om⟩
   ·refine .eq (λaa=>?_) λaa=>?_
    ·refine .bind (Jj (B:=B) (S:=S) (⟨fkn 2,h2.1.2⟩) om) λbn G=>?_;have:=J3.1 G.1.c;refine .bind (Jj (B:=B) (S:=S) (⟨fkn 40,G.1.2⟩) om) λbf r=>?_;have:=J3.1 r.1.c;refine .eq (λa8=>?_) λa8=>?_
     ·refine .bind (J0O r.1.2 om) λb3 E=>?_;have:0<=b3.2.2:=E.2;refine .bind (J0O E.1.2 om) λb8 H=>?_;have:0<=b8.2.2:=H.2;exact .some ⟨(⟨⟨e.1,E.1.1,H.1.1,Je⟩,H.1.2⟩),om⟩
     ·exact .some ⟨(⟨⟨e.1,fk0,G.1.1,Je⟩,r.1.2⟩),om⟩
    ·refine .bind (Jj (B:=B) (S:=S) (⟨fkn 40,h2.1.2⟩) om) λbj v=>?_;have:=J3.1 v.1.c;refine .eq (λac=>?_) λac=>?_
     ·refine .bind (J0O v.1.2 om) λag w=>?_;have:0<=ag.2.2:=w.2;refine .bind (J0O w.1.2 om) λap F=>?_;have:0<=ap.2.2:=F.2;exact .some ⟨(⟨⟨e.1,w.1.1,F.1.1,Je⟩,F.1.2⟩),om⟩
     ·exact .some ⟨(⟨⟨e.1,fzr⟩,v.1.2⟩),om⟩
theorem Jjo{B S:Int}{x1:JBa}(h:zFt B S (.pr zI JAQ) x1)(p0:0<=x1.2.2.2.2)(K:BG B S:=by omega):Tot (J6C x1) λy=>zFt B S (.pr J0Z J7) y/\(0<=y.2.2):=by
 unfold J6C;refine .bind (Jj (B:=B) (S:=S) (⟨fkn 16,h.d⟩) om) λR h2=>?_;have:=J3.1 h2.1.c;refine .eq (λI=>?_) λI=>?_
 ·exact .some ⟨(⟨⟨fkn 1,fzr⟩,h2.1.2⟩),om⟩
 ·refine .eq (λG=>?_) λG=>?_
  ·exact .some ⟨(⟨⟨fkn 1,fzr⟩,h2.1.2⟩),om⟩
  ·refine .eq (λF=>?_) λF=>?_
   ·refine .bind (Jj (B:=B) (S:=S) (⟨h.1,h2.1.2⟩) om) λM v=>?_;have:=J3.1 v.1.c;exact .some ⟨(⟨⟨fkn 3,fk0,v.1.1,fzr⟩,v.1.2⟩),om⟩
   ·refine .eq (λx=>?_) λx=>?_
    ·exact .some ⟨(⟨⟨fkn 4,fzr⟩,h2.1.2⟩),om⟩
    ·refine .eq (λC=>?_) λC=>?_
     ·exact .some ⟨(⟨⟨fkn 5,fzr⟩,h2.1.2⟩),om⟩
     ·refine .eq (λE=>?_) λE=>?_
      ·refine .ite (λw=>?_) λw=>?_
       ·refine .bind (Jj (B:=B) (S:=S) (⟨fkn 4,h2.1.2⟩) om) λQ r=>?_;have:=J3.1 r.1.c;refine .bind (Jj (B:=B) (S:=S) (⟨fkn 90,r.1.2⟩) om) λO n=>?_;have:=J3.1 n.1.c;refine .bind (Jj (B:=B) (S:=S) (⟨J8,n.1.2⟩) om) λP q=>?_;have:=J3.1 q.1.c;refine .bind (Jj (B:=B) (S:=S) (⟨fkn 257,q.1.2⟩) om) λL e=>?_;have:=J3.1 e.1.c;exact .some ⟨(⟨⟨fkn 6,fk0,J2f,JH7,e.1.1,fzr⟩,e.1.2⟩),om⟩
       ·refine .bind (Jj (B:=B) (S:=S) (⟨h.2.1,h2.1.2⟩) om) λN k=>?_;have:=J3.1 k.1.c;refine .bind (JaM (B:=B) (S:=S) (⟨h.1,k.1.2⟩) om) λH g=>?_;have:0<=H.2.2:=g.2;exact .some ⟨(⟨⟨fkn 2,J8,fk0,fk0,fk0,g.1.1.z.u⟩,g.1.2⟩),om⟩
      ·refine .eq (λA=>?_) λA=>?_
       ·exact .some ⟨(⟨⟨fkn 7,fzr⟩,h2.1.2⟩),om⟩
       ·refine .bind (Jj (B:=B) (S:=S) (⟨h.2.1,h2.1.2⟩) om) λJ o=>?_;have:=J3.1 o.1.c;refine .bind (JaM (B:=B) (S:=S) (⟨h.1,o.1.2⟩) om) λD j=>?_;have:0<=D.2.2:=j.2;exact .some ⟨(⟨⟨fkn 2,J8,fk0,fk0,fk0,j.1.1.z.u⟩,j.1.2⟩),om⟩
theorem Jfp{B S:Int}{x1:JBa}(h:zFt B S (.pr zI JAQ) x1)(p0:0<=x1.2.2.2.2)(L:0<=x1.2.1)(K:x1.2.1<=1000)(J:BG B S:=by omega):Tot (J4F x1) λy=>zFt B S (.pr (.l J0Z) J7) y/\(0<=y.2.2):=by
 unfold J4F;refine .bind (Jj (B:=B) (S:=S) (⟨J8,h.d⟩) om) λj h3=>?_;have:=J3.1 h3.1.1;have:=Jb x1.2.1 1;have:=J3.1 h3.1.c;have:0<=j.1/\(1<=(J1 .i64 x1.2.1 1)->j.1<(J1 .i64 x1.2.1 1))/\0<=j.2.2:=h3.2;refine Jf (τ:=Int×Jp×(List J3K)) (λq=>(x1.1,x1.2.2.1,q.1,q.2.1,q.2.2)) (λq=>zFt 0 0 zI q.1/\zFt B S J7 q.2.1/\zFt 1003 S (.l J0Z) q.2.2/\(0<=q.1)/\(0<=q.2.1.2)/\(J0 q.2.2+q.1<=1003)) (λq=>q.1) ?_ (j.1,j.2,[(1,0,0,0,0,0,0,0,[]),(1,0,0,0,0,0,0,0,[])]) rfl ?_
 ·rintro⟨k,F,e⟩ r;dsimp only at r;obtain⟨E,A,g,I,H,G⟩:=r;unfold J8P
  try dsimp only
  have:=J3.1 E;have:J0 e<=1003:=g.1;have:=J4 (l:=e);have:J0 e=_:=Jk g;refine .gt (λC=>?_) λC=>?_
  ·refine .bind (Jjo (B:=B) (S:=S) (⟨h.1,fkn 5,trivial,A⟩) om) λD n=>?_;have:0<=D.2.2:=n.2;refine .bind (J0x (B:=1004) (Bl:=1003) (Bm:=1) (S:=S) (J0 e) 1 g (J0j (B:=1) (S:=S) (t:=J0Z) oo (n.1.1.z.u))) λo v=>?_;have:J0 o=_:=Jk v.1;have w:zFt 1003 S (.l J0Z) o:=⟨(by omega:J0 o<=1003),λx hx=>v.1.2 x hx⟩;have:=J0o k 1;exact .some ⟨(JH .i64 k 1,D.2,o),rfl,⟨J2f,n.1.2,w,om,om,om⟩,om,om⟩
  ·exact .some ⟨(⟨g.u,A⟩),om⟩
 ·try dsimp only
  exact⟨h3.1.1,h3.1.2,(J10 (B:=2) (S:=0) (t:=J0Z) (by have q:((2:Nat):Int)<=2:=oo;exact q) (⟨fkn 1,fzr⟩) (J10 (B:=2) (S:=0) (t:=J0Z) (by have q:((1:Nat):Int)<=2:=oo;exact q) (⟨fkn 1,fzr⟩) Jc)).u,om,om,by show((2:Nat):Int)+j.1<=1003;omega⟩
end Go.Am
end
section
namespace Go.Am
set_option linter.unusedVariables false
set_option maxRecDepth 20000
set_option maxHeartbeats 4000000
theorem Jnu{B S x1:Int}(h:zFt B S zI x1)(p0:x1<=64)(x:BS B S 0 0:=by omega):Tot (J8A x1) λy=>zFt 64 256 (.l .s) y:=by
 unfold J8A;have:=J3.1 h;refine Jf (τ:=Int×(List (List UInt8))) (λq=>(x1,q.1,q.2)) (λq=>(zFt 0 0 zI q.1/\0<=q.1/\(q.1<=x1\/q.1<=0))/\(zFt 64 256 (.l .s) q.2/\J0 q.2<=1*q.1+0)) (λq=>x1-q.1) ?_ (0,[]) rfl ?_
 ·rintro⟨g,e⟩ j;dsimp only at j;obtain⟨⟨o,z,C⟩,k,D⟩:=j;unfold Jdh
  try dsimp only
  have:=J3.1 o;refine .lt (λr=>?_) λr=>?_
  ·refine .bind (Jum (t:=(.i .u8)) (B:=256) (S:=0) (J58 .u8 0)) λA w=>?_;have:J0 e<=64:=k.1;have:=J4 (l:=e);refine .bind (J0x (B:=64) (Bl:=64) (Bm:=1) (S:=256) (J0 e) 1 k (J0j (B:=1) (S:=256) (t:=.s) oo ((Jew (B:=0) (S:=256) w.1.1).u))) λv n=>?_;have:=Jb g 1;exact .some ⟨(J1 .i64 g 1,v),rfl,⟨⟨J8,om,om⟩,n.1,om⟩,om,om⟩
  ·exact .some k
 ·have:J0 ([]:List (List UInt8))=0:=rfl
  try dsimp only
  exact⟨⟨fk0,oo,oo⟩,Jc,oo⟩
theorem JyW{B S x1:Int}(h:zFt B S zI x1)(g:BS B S 0 0:=by omega):Tot (J7D x1) λy=>zFt 64 256 JkP y:=by
 unfold J7D;have:=J3.1 h;refine .ltf (λe=>?_) λe=>?_
 ·refine .gt (λc3=>?_) λc3=>?_
  ·exact .some (⟨⟨Jc,fk0,Jc,trivial,Jc⟩,fkn 1⟩)
  ·refine .bind (Jnu h om) λj h4=>.some (⟨⟨h4,fk0,Jc,trivial,Jc⟩,fk0⟩)
 ·exact .some (⟨⟨Jc,fk0,Jc,trivial,Jc⟩,fkn 1⟩)
theorem JjJ{B S x1:Int}(h:zFt B S zI x1)(g:BS B S 0 0:=by omega):Tot (J5d x1) λy=>zFt 0 0 tq7 y:=by
 unfold J5d;refine .ltf (λe=>?_) λe=>?_
 ·refine .gt (λc3=>?_) λc3=>?_
  ·exact .some (⟨fzr,fkn 1⟩)
  ·exact .some (⟨⟨h,fzr⟩,fk0⟩)
 ·exact .some (⟨fzr,fkn 1⟩)
theorem JjE{B S x1:Int}(h:zFt B S zI x1)(g:BS B S 0 0:=by omega):Tot (J6t x1) λy=>zFt 64 0 JBo y:=by
 unfold J6t;have:=J3.1 h;refine .ltf (λe=>?_) λe=>?_
 ·refine .gt (λc3=>?_) λc3=>?_
  ·exact .some (⟨Jc,fkn 1⟩)
  ·refine .bind (Jum (t:=Jd) (B:=64) (S:=0) (fzr)) λj h4=>.some (⟨h4.1,fk0⟩)
 ·exact .some (⟨Jc,fkn 1⟩)
theorem JxL{B S:Int}{x1:JI}(h:zFt B S J0d x1)(o:BS B S 0 0:=by omega):Tot (J5c x1) λy=>zFt 64 0 tq1 y:=by
 unfold J5c;refine .ltf (λn=>?_) λn=>?_
 ·refine .gtf (λc3=>?_) λc3=>?_
  ·have:=J3.1 h.2;refine .ltf (λk=>?_) λk=>?_
   ·refine .gt (λj=>?_) λj=>?_
    ·exact .some (⟨fzr,fkn 1⟩)
    ·refine .bind (JjJ h.2) λr g=>.bind (JjE h.1) λq e=>.some (⟨⟨h.1,fkn 1,⟨fkn 1,fzr⟩,g.1.u,fzr,Jc,e.1,Jc⟩,fk0⟩)
   ·exact .some (⟨fzr,fkn 1⟩)
  ·exact .some (⟨fzr,fkn 1⟩)
 ·exact .some (⟨fzr,fkn 1⟩)
theorem JxJ{B S:Int}{x1:JI}(h:zFt B S J0d x1)(j:BS B S 0 0:=by omega):Tot (J4s x1) λy=>zFt 64 256 tq3 y:=by
 unfold J4s;refine .bind (JxL (B:=0) (S:=0) (h)) λn h1=>.ne (λe=>?_) λe=>?_
 ·exact .some (⟨⟨fzr,Jc,fk0,Jc,trivial,Jc⟩,h1.2⟩)
 ·refine .bind (JyW h.1) λk h4=>.ne (λg=>?_) λg=>?_
  ·exact .some (⟨⟨fzr,Jc,fk0,Jc,trivial,Jc⟩,h4.2⟩)
  ·exact .some (⟨⟨h1.1.u,h4.1⟩,fk0⟩)
theorem Jbh{B S:Int}{x1:JI}(h:zFt B S J0d x1)(g:BS B S 0 0:=by omega):Tot (J1Q x1) λy=>zFt 0 0 .b y/\(y=true->0<=x1.1/\x1.1<x1.2):=by
 unfold J1Q;have:=J3.1 h.1;refine .ge (λe=>?_) λe=>?_
 ·have:=J3.1 h.2;exact .some ⟨trivial,λc=>omc (J4G.1 c)⟩
 ·exact .some ⟨trivial,nofun⟩
theorem J8Y{B S:Int}{x1:J1l}(h:zFt B S JJ x1)(j:BS B S 0 0:=by omega):Tot (J0m x1) λy=>zFt 0 0 .b y/\(y=true->J0 x1.2<=12):=by
 unfold J0m;refine .le (λg=>?_) λg=>?_
 ·refine .itf (λe=>?_) λe=>?_
  ·exact .some ⟨trivial,λ_=>om⟩
  ·exact .some ⟨trivial,λ_=>om⟩
 ·exact .some ⟨trivial,nofun⟩
theorem JbX{B S:Int}{x1:T_api_Change}(h:zFt B S J15 x1)(q:BS B S 0 0:=by omega):Tot (J1f x1) λy=>zFt 0 0 .b y/\(y=true->0<=x1.1/\x1.1<64/\0<=x1.2.1/\x1.2.1<16/\J0 x1.2.2.1.2<=12/\J0 x1.2.2.2.2<=12):=by
 unfold J1f;have s0:zFt 0 S J15 x1:=h;have:=J3.1 s0.1;refine .ge (λo=>?_) λo=>?_
 ·refine .lt (λc3=>?_) λc3=>?_
  ·have:=J3.1 s0.2.1;refine .ge (λn=>?_) λn=>?_
   ·refine .lt (λk=>?_) λk=>?_
    ·refine .bind (J8Y (B:=0) (S:=S) s0.2.2.1) λv j=>.ite (λg=>?_) λg=>?_
     ·have:J0 x1.2.2.1.2<=S:=s0.2.2.1.2;have:=J4 (l:=x1.2.2.1.2);have:J0 x1.2.2.1.2<=12:=j.2 g;refine .bind (J8Y (B:=0) (S:=S) s0.2.2.2) λr e=>?_;have:=J4 (l:=x1.2.2.2.2);exact .some ⟨trivial,λc=>by have:J0 x1.2.2.2.2<=12:=e.2 c;first|omega|(dsimp only;omega)|(simp only[Jdm,J5G]<;>omega)⟩
     ·exact .some ⟨trivial,nofun⟩
    ·exact .some ⟨trivial,nofun⟩
   ·exact .some ⟨trivial,nofun⟩
  ·exact .some ⟨trivial,nofun⟩
 ·exact .some ⟨trivial,nofun⟩
theorem JrC{B S:Int}{x1:J2}(h:zFt B S J5 x1)(W:BS B S 0 0:=by omega):Tot (J28 x1) λy=>zFt 0 S JAp y/\(y.2=true->0<=y.1.2.2.1/\y.1.2.2.1<=1073741824/\0<=y.1.2.2.2.2.2.2.1.1/\y.1.2.2.2.2.2.2.1.1<64/\0<=y.1.2.2.2.2.2.2.1.2.1/\y.1.2.2.2.2.2.2.1.2.1<16/\J0 y.1.2.2.2.2.2.2.1.2.2.1.2<=12/\J0 y.1.2.2.2.2.2.2.1.2.2.2.2<=12/\J0 y.1.2.2.2.2.2.2.2<=8192):=by
 unfold J28;have s0:zFt 0 S J5 x1:=h;refine .eq (λT=>?_) λT=>?_
 ·refine .bind (JbX (B:=0) (S:=S) s0.2.2.2.2.2.2.1) λZ h3=>.eq (λV=>?_) λV=>?_
  ·refine .ite (λU=>?_) λU=>?_
   ·have:=J3.1 s0.2.2.2.2.2.2.1.1;refine .gt (λE=>?_) λE=>?_
    ·have:=J3.1 s0.2.2.2.2.2.1;refine .ge (λx=>?_) λx=>?_
     ·refine .le (λj=>?_) λj=>?_
      ·have:=J3.1 s0.2.2.1;refine .ge (λo=>?_) λo=>?_
       ·exact .some ⟨(⟨⟨s0.1,s0.2.1,s0.2.2.1,s0.2.2.2.1,s0.2.2.2.2.1,s0.2.2.2.2.2.1,s0.2.2.2.2.2.2.1,Je⟩,trivial⟩),λc=>omc (J1R.1 c)⟩
       ·exact .some ⟨(⟨⟨s0.1,s0.2.1,s0.2.2.1,s0.2.2.2.1,s0.2.2.2.2.1,s0.2.2.2.2.2.1,s0.2.2.2.2.2.2.1,Je⟩,trivial⟩),nofun⟩
      ·exact .some ⟨(⟨⟨s0.1,s0.2.1,s0.2.2.1,s0.2.2.2.1,s0.2.2.2.2.1,s0.2.2.2.2.2.1,s0.2.2.2.2.2.2.1,Je⟩,trivial⟩),nofun⟩
     ·exact .some ⟨(⟨⟨s0.1,s0.2.1,s0.2.2.1,s0.2.2.2.1,s0.2.2.2.2.1,s0.2.2.2.2.2.1,s0.2.2.2.2.2.2.1,Je⟩,trivial⟩),nofun⟩
    ·exact .some ⟨(⟨⟨s0.1,s0.2.1,s0.2.2.1,s0.2.2.2.1,s0.2.2.2.2.1,s0.2.2.2.2.2.1,s0.2.2.2.2.2.2.1,Je⟩,trivial⟩),nofun⟩
   ·exact .some ⟨(⟨⟨s0.1,s0.2.1,s0.2.2.1,s0.2.2.2.1,s0.2.2.2.2.1,s0.2.2.2.2.2.1,s0.2.2.2.2.2.2.1,Je⟩,trivial⟩),nofun⟩
  ·refine .ite (λe=>?_) λe=>?_
   ·have:=J3.1 s0.2.2.2.2.2.2.1.1;have:=J3.1 s0.2.2.2.2.2.2.1.2.1;have:=J4 (l:=x1.2.2.2.2.2.2.1.2.2.1.2);have:=J4 (l:=x1.2.2.2.2.2.2.1.2.2.2.2);have:0<=x1.2.2.2.2.2.2.1.1/\x1.2.2.2.2.2.2.1.1<64/\0<=x1.2.2.2.2.2.2.1.2.1/\x1.2.2.2.2.2.2.1.2.1<16/\J0 x1.2.2.2.2.2.2.1.2.2.1.2<=12/\J0 x1.2.2.2.2.2.2.1.2.2.2.2<=12:=h3.2 e;have:=J3.1 s0.2.2.1;refine .ge (λA=>?_) λA=>?_
    ·exact .some ⟨(⟨⟨s0.1,s0.2.1,s0.2.2.1,s0.2.2.2.1,s0.2.2.2.2.1,fk0,s0.2.2.2.2.2.2.1,Je⟩,trivial⟩),λc=>omc (J1R.1 c)⟩
    ·exact .some ⟨(⟨⟨s0.1,s0.2.1,s0.2.2.1,s0.2.2.2.1,s0.2.2.2.2.1,fk0,s0.2.2.2.2.2.2.1,Je⟩,trivial⟩),nofun⟩
   ·exact .some ⟨(⟨⟨s0.1,s0.2.1,s0.2.2.1,s0.2.2.2.1,s0.2.2.2.2.1,fk0,s0.2.2.2.2.2.2.1,Je⟩,trivial⟩),nofun⟩
 ·refine .eq (λr=>?_) λr=>?_
  ·refine .bind (JbX (B:=0) (S:=S) s0.2.2.2.2.2.2.1) λY K=>.eq (λn=>?_) λn=>?_
   ·refine .ite (λg=>?_) λg=>?_
    ·have:=J3.1 s0.2.2.2.2.2.2.1.1;have:=J3.1 s0.2.2.2.2.2.2.1.2.1;have:=J4 (l:=x1.2.2.2.2.2.2.1.2.2.1.2);have:=J4 (l:=x1.2.2.2.2.2.2.1.2.2.2.2);have:0<=x1.2.2.2.2.2.2.1.1/\x1.2.2.2.2.2.2.1.1<64/\0<=x1.2.2.2.2.2.2.1.2.1/\x1.2.2.2.2.2.2.1.2.1<16/\J0 x1.2.2.2.2.2.2.1.2.2.1.2<=12/\J0 x1.2.2.2.2.2.2.1.2.2.2.2<=12:=K.2 g;refine .gt (λD=>?_) λD=>?_
     ·have:=J3.1 s0.2.2.2.2.2.1;refine .ge (λM=>?_) λM=>?_
      ·refine .le (λL=>?_) λL=>?_
       ·have:=J3.1 s0.2.2.1;refine .ge (λk=>?_) λk=>?_
        ·exact .some ⟨(⟨⟨s0.1,s0.2.1,s0.2.2.1,s0.2.2.2.1,s0.2.2.2.2.1,s0.2.2.2.2.2.1,s0.2.2.2.2.2.2.1,Je⟩,trivial⟩),λc=>omc (J1R.1 c)⟩
        ·exact .some ⟨(⟨⟨s0.1,s0.2.1,s0.2.2.1,s0.2.2.2.1,s0.2.2.2.2.1,s0.2.2.2.2.2.1,s0.2.2.2.2.2.2.1,Je⟩,trivial⟩),nofun⟩
       ·exact .some ⟨(⟨⟨s0.1,s0.2.1,s0.2.2.1,s0.2.2.2.1,s0.2.2.2.2.1,s0.2.2.2.2.2.1,s0.2.2.2.2.2.2.1,Je⟩,trivial⟩),nofun⟩
      ·exact .some ⟨(⟨⟨s0.1,s0.2.1,s0.2.2.1,s0.2.2.2.1,s0.2.2.2.2.1,s0.2.2.2.2.2.1,s0.2.2.2.2.2.2.1,Je⟩,trivial⟩),nofun⟩
     ·exact .some ⟨(⟨⟨s0.1,s0.2.1,s0.2.2.1,s0.2.2.2.1,s0.2.2.2.2.1,s0.2.2.2.2.2.1,s0.2.2.2.2.2.2.1,Je⟩,trivial⟩),nofun⟩
    ·exact .some ⟨(⟨⟨s0.1,s0.2.1,s0.2.2.1,s0.2.2.2.1,s0.2.2.2.2.1,s0.2.2.2.2.2.1,s0.2.2.2.2.2.2.1,Je⟩,trivial⟩),nofun⟩
   ·refine .ite (λJ=>?_) λJ=>?_
    ·have:=J3.1 s0.2.2.2.2.2.2.1.1;refine .ge (λG=>?_) λG=>?_
     ·exact .some ⟨(⟨⟨s0.1,s0.2.1,s0.2.2.1,s0.2.2.2.1,s0.2.2.2.2.1,fk0,s0.2.2.2.2.2.2.1,Je⟩,trivial⟩),λc=>omc (J1R.1 c)⟩
     ·exact .some ⟨(⟨⟨s0.1,s0.2.1,s0.2.2.1,s0.2.2.2.1,s0.2.2.2.2.1,fk0,s0.2.2.2.2.2.2.1,Je⟩,trivial⟩),nofun⟩
    ·exact .some ⟨(⟨⟨s0.1,s0.2.1,s0.2.2.1,s0.2.2.2.1,s0.2.2.2.2.1,fk0,s0.2.2.2.2.2.2.1,Je⟩,trivial⟩),nofun⟩
  ·refine .eq (λz=>?_) λz=>?_
   ·have:=J3.1 s0.2.2.1;refine .ge (λI=>?_) λI=>?_
    ·refine .le (λw=>?_) λw=>?_
     ·have:=J3.1 s0.2.2.2.1;exact .some ⟨(⟨⟨s0.1,s0.2.1,s0.2.2.1,s0.2.2.2.1,fk0,fk0,⟨fk0,fk0,⟨trivial,Je⟩,trivial,Je⟩,Je⟩,trivial⟩),λc=>omc (J8s.1 c)⟩
     ·exact .some ⟨(⟨⟨s0.1,s0.2.1,s0.2.2.1,s0.2.2.2.1,fk0,fk0,⟨fk0,fk0,⟨trivial,Je⟩,trivial,Je⟩,Je⟩,trivial⟩),nofun⟩
    ·exact .some ⟨(⟨⟨s0.1,s0.2.1,s0.2.2.1,s0.2.2.2.1,fk0,fk0,⟨fk0,fk0,⟨trivial,Je⟩,trivial,Je⟩,Je⟩,trivial⟩),nofun⟩
   ·refine .eq (λN=>?_) λN=>?_
    ·have:=J3.1 s0.2.2.1;refine .ge (λF=>?_) λF=>?_
     ·refine .le (λH=>?_) λH=>?_
      ·have:=J3.1 s0.2.2.2.1;exact .some ⟨(⟨⟨s0.1,s0.2.1,s0.2.2.1,s0.2.2.2.1,fk0,fk0,⟨fk0,fk0,⟨trivial,Je⟩,trivial,Je⟩,Je⟩,trivial⟩),λc=>omc (J8s.1 c)⟩
      ·exact .some ⟨(⟨⟨s0.1,s0.2.1,s0.2.2.1,s0.2.2.2.1,fk0,fk0,⟨fk0,fk0,⟨trivial,Je⟩,trivial,Je⟩,Je⟩,trivial⟩),nofun⟩
     ·exact .some ⟨(⟨⟨s0.1,s0.2.1,s0.2.2.1,s0.2.2.2.1,fk0,fk0,⟨fk0,fk0,⟨trivial,Je⟩,trivial,Je⟩,Je⟩,trivial⟩),nofun⟩
    ·refine .eq (λq=>?_) λq=>?_
     ·have:=J3.1 s0.2.2.1;refine .ge (λQ=>?_) λQ=>?_
      ·refine .le (λv=>?_) λv=>?_
       ·have:=J3.1 s0.2.2.2.1;exact .some ⟨(⟨⟨s0.1,s0.2.1,s0.2.2.1,s0.2.2.2.1,fk0,fk0,⟨fk0,fk0,⟨trivial,Je⟩,trivial,Je⟩,Je⟩,trivial⟩),λc=>omc (J8s.1 c)⟩
       ·exact .some ⟨(⟨⟨s0.1,s0.2.1,s0.2.2.1,s0.2.2.2.1,fk0,fk0,⟨fk0,fk0,⟨trivial,Je⟩,trivial,Je⟩,Je⟩,trivial⟩),nofun⟩
      ·exact .some ⟨(⟨⟨s0.1,s0.2.1,s0.2.2.1,s0.2.2.2.1,fk0,fk0,⟨fk0,fk0,⟨trivial,Je⟩,trivial,Je⟩,Je⟩,trivial⟩),nofun⟩
     ·refine .eq (λR=>?_) λR=>?_
      ·have:J0 x1.2.2.2.2.2.2.2<=S:=s0.2.2.2.2.2.2.2;have:=J4 (l:=x1.2.2.2.2.2.2.2);exact .some ⟨(⟨⟨s0.1,s0.2.1,fk0,fk0,fk0,fk0,⟨fk0,fk0,⟨trivial,Je⟩,trivial,Je⟩,s0.2.2.2.2.2.2.2⟩,trivial⟩),λc=>omc (J1R.1 c)⟩
      ·refine .eq (λP=>?_) λP=>?_
       ·have:J0 x1.2.2.2.2.2.2.2<=S:=s0.2.2.2.2.2.2.2;have:=J4 (l:=x1.2.2.2.2.2.2.2);exact .some ⟨(⟨⟨s0.1,s0.2.1,fk0,fk0,fk0,fk0,⟨fk0,fk0,⟨trivial,Je⟩,trivial,Je⟩,s0.2.2.2.2.2.2.2⟩,trivial⟩),λc=>omc (J1R.1 c)⟩
       ·refine .eq (λO=>?_) λO=>?_
        ·have:=J3.1 s0.2.2.2.2.2.2.1.1;refine .ge (λC=>?_) λC=>?_
         ·exact .some ⟨(⟨⟨s0.1,s0.2.1,fk0,fk0,fk0,s0.2.2.2.2.2.1,⟨s0.2.2.2.2.2.2.1.1,fk0,⟨trivial,Je⟩,trivial,Je⟩,Je⟩,trivial⟩),λc=>omc (J4G.1 c)⟩
         ·exact .some ⟨(⟨⟨s0.1,s0.2.1,fk0,fk0,fk0,s0.2.2.2.2.2.1,⟨s0.2.2.2.2.2.2.1.1,fk0,⟨trivial,Je⟩,trivial,Je⟩,Je⟩,trivial⟩),nofun⟩
        ·exact .some ⟨(⟨⟨s0.1,s0.2.1,fk0,fk0,fk0,fk0,⟨fk0,fk0,⟨trivial,Je⟩,trivial,Je⟩,Je⟩,trivial⟩),nofun⟩
theorem J2Y{B S:Int}{x1:J2}(h:zFt B S J5 x1)(C:BS B S 0 0:=by omega):Tot (Jx x1) λy=>zFt 0 0 .b y/\(y=true->1<=x1.1/\x1.1<=1099511627776/\0<=x1.2.2.1/\x1.2.2.1<=1073741824/\0<=x1.2.2.2.1/\x1.2.2.2.1<x1.1/\0<=x1.2.2.2.2.1/\x1.2.2.2.2.1<x1.1/\0<=x1.2.2.2.2.2.1/\x1.2.2.2.2.2.1<x1.1/\0<=x1.2.2.2.2.2.2.1.1/\x1.2.2.2.2.2.2.1.1<64/\0<=x1.2.2.2.2.2.2.1.2.1/\x1.2.2.2.2.2.2.1.2.1<16/\J0 x1.2.2.2.2.2.2.1.2.2.1.2<=12/\J0 x1.2.2.2.2.2.2.1.2.2.2.2<=12/\J0 x1.2.2.2.2.2.2.2<=8192):=by
 unfold Jx;have s0:zFt 0 S J5 x1:=h;refine .bind (JrC (B:=0) (S:=S) s0) λe h1=>.ite (λx=>?_) λx=>?_
 ·have:=J3.1 h1.1.1.c.1;have n:0<=e.1.2.2.1/\e.1.2.2.1<=1073741824/\0<=e.1.2.2.2.2.2.2.1.1/\e.1.2.2.2.2.2.2.1.1<64/\0<=e.1.2.2.2.2.2.2.1.2.1/\e.1.2.2.2.2.2.2.1.2.1<16/\J0 e.1.2.2.2.2.2.2.1.2.2.1.2<=12/\J0 e.1.2.2.2.2.2.2.1.2.2.2.2<=12/\J0 e.1.2.2.2.2.2.2.2<=8192:=h1.2 x;refine .ite (λg=>?_) λg=>?_
  ·have r:=J1I.1 g;have:0<=x1.2.2.1/\x1.2.2.1<=1073741824/\0<=x1.2.2.2.2.2.2.1.1/\x1.2.2.2.2.2.2.1.1<64/\0<=x1.2.2.2.2.2.2.1.2.1/\x1.2.2.2.2.2.2.1.2.1<16/\J0 x1.2.2.2.2.2.2.1.2.2.1.2<=12/\J0 x1.2.2.2.2.2.2.1.2.2.2.2<=12/\J0 x1.2.2.2.2.2.2.2<=8192:=by have q:=n;rw[r]at q;exact q
   have:=J3.1 s0.1;refine .ge (λA=>?_) λA=>?_
   ·refine .le (λz=>?_) λz=>?_
    ·refine .bind (Jbh (B:=0) (S:=0) (⟨s0.2.2.2.1,s0.1⟩)) λD o=>.ite (λk=>?_) λk=>?_
     ·have:=J3.1 s0.2.2.2.1;have:0<=x1.2.2.2.1/\x1.2.2.2.1<x1.1:=o.2 k;refine .bind (Jbh (B:=0) (S:=0) (⟨s0.2.2.2.2.1,s0.1⟩)) λF w=>.ite (λj=>?_) λj=>?_
      ·have:=J3.1 s0.2.2.2.2.1;have:0<=x1.2.2.2.2.1/\x1.2.2.2.2.1<x1.1:=w.2 j;refine .bind (Jbh (B:=0) (S:=0) (⟨s0.2.2.2.2.2.1,s0.1⟩)) λE v=>?_;have:=J3.1 s0.2.2.2.2.2.1;have:=J4 (l:=x1.2.2.2.2.2.2.1.2.2.1.2);have:=J4 (l:=x1.2.2.2.2.2.2.1.2.2.2.2);have:=J4 (l:=x1.2.2.2.2.2.2.2);exact .some ⟨trivial,λc=>by have:0<=x1.2.2.2.2.2.1/\x1.2.2.2.2.2.1<x1.1:=v.2 c;first|omega|(dsimp only;omega)|(simp only[Jdm,J5G]<;>omega)⟩
      ·exact .some ⟨trivial,nofun⟩
     ·exact .some ⟨trivial,nofun⟩
    ·exact .some ⟨trivial,nofun⟩
   ·exact .some ⟨trivial,nofun⟩
  ·exact .some ⟨trivial,nofun⟩
 ·exact .some ⟨trivial,nofun⟩
section
variable {B S:Int}
theorem J2v{x:J2}{y:Bool}(h:zFt B S J5 x)(e:Jx x=some y)(c:y=true)(n:BS B S 0 0:=by omega):(1<=x.1/\x.1<=1099511627776/\0<=x.2.2.1/\x.2.2.1<=1073741824/\0<=x.2.2.2.1/\x.2.2.2.1<x.1/\0<=x.2.2.2.2.1/\x.2.2.2.2.1<x.1/\0<=x.2.2.2.2.2.1/\x.2.2.2.2.2.1<x.1/\0<=x.2.2.2.2.2.2.1.1/\x.2.2.2.2.2.2.1.1<64/\0<=x.2.2.2.2.2.2.1.2.1/\x.2.2.2.2.2.2.1.2.1<16/\J0 x.2.2.2.2.2.2.1.2.2.1.2<=12/\J0 x.2.2.2.2.2.2.1.2.2.2.2<=12/\J0 x.2.2.2.2.2.2.2<=8192)/\zFt 0 8192 J5 x:=by
 have q:=((J2Y h).get e).2 c;obtain⟨h1,h2,h3,h4,h5,g,⟨k,j,_,_⟩,o⟩:=h;refine⟨q,h1,h2,h3,h4,h5,g,⟨k,j,⟨trivial,?_⟩,trivial,?_⟩,?_⟩
 ·show J0 _<=8192;omega
 ·show J0 _<=8192;omega
 ·show J0 _<=8192;omega
end
theorem J6K{B S:Int}{x1:JO}(h:zFt B S JU x1)(p0:1<=x1.1)(g:x1.1<=1099511627776)(j:J0 x1.2.1<=4096)(e:BS B S 0 0:=by omega)(k:B<=9223372036854775807:=by omega):Tot (J1Y x1) λy=>zFt 0 0 zI y/\(y=x1.1+J0 x1.2.1-1):=by unfold J1Y;have:=J4 (l:=x1.2.1);have:J0 x1.2.1=_:=Jk h.2.1;have:=Jb x1.1 (J0 x1.2.1);have:=J0o (J1 .i64 x1.1 (J0 x1.2.1)) 1;exact .some ⟨J2f,om⟩
theorem J2y{B S:Int}{x1:JO}(h:zFt B S JU x1)(J:BS B S 0 0:=by omega)(M:B<=9223372036854775807:=by omega):Tot (J02 x1) λy=>zFt 0 0 .b y/\(y=true->1<=x1.1/\x1.1<=1099511627776/\J0 x1.2.1<=4096/\x1.1-1<=x1.2.2/\x1.2.2<=x1.1+J0 x1.2.1-1):=by
 unfold J02;have:=J3.1 h.1;refine .ltf (λC=>?_) λC=>?_
 ·refine .gtf (λc3=>?_) λc3=>?_
  ·have:J0 x1.2.1<=B:=h.2.1.1;have:=J4 (l:=x1.2.1);have:J0 x1.2.1=_:=Jk h.2.1;refine .gtf (λD=>?_) λD=>?_
   ·have:=J3.1 h.c;have:=J0o x1.1 1;refine .ltf (λA=>?_) λA=>?_
    ·refine .bind (J6K h om om om) λN G=>.gt (λo=>?_) λo=>?_
     ·exact .some ⟨trivial,nofun⟩
     ·refine Jf (τ:=Int) (λq=>(q,x1)) (λq=>(zFt 0 0 zI q/\0<=q/\(q<=J0 x1.2.1\/q<=0))) (λq=>J0 x1.2.1-q) ?_ 0 rfl ?_
      ·rintro e ⟨k,E,F⟩;unfold J7S
       try dsimp only
       have:=J3.1 k;refine .lt (λw=>?_) λw=>?_
       ·refine .bind (Jh h.2.1) λL I=>?_;have:=Jb x1.1 e;refine .nef (λv=>?_) λv=>?_
        ·refine .bind (Jh h.2.1) λr j=>.bind ((J2Y (B:=0) (S:=S) (x1:=r) j.1.z).eqn) λK n=>.not (λg=>?_) λg=>?_
         ·exact .some ⟨trivial,nofun⟩
         ·have H:=J2v (x:=r) j.1.z n.2 g;have:=Jb e 1;exact .some ⟨J1 .i64 e 1,rfl,⟨J8,om,om⟩,om,om⟩
        ·exact .some ⟨trivial,nofun⟩
       ·exact .some ⟨trivial,λ_=>om⟩
      ·try dsimp only
       exact⟨fk0,oo,oo⟩
    ·exact .some ⟨trivial,nofun⟩
   ·exact .some ⟨trivial,nofun⟩
  ·exact .some ⟨trivial,nofun⟩
 ·exact .some ⟨trivial,nofun⟩
section
variable {B S:Int}
theorem JgZ{x:JO}(h:zFt B S JU x)(e:J02 x=some true)(w:BC B S 0 0:=by omega):(1<=x.1/\x.1<=1099511627776/\J0 x.2.1<=4096/\x.1-1<=x.2.2/\x.2.2<=x.1+J0 x.2.1-1)/\ ∀(j:Nat) (e:J2),x.2.1[j]?=some e->e.1=x.1+j/\Jx e=some true:=by
 have q:=((J2y h).get e).2 rfl;refine⟨q,?_⟩;have n:Par (J02 x) λy=>y=true-> ∀(j:Nat) (e:J2),x.2.1[j]?=some e->e.1=x.1+j/\Jx e=some true:=by
  unfold J02
  repeat' first|exact Par.some nofun|refine Par.ltf (λ_=>?_) (λ_=>?_)|refine Par.gtf (λ_=>?_) (λ_=>?_)|refine Par.gt (λ_=>?_) (λ_=>?_)|refine Par.bind λ_ _=>?_
  refine .while (λz=>z.2=x/\0<=z.1/\ ∀(j:Nat) (e:J2),(j:Int)<z.1->x.2.1[j]?=some e->e.1=x.1+j/\Jx e=some true) ⟨rfl,J0F _,λj e h1=>by dsimp only at h1;omega⟩ ?_;rintro⟨i,z⟩ ⟨rfl,r,g⟩;dsimp only at r g q;unfold J7S;dsimp only;refine .lt (λc=>?_) λc=>.some λ_ j e he=>g j e (by have:=J51 he;omega) he;refine .bind λC h4=>.nef (λD=>.bind λA h5=>.bind λb hb=>.not (λ_=>.some nofun) λo=>.some ?_) λ_=>.some nofun;subst o;have:=Jb i 1;have:=Jb z.1 i;rw[h4]at h5;injection h5 with h5;subst h5
  refine⟨rfl,?_,λj e hj he=>?_⟩
  ·show 0<=J1 .i64 i 1;omega
  ·have hj:(j:Int)<J1 .i64 i 1:=hj;by_cases k:(j:Int)<i
   ·exact g j e k he
   ·have:j=i.toNat:=by omega
    subst this;have v:=(J0H h4).2;rw[v]at he;injection he with he;subst he
    exact⟨oo,hb⟩
 exact n _ e rfl
theorem J27{x:JO}{y:Bool}(h:zFt B S JU x)(e:J02 x=some y)(c:y=true)(g:BC B S 0 0:=by omega):(1<=x.1/\x.1<=1099511627776/\J0 x.2.1<=4096/\x.1-1<=x.2.2/\x.2.2<=x.1+J0 x.2.1-1)/\zFt 4096 8192 JU x:=by subst c;obtain⟨q,k⟩:=JgZ h e;refine⟨q,h.1,⟨q.2.2.1,λa ha=>?_⟩,h.c⟩;obtain⟨j,hj⟩:=J5w.1 ha;exact(J2v (h.2.1.2 a ha) (k j a hj).2 rfl).2.u
end
theorem J9s{B S:Int}{x1:J6z}(h:zFt B S tq8 x1)(o:BG B S:=by omega):Tot (J19 x1) λy=>zFt 4096 8192 tq8 y/\(y.2=0->J0 y.1.2.1=J0 x1.1.2.1):=by
 unfold J19;refine .bind ((J2y h.1).eqn) λr h1=>.not (λg=>?_) λg=>?_
 ·have:J0 x1.1.2.1<=B:=h.1.2.1.1;exact .some ⟨(⟨fzr,fkn 26⟩),om⟩
 ·have k:=J27 h.1 h1.2 g;have:=J4 (l:=x1.1.2.1);have:J0 x1.1.2.1=_:=Jk h.1.2.1;have e:zFt 4096 8192 JU x1.1:=k.2;refine .bind (J6K e om om om) λq n=>.gt (λj=>?_) λj=>?_
  ·exact .some ⟨(⟨fzr,fkn 14⟩),om⟩
  ·exact .some ⟨(⟨⟨e.1,e.2.1,J4B e.c h.2⟩,fk0⟩),om⟩
theorem J8q{B S:Int}{x1:JO}(h:zFt B S JU x1)(j:BC B S 0 0:=by omega):Tot (J3m x1) λy=>zFt 0 0 zI y:=by
 unfold J3m;refine .bind ((J2y h).eqn) λn h1=>.not (λe=>?_) λe=>?_
 ·exact .some fk0
 ·have v3:=J27 h h1.2 e;have:=J4 (l:=x1.2.1);have:J0 x1.2.1=_:=Jk h.2.1;have h10:zFt 4096 8192 JU x1:=v3.2;refine .bind (J6K h10 om om om) λk g=>.some g.1
theorem J0a{B S x1:Int}(h:zFt B S zI x1)(e:BS B S 0 0:=by omega):Tot (Js x1) λy=>zFt 0 0 J00 y/\(y.1=5):=by unfold Js;exact .some ⟨(⟨fkn 5,fk0,fk0,⟨trivial,Je⟩,h⟩),om⟩
theorem Jsg{B S:Int}{x1:Jo}(h:zFt B S Jm x1)(ay:BS B S 0 0:=by omega)(hB:B<=9223372036854775807:=by omega):Tot (J2B x1) λy=>zFt 0 0 .b y:=by
 unfold J2B;refine .ltf (λc1=>?_) λc1=>?_
 ·refine .gtf (λc3=>?_) λc3=>?_
  ·have:=J3.1 h.2.1;refine .ltf (λc4=>?_) λc4=>?_
   ·refine .gtf (λc6=>?_) λc6=>?_
    ·have:=J3.1 h.c.1;refine .ltf (λc7=>?_) λc7=>?_
     ·refine .gtf (λc9=>?_) λc9=>?_
      ·have:J0 x1.2.2.2.2.1<=B:=h.e.1.1;have:=J4 (l:=x1.2.2.2.2.1);refine .gtf (λx=>?_) λx=>?_
       ·have:J0 x1.2.2.2.2.2<=B:=h.g.1;have:=J4 (l:=x1.2.2.2.2.2);refine .gt (λY=>?_) λY=>?_
        ·exact .some trivial
        ·have:=J3.1 h.d.1;refine .ltf (λE=>?_) λE=>?_
         ·refine .gtf (λC=>?_) λC=>?_
          ·refine .ne (λT=>?_) λT=>?_
           ·refine .ne (λa1=>?_) λa1=>?_
            ·exact .some trivial
            ·refine Jf (τ:=Int) (λq=>(q,x1)) (λq=>(zFt 0 0 zI q/\0<=q/\(q<=J0 x1.2.2.2.2.1\/q<=0))) (λq=>J0 x1.2.2.2.2.1-q) ?_ 0 rfl ?_
             ·rintro o ⟨R,ab,aq⟩;unfold JdR
              try dsimp only
              have:=J3.1 R;refine .lt (λZ=>?_) λZ=>?_
              ·refine .bind (Jh h.e.1) λy3 an=>.ltf (λA=>?_) λA=>?_
               ·refine .bind (Jh h.e.1) λy4 ai=>.gtf (λr=>?_) λr=>?_
                ·refine .gt (λV=>?_) λV=>?_
                 ·have:=J0o o 1;refine .bind (Jh h.e.1) λy5 av=>.bind (Jh h.e.1) λy6 b0=>.ge (λG=>?_) λG=>?_
                  ·exact .some trivial
                  ·have:=Jb o 1;exact .some ⟨J1 .i64 o 1,rfl,⟨J8,om,om⟩,om,om⟩
                 ·have:=Jb o 1;exact .some ⟨J1 .i64 o 1,rfl,⟨J8,om,om⟩,om,om⟩
                ·exact .some trivial
               ·exact .some trivial
              ·refine .inr ?_;refine Jf (τ:=Int) (λq=>(q,x1)) (λq=>(zFt 0 0 zI q/\0<=q/\(q<=J0 x1.2.2.2.2.2\/q<=0))) (λq=>J0 x1.2.2.2.2.2-q) ?_ 0 rfl ?_
               ·rintro n ⟨M,b8,ag⟩;unfold Je0
                try dsimp only
                have:=J3.1 M;refine .lt (λw=>?_) λw=>?_
                ·refine .bind (Jh h.g) λy8 aj=>.ltf (λQ=>?_) λQ=>?_
                 ·refine .bind (Jh h.g) λy9 az=>.gtf (λW=>?_) λW=>?_
                  ·refine .gt (λJ=>?_) λJ=>?_
                   ·have:=J0o n 1;refine .bind (Jh h.g) λa8 b5=>.bind (Jh h.g) λad ah=>.gt (λz=>?_) λz=>?_
                    ·exact .some trivial
                    ·have:=Jb n 1;exact .some ⟨J1 .i64 n 1,rfl,⟨J8,om,om⟩,om,om⟩
                   ·have:=Jb n 1;exact .some ⟨J1 .i64 n 1,rfl,⟨J8,om,om⟩,om,om⟩
                  ·exact .some trivial
                 ·exact .some trivial
                ·exact .some trivial
               ·try dsimp only
                exact⟨fk0,oo,oo⟩
             ·try dsimp only
              exact⟨fk0,oo,oo⟩
           ·refine Jf (τ:=Int) (λq=>(q,x1)) (λq=>(zFt 0 0 zI q/\0<=q/\(q<=J0 x1.2.2.2.2.1\/q<=0))) (λq=>J0 x1.2.2.2.2.1-q) ?_ 0 rfl ?_
            ·rintro k ⟨F,a7,ac⟩;unfold Jev
             try dsimp only
             have:=J3.1 F;refine .lt (λL=>?_) λL=>?_
             ·refine .bind (Jh h.e.1) λb1 a9=>.ltf (λD=>?_) λD=>?_
              ·refine .bind (Jh h.e.1) λal am=>.gtf (λI=>?_) λI=>?_
               ·refine .gt (λN=>?_) λN=>?_
                ·have:=J0o k 1;refine .bind (Jh h.e.1) λap ao=>.bind (Jh h.e.1) λb7 ak=>.ge (λK=>?_) λK=>?_
                 ·exact .some trivial
                 ·have:=Jb k 1;exact .some ⟨J1 .i64 k 1,rfl,⟨J8,om,om⟩,om,om⟩
                ·have:=Jb k 1;exact .some ⟨J1 .i64 k 1,rfl,⟨J8,om,om⟩,om,om⟩
               ·exact .some trivial
              ·exact .some trivial
             ·refine .inr ?_;refine Jf (τ:=Int) (λq=>(q,x1)) (λq=>(zFt 0 0 zI q/\0<=q/\(q<=J0 x1.2.2.2.2.2\/q<=0))) (λq=>J0 x1.2.2.2.2.2-q) ?_ 0 rfl ?_
              ·rintro j ⟨U,b2,au⟩;unfold Jek
               try dsimp only
               have:=J3.1 U;refine .lt (λH=>?_) λH=>?_
               ·refine .bind (Jh h.g) λaf aa=>.ltf (λv=>?_) λv=>?_
                ·refine .bind (Jh h.g) λax ae=>.gtf (λa0=>?_) λa0=>?_
                 ·refine .gt (λP=>?_) λP=>?_
                  ·have:=J0o j 1;refine .bind (Jh h.g) λb4 b6=>.bind (Jh h.g) λb3 aw=>.gt (λO=>?_) λO=>?_
                   ·exact .some trivial
                   ·have:=Jb j 1;exact .some ⟨J1 .i64 j 1,rfl,⟨J8,om,om⟩,om,om⟩
                  ·have:=Jb j 1;exact .some ⟨J1 .i64 j 1,rfl,⟨J8,om,om⟩,om,om⟩
                 ·exact .some trivial
                ·exact .some trivial
               ·exact .some trivial
              ·try dsimp only
               exact⟨fk0,oo,oo⟩
            ·try dsimp only
             exact⟨fk0,oo,oo⟩
          ·exact .some trivial
         ·exact .some trivial
       ·exact .some trivial
      ·exact .some trivial
     ·exact .some trivial
    ·exact .some trivial
   ·exact .some trivial
  ·exact .some trivial
 ·exact .some trivial
theorem J3V{B S:Int}{x1:List Jo}(h:zFt B S (.l Jm) x1)(z:BS B S 0 0:=by omega)(H:B<=9223372036854775807:=by omega):Tot (J18 x1) λy=>zFt 0 0 .b y:=by
 unfold J18;have:=J4 (l:=x1);have:J0 x1=_:=Jk h;refine .gt (λr=>?_) λr=>?_
 ·exact .some trivial
 ·refine Jf (τ:=Int) (λq=>(x1,q)) (λq=>(zFt 0 0 zI q/\0<=q/\(q<=J0 x1\/q<=0))) (λq=>J0 x1-q) ?_ 0 rfl ?_
  ·rintro e ⟨o,C,A⟩;unfold Ja3
   try dsimp only
   have:=J3.1 o;refine .lt (λn=>?_) λn=>?_
   ·refine .bind (Jh h) λD h10=>.bind (Jsg h10.1) λG w=>.nof (λg=>?_) λg=>?_
    ·refine .gt (λk=>?_) λk=>?_
     ·have:=J0o e 1;refine .bind (Jh h) λE v=>.bind (Jh h) λF x=>.ge (λj=>?_) λj=>?_
      ·exact .some trivial
      ·have:=Jb e 1;exact .some ⟨J1 .i64 e 1,rfl,⟨J8,om,om⟩,om,om⟩
     ·have:=Jb e 1;exact .some ⟨J1 .i64 e 1,rfl,⟨J8,om,om⟩,om,om⟩
    ·exact .some trivial
   ·exact .some trivial
  ·try dsimp only
   exact⟨fk0,oo,oo⟩
theorem Ja1{B S:Int}{x1:J2C}(h:zFt B S tq2 x1)(o:BS B S 0 0:=by omega)(w:B<=9223372036854775807:=by omega):Tot (J1D x1) λy=>zFt 0 0 zI y/\(-1<=y/\y<J0 x1.1):=by
 unfold J1D;have:J0 x1.1<=B:=h.1.1;have:=J4 (l:=x1.1);have:J0 x1.1=_:=Jk h.1;refine Jf (τ:=Int) (λq=>(x1.1,x1.2,q)) (λq=>(zFt 0 0 zI q/\0<=q/\(q<=J0 x1.1\/q<=0))) (λq=>J0 x1.1-q) ?_ 0 rfl ?_
 ·rintro e ⟨g,x,v⟩;unfold J2a
  try dsimp only
  have:=J3.1 g;refine .lt (λk=>?_) λk=>?_
  ·refine .bind (Jh h.1) λr n=>.eq (λj=>?_) λj=>?_
   ·exact .some ⟨g,om⟩
   ·have:=Jb e 1;exact .some ⟨J1 .i64 e 1,rfl,⟨J8,om,om⟩,om,om⟩
  ·exact .some ⟨(fkn (-1)),om⟩
 ·try dsimp only
  exact⟨fk0,oo,oo⟩
theorem JgW{B S:Int}{x1:J2C}(h:zFt B S tq2 x1)(Z:BG B S:=by omega):Tot (J7r x1) λy=>zFt 8193 0 tq2 y:=by
 unfold J7r;refine .bind ((J3V h.1).eqn) λy2 h1=>.not (λK=>?_) λK=>?_
 ·exact .some (⟨Jc,fkn 15⟩)
 ·have v3:=J2X h.1 h1.2 K;have:=J4 (l:=x1.1);have:J0 x1.1=_:=Jk h.1;have k:zFt 4096 0 (.l Jm) x1.1:=v3.2;refine .ltf (λP=>?_) λP=>?_
  ·refine .gt (λG=>?_) λG=>?_
   ·exact .some (⟨Jc,fkn 1⟩)
   ·refine .bind (Ja1 (B:=4096) (S:=0) (⟨k,h.2⟩)) λy3 T=>.ge (λJ=>?_) λJ=>?_
    ·exact .some (⟨Jc,fkn 25⟩)
    ·refine .eq (λO=>?_) λO=>?_
     ·exact .some (⟨Jc,fkn 21⟩)
     ·refine Jf (τ:=Int×(List Jo)) (λq=>(x1.1,x1.2,q.1,q.2)) (λq=>(zFt 0 0 zI q.1/\0<=q.1/\(q.1<=J0 x1.1\/q.1<=0))/\(zFt 4096 0 (.l Jm) q.2/\J0 q.2<=1*q.1+0)) (λq=>J0 x1.1-q.1) ?_ (0,[]) rfl ?_
      ·rintro⟨j,e⟩ r;dsimp only at r;obtain⟨⟨E,Y,V⟩,g,U⟩:=r;unfold JdH
       try dsimp only
       have:=J3.1 E;refine .lt (λL=>?_) λL=>?_
       ·refine .bind (Jh k) λy5 W=>.lt (λD=>?_) λD=>?_
        ·refine .bind (Jh k) λy6 H=>?_;have:J0 e<=4096:=g.1;have:=J4 (l:=e);have:J0 e=_:=Jk g;refine .bind (J0x (B:=4096) (Bl:=4096) (Bm:=4096) (S:=0) (J0 e) 1 g (J0j (B:=4096) (S:=0) (t:=Jm) oo H.1)) λC o=>?_;have:=Jb j 1;have:J0 C=_:=Jk o.1;exact .some ⟨(J1 .i64 j 1,C),rfl,⟨⟨J8,om,om⟩,o.1,om⟩,om,om⟩
        ·refine .inr ?_;have:J0 e<=4096:=g.1;have:=J4 (l:=e);have:J0 e=_:=Jk g;refine .bind (J0x (B:=4097) (Bl:=4096) (Bm:=1) (S:=0) (J0 e) 1 g (J0j (B:=1) (S:=0) (t:=Jm) oo (⟨h.2,fkn 1,fzr⟩))) λI x=>.bind (J3J k) λM v=>?_;have:J0 I=_:=Jk x.1;have:J0 M=_:=Jk v.1;refine .bind (J0x (B:=8193) (Bl:=4097) (Bm:=4096) (S:=0) (J0 I) (J0 M) x.1 v.1) λQ N=>.some (⟨N.1,fk0⟩)
       ·refine .inr ?_;have:J0 e<=4096:=g.1;have:=J4 (l:=e);have:J0 e=_:=Jk g;refine .bind (J0x (B:=4097) (Bl:=4096) (Bm:=1) (S:=0) (J0 e) 1 g (J0j (B:=1) (S:=0) (t:=Jm) oo (⟨h.2,fkn 1,fzr⟩))) λz A=>.bind (J3J k) λw n=>?_;have:J0 z=_:=Jk A.1;have:J0 w=_:=Jk n.1;refine .bind (J0x (B:=8193) (Bl:=4097) (Bm:=4096) (S:=0) (J0 z) (J0 w) A.1 n.1) λR F=>.some (⟨F.1,fk0⟩)
      ·have:J0 ([]:List Jo)=0:=rfl
       try dsimp only
       exact⟨⟨fk0,oo,oo⟩,Jc,oo⟩
  ·exact .some (⟨Jc,fkn 1⟩)
theorem J9p{B S:Int}{x1:J1G}(h:zFt B S tq1 x1)(r:BS B S 0 0:=by omega)(x:B<=9223372036854775807:=by omega):Tot (J2Z x1) λy=>zFt 0 0 (.pr Jd .b) y:=by
 unfold J2Z;have:J0 x1.1.2.2.2.2.2.2.2<=B:=h.1.i.1;have:=J4 (l:=x1.1.2.2.2.2.2.2.2);have:J0 x1.1.2.2.2.2.2.2.2=_:=Jk h.1.i;refine Jf (τ:=Int) (λq=>(x1.2,q,x1.1,0,0,0)) (λq=>(zFt 0 0 zI q/\0<=q/\(q<=J0 x1.1.2.2.2.2.2.2.2\/q<=0))) (λq=>J0 x1.1.2.2.2.2.2.2.2-q) ?_ 0 rfl ?_
 ·rintro e ⟨k,z,w⟩;unfold Jas
  try dsimp only
  have:=J3.1 k;refine .lt (λn=>?_) λn=>?_
  ·refine .bind (Jh h.1.i) λv o=>.eq (λg=>?_) λg=>?_
   ·refine .bind (Jh h.1.i) λA j=>.some (⟨j.1,trivial⟩)
   ·have:=Jb e 1;exact .some ⟨J1 .i64 e 1,rfl,⟨J8,om,om⟩,om,om⟩
  ·exact .some (⟨fzr,trivial⟩)
 ·try dsimp only
  exact⟨fk0,oo,oo⟩
theorem J4i{B S:Int}{x1:Jpn}(h:zFt B S JFF x1)(k:BS B S 0 0:=by omega):Tot (J2p x1) λy=>zFt 0 0 .b y:=by
 unfold J2p;refine .ne (λj=>?_) λj=>?_
 ·refine .ite (λe=>?_) λe=>?_
  ·have n:=J1I.1 e;refine .eqf (λg=>?_) λg=>?_
   ·exact .some trivial
   ·exact .some trivial
  ·exact .some trivial
 ·exact .some trivial
theorem JbY{B S:Int}{x1:T_api_Grant}(h:zFt B S Ja x1)(q:BS B S 0 0:=by omega):Tot (J5Y x1) λy=>zFt 0 0 .b y:=by
 unfold J5Y;refine .ge (λo=>?_) λo=>?_
 ·refine .le (λc3=>?_) λc3=>?_
  ·have:=J3.1 h.2.1.1;refine .ge (λn=>?_) λn=>?_
   ·refine .lt (λk=>?_) λk=>?_
    ·have:=J3.1 h.2.1.2;refine .ge (λj=>?_) λj=>?_
     ·refine .lt (λg=>?_) λg=>?_
      ·have:=J3.1 h.c;refine .eqf (λe=>?_) λe=>?_
       ·exact .some trivial
       ·exact .some trivial
      ·exact .some trivial
     ·exact .some trivial
    ·exact .some trivial
   ·exact .some trivial
  ·exact .some trivial
 ·exact .some trivial
theorem Jis{B S:Int}{x1:Jpn}(h:zFt B S JFF x1)(j:BS B S 0 0:=by omega):Tot (J8m x1) λy=>zFt 0 0 .b y:=by
 unfold J8m;refine .ne (λg=>?_) λg=>?_
 ·exact .some trivial
 ·have:=J3.1 h.1.2.1.2;refine .ne (λe=>?_) λe=>?_
  ·exact .some trivial
  ·exact .some trivial
theorem J5L{B S:Int}{x1:JBA}(h:zFt B S (.pr JD Jd) x1)(x:BS B S 0 0:=by omega)(E:B<=9223372036854775807:=by omega):Tot (J3p x1) λy=>zFt 0 0 zI y:=by
 unfold J3p;have:J0 x1.1.1<=B:=h.1.1.1;have:=J4 (l:=x1.1.1);have:J0 x1.1.1=_:=Jk h.1.1;refine Jf (τ:=Int) (λq=>(x1.2.1,q,x1.1,x1.2.2)) (λq=>(zFt 0 0 zI q/\0<=q/\(q<=J0 x1.1.1\/q<=0))) (λq=>J0 x1.1.1-q) ?_ 0 rfl ?_
 ·rintro e ⟨o,F,C⟩;unfold JfT
  try dsimp only
  have:=J3.1 o;refine .lt (λn=>?_) λn=>?_
  ·refine .bind (Jh h.1.1) λz v=>.eq (λk=>?_) λk=>?_
   ·refine .bind (Jh h.1.1) λD w=>.ite (λg=>?_) λg=>?_
    ·have r:=J1I.1 g;refine .bind (Jh h.1.1) λA j=>.some j.1.c
    ·have:=Jb e 1;exact .some ⟨J1 .i64 e 1,rfl,⟨J8,om,om⟩,om,om⟩
   ·have:=Jb e 1;exact .some ⟨J1 .i64 e 1,rfl,⟨J8,om,om⟩,om,om⟩
  ·exact .some fk0
 ·try dsimp only
  exact⟨fk0,oo,oo⟩
theorem J4O{B S:Int}{x1:J01}(h:zFt B S JD x1)(aq:BS B S 0 0:=by omega)(hB:B<=9223372036854775807:=by omega):Tot (J1B x1) λy=>zFt 0 0 .b y:=by
 unfold J1B;have:J0 x1.1<=B:=h.1.1;have:=J4 (l:=x1.1);have:J0 x1.1=_:=Jk h.1;have:J0 x1.2<=B:=h.2.1;have:=J4 (l:=x1.2);have:J0 x1.2=_:=Jk h.2;have:=Jb (J0 x1.1) (J0 x1.2);refine .gt (λZ=>?_) λZ=>?_
 ·exact .some trivial
 ·refine Jf (τ:=Int) (λq=>(q,x1)) (λq=>(zFt 0 0 zI q/\0<=q/\(q<=J0 x1.1\/q<=0))) (λq=>J0 x1.1-q) ?_ 0 rfl ?_
  ·rintro e ⟨i9,au,b1⟩;unfold Jei
   try dsimp only
   have:=J3.1 i9;refine .lt (λK=>?_) λK=>?_
   ·refine .bind (Jh h.1) λy3 w=>.bind (JbY w.1) λy4 a2=>.nof (λE=>?_) λE=>?_
    ·refine .gt (λM=>?_) λM=>?_
     ·have:=J0o e 1;refine .bind (Jh h.1) λy5 P=>.bind (Jh h.1) λy6 G=>.bind (Jis (B:=0) (S:=0) (⟨P.1,G.1⟩)) λy7 an=>.not (λD=>?_) λD=>?_
      ·exact .some trivial
      ·refine Jf (τ:=Int) (λq=>(e,q,x1)) (λq=>(zFt 0 0 zI q/\q<=JH .i64 e 1)) (λq=>q-0) ?_ (JH .i64 e 1) rfl ?_
       ·rintro o ⟨C,a6⟩;unfold Je1
        try dsimp only
        have:=J3.1 C;refine .ge (λR=>?_) λR=>?_
        ·refine .bind (Jh h.1) λy9 aj=>.bind (Jh h.1) λa1 ab=>.ite (λr=>?_) λr=>?_
         ·have ai:=J1I.1 r;refine .bind (Jh h.1) λa8 N=>.bind (Jh h.1) λa4 O=>.bind (J4i (B:=0) (S:=0) (⟨N.1,O.1⟩)) λaw a5=>.ite (λT=>?_) λT=>?_
          ·refine .inr ?_;exact .some trivial
          ·have:=J0o o 1;exact .some ⟨JH .i64 o 1,rfl,⟨J2f,om⟩,om,om⟩
         ·have:=Jb e 1;exact .some ⟨J1 .i64 e 1,rfl,⟨J8,om,om⟩,om,om⟩
        ·have:=Jb e 1;exact .some ⟨J1 .i64 e 1,rfl,⟨J8,om,om⟩,om,om⟩
       ·try dsimp only
        exact⟨J2f,oo⟩
     ·have:=J0o e 1;refine Jf (τ:=Int) (λq=>(e,q,x1)) (λq=>(zFt 0 0 zI q/\q<=JH .i64 e 1)) (λq=>q-0) ?_ (JH .i64 e 1) rfl ?_
      ·rintro j ⟨I,aa⟩;unfold Jez
       try dsimp only
       have:=J3.1 I;refine .ge (λx=>?_) λx=>?_
       ·refine .bind (Jh h.1) λak ac=>.bind (Jh h.1) λaz a3=>.ite (λv=>?_) λv=>?_
        ·have ap:=J1I.1 v;refine .bind (Jh h.1) λal Y=>.bind (Jh h.1) λa9 A=>.bind (J4i (B:=0) (S:=0) (⟨Y.1,A.1⟩)) λao av=>.ite (λH=>?_) λH=>?_
         ·refine .inr ?_;exact .some trivial
         ·have:=J0o j 1;exact .some ⟨JH .i64 j 1,rfl,⟨J2f,om⟩,om,om⟩
        ·have:=Jb e 1;exact .some ⟨J1 .i64 e 1,rfl,⟨J8,om,om⟩,om,om⟩
       ·have:=Jb e 1;exact .some ⟨J1 .i64 e 1,rfl,⟨J8,om,om⟩,om,om⟩
      ·try dsimp only
       exact⟨J2f,oo⟩
    ·exact .some trivial
   ·refine .inr ?_;refine Jf (τ:=Int) (λq=>(q,x1)) (λq=>(zFt 0 0 zI q/\0<=q/\(q<=J0 x1.2\/q<=0))) (λq=>J0 x1.2-q) ?_ 0 rfl ?_
    ·rintro g ⟨F,b0,a7⟩;unfold Jef
     try dsimp only
     have:=J3.1 F;refine .lt (λW=>?_) λW=>?_
     ·refine .bind (Jh h.2) λV n=>.bind (JbY n.1) λae af=>.nof (λz=>?_) λz=>?_
      ·refine .bind (J5L (B:=B) (S:=S) (⟨h,n.1.1,n.1.2.1⟩)) λax ad=>.ge (λU=>?_) λU=>?_
       ·exact .some trivial
       ·refine Jf (τ:=Int) (λq=>(g,q,x1,V)) (λq=>(zFt 0 0 zI q/\0<=q/\(q<=g\/q<=0))) (λq=>g-q) ?_ 0 rfl ?_
        ·rintro k ⟨L,am,ay⟩;unfold Je8
         try dsimp only
         have:=J3.1 L;refine .lt (λQ=>?_) λQ=>?_
         ·refine .bind (Jh h.2) λah ag=>.eq (λJ=>?_) λJ=>?_
          ·refine .inr ?_;exact .some trivial
          ·have:=Jb k 1;exact .some ⟨J1 .i64 k 1,rfl,⟨J8,om,om⟩,om,om⟩
         ·have:=Jb g 1;exact .some ⟨J1 .i64 g 1,rfl,⟨J8,om,om⟩,om,om⟩
        ·try dsimp only
         exact⟨fk0,oo,oo⟩
      ·exact .some trivial
     ·exact .some trivial
    ·try dsimp only
     exact⟨fk0,oo,oo⟩
  ·try dsimp only
   exact⟨fk0,oo,oo⟩
theorem Jh9{B S:Int}{x1:JT}(h:zFt B S Ju x1)(x:BS B S 0 0:=by omega):Tot (J26 x1) λy=>zFt 0 0 .b y:=by
 unfold J26;have s0:zFt 0 S Ju x1:=h;refine Jf (τ:=Int) (λq=>(q,x1)) (λq=>(zFt 0 0 zI q/\0<=q/\(q<=16\/q<=0))) (λq=>16-q) ?_ 0 rfl ?_
 ·rintro e ⟨r,w2,z3⟩;unfold Jak
  try dsimp only
  have:=J3.1 r;refine .lt (λv=>?_) λv=>?_
  ·refine .bind (J7k) λ_ _=>.bind (Jcd s0.2.2) λo j=>.bind (J8Y j) λA C=>.nof (λn=>?_) λn=>?_
   ·have:J0 o.2<=S:=j.2;refine .eq (λk=>?_) λk=>?_
    ·refine .bind (J7k) λ_ _=>.bind (Jcd s0.2.2) λz w=>.ite (λg=>?_) λg=>?_
     ·exact .some trivial
     ·have:=Jb e 1;exact .some ⟨J1 .i64 e 1,rfl,⟨J8,om,om⟩,om,om⟩
    ·have:=Jb e 1;exact .some ⟨J1 .i64 e 1,rfl,⟨J8,om,om⟩,om,om⟩
   ·exact .some trivial
  ·exact .some trivial
 ·try dsimp only
  exact⟨fk0,oo,oo⟩
end Go.Am
end
section
namespace Go.Am
set_option linter.unusedVariables false
set_option maxRecDepth 20000
set_option maxHeartbeats 4000000
theorem Jeg{B S:Int}{x1:JT}(h:zFt B S Ju x1)(j:BS B S 0 0:=by omega):Tot (J1V x1) λy=>zFt 0 0 .b y:=by
 unfold J1V;refine .ge (λg=>?_) λg=>?_
 ·refine .lt (λc3=>?_) λc3=>?_
  ·have:=J3.1 h.z.2.1;refine .ge (λe=>?_) λe=>?_
   ·exact .some trivial
   ·exact .some trivial
  ·exact .some trivial
 ·exact .some trivial
theorem Jr2{B S:Int}{x1:JT}(h:zFt B S Ju x1)(g:BS B S 0 0:=by omega):Tot (J1M x1) λy=>zFt 0 0 .b y:=by
 unfold J1M;have s0:zFt 0 S Ju x1:=h;refine .bind (Jeg (B:=0) (S:=S) s0) λk h1=>.ite (λe=>?_) λe=>?_
 ·refine .bind (Jh9 (B:=0) (S:=S) s0) λj h3=>.some trivial
 ·exact .some trivial
theorem J3U{B S:Int}{x1:JG}(h:zFt B S JM x1)(ab:BS B S 0 0:=by omega)(hB:B<=9223372036854775807:=by omega):Tot (JR x1) λy=>zFt 0 0 .b y:=by
 unfold JR;have:=J3.1 h.1;refine .ltf (λZ=>?_) λZ=>?_
 ·refine .gtf (λc3=>?_) λc3=>?_
  ·have:J0 x1.2.1<=B:=h.2.1.1;have:=J4 (l:=x1.2.1);have:J0 x1.2.1=_:=Jk h.2.1;refine .gtf (λc4=>?_) λc4=>?_
   ·have:=J3.1 h.c;refine .ltf (λY=>?_) λY=>?_
    ·have:=J0o (J0 x1.2.1) 1;refine .gt (λO=>?_) λO=>?_
     ·exact .some trivial
     ·refine Jf (τ:=Int) (λq=>(J0 x1.2.1,q,x1)) (λq=>(zFt 0 0 zI q/\0<=q/\(q<=J0 x1.2.1\/q<=0))) (λq=>J0 x1.2.1-q) ?_ 0 rfl ?_
      ·rintro e ⟨L,aa,a6⟩;unfold J67
       try dsimp only
       have:=J3.1 L;refine .lt (λK=>?_) λK=>?_
       ·refine .bind (Jh h.2.1) λk j=>.bind ((Jr2 (B:=0) (S:=S) (x1:=k.1) j.1.z.1).eqn) λy4 D=>.nof (λv=>?_) λv=>?_
        ·have a2:=Jh7 (x:=k.1) j.1.z.1 D.2 v;refine .ite (λG=>?_) λG=>?_
         ·have:=J3.1 j.1.z.2.2.1;refine .ltf (λQ=>?_) λQ=>?_
          ·refine .gtf (λC=>?_) λC=>?_
           ·refine .not (λJ=>?_) λJ=>?_
            ·refine .ne (λF=>?_) λF=>?_
             ·exact .some trivial
             ·refine Jf (τ:=Int) (λq=>(J0 x1.2.1,e,q,x1,k)) (λq=>(zFt 0 0 zI q/\0<=q/\(q<=e\/q<=0))) (λq=>e-q) ?_ 0 rfl ?_
              ·rintro r ⟨aj,ae,a5⟩;unfold J0c
               try dsimp only
               refine .lt (λH=>?_) λH=>?_
               ·refine .bind (Jh h.2.1) λy6 ah=>.eq (λR=>?_) λR=>?_
                ·refine .inr ?_;exact .some trivial
                ·have:=Jb r 1;exact .some ⟨J1 .i64 r 1,rfl,⟨J8,om,om⟩,om,om⟩
               ·have:=Jb e 1;exact .some ⟨J1 .i64 e 1,rfl,⟨J8,om,om⟩,om,om⟩
              ·try dsimp only
               exact⟨fk0,oo,oo⟩
            ·refine Jf (τ:=Int) (λq=>(J0 x1.2.1,e,q,x1,k)) (λq=>(zFt 0 0 zI q/\0<=q/\(q<=e\/q<=0))) (λq=>e-q) ?_ 0 rfl ?_
             ·rintro o ⟨V,ai,a7⟩;unfold Je7
              try dsimp only
              have:=J3.1 V;refine .lt (λE=>?_) λE=>?_
              ·refine .bind (Jh h.2.1) λy8 a3=>.eq (λw=>?_) λw=>?_
               ·refine .inr ?_;exact .some trivial
               ·have:=Jb o 1;exact .some ⟨J1 .i64 o 1,rfl,⟨J8,om,om⟩,om,om⟩
              ·have:=Jb e 1;exact .some ⟨J1 .i64 e 1,rfl,⟨J8,om,om⟩,om,om⟩
             ·try dsimp only
              exact⟨fk0,oo,oo⟩
           ·exact .some trivial
          ·exact .some trivial
         ·refine .not (λI=>?_) λI=>?_
          ·have:=J3.1 j.1.z.2.2.1;refine .ne (λW=>?_) λW=>?_
           ·exact .some trivial
           ·refine Jf (τ:=Int) (λq=>(J0 x1.2.1,e,q,x1,k)) (λq=>(zFt 0 0 zI q/\0<=q/\(q<=e\/q<=0))) (λq=>e-q) ?_ 0 rfl ?_
            ·rintro n ⟨N,a8,a1⟩;unfold JdV
             try dsimp only
             have:=J3.1 N;refine .lt (λU=>?_) λU=>?_
             ·refine .bind (Jh h.2.1) λa4 ag=>.eq (λT=>?_) λT=>?_
              ·refine .inr ?_;exact .some trivial
              ·have:=Jb n 1;exact .some ⟨J1 .i64 n 1,rfl,⟨J8,om,om⟩,om,om⟩
             ·have:=Jb e 1;exact .some ⟨J1 .i64 e 1,rfl,⟨J8,om,om⟩,om,om⟩
            ·try dsimp only
             exact⟨fk0,oo,oo⟩
          ·refine Jf (τ:=Int) (λq=>(J0 x1.2.1,e,q,x1,k)) (λq=>(zFt 0 0 zI q/\0<=q/\(q<=e\/q<=0))) (λq=>e-q) ?_ 0 rfl ?_
           ·rintro g ⟨P,af,ad⟩;unfold JdG
            try dsimp only
            have:=J3.1 P;refine .lt (λM=>?_) λM=>?_
            ·refine .bind (Jh h.2.1) λac a9=>.eq (λA=>?_) λA=>?_
             ·refine .inr ?_;exact .some trivial
             ·have:=Jb g 1;exact .some ⟨J1 .i64 g 1,rfl,⟨J8,om,om⟩,om,om⟩
            ·have:=Jb e 1;exact .some ⟨J1 .i64 e 1,rfl,⟨J8,om,om⟩,om,om⟩
           ·try dsimp only
            exact⟨fk0,oo,oo⟩
        ·exact .some trivial
       ·exact .some trivial
      ·try dsimp only
       exact⟨fk0,oo,oo⟩
    ·exact .some trivial
   ·exact .some trivial
  ·exact .some trivial
 ·exact .some trivial
theorem JeZ{B S x1:Int}(h:zFt B S zI x1)(g:BS B S 0 0:=by omega):Tot (J34 x1) λy=>zFt 0 0 .b y:=by
 unfold J34;refine .ge (λe=>?_) λe=>?_
 ·exact .some trivial
 ·exact .some trivial
theorem J5V{B S:Int}{x1:List T_api_Row}(h:zFt B S (.l Jd) x1)(E:BS B S 0 0:=by omega)(L:B<=9223372036854775807:=by omega):Tot (J0Q x1) λy=>zFt 0 0 .b y:=by
 unfold J0Q;have:J0 x1=_:=Jk h;refine .ltf (λw=>?_) λw=>?_
 ·refine .gt (λx=>?_) λx=>?_
  ·exact .some trivial
  ·refine Jf (τ:=Int) (λq=>(q,x1)) (λq=>(zFt 0 0 zI q/\0<=q/\(q<=J0 x1\/q<=0))) (λq=>J0 x1-q) ?_ 0 rfl ?_
   ·rintro e ⟨z,F,K⟩;unfold J9Z
    try dsimp only
    have:=J3.1 z;refine .lt (λv=>?_) λv=>?_
    ·refine .bind (Jh h) λG g=>.bind (JeZ g.1.1) λJ C=>.nof (λn=>?_) λn=>?_
     ·refine .bind (JeZ g.1.2.1) λH A=>.nof (λk=>?_) λk=>?_
      ·refine .bind (JeZ g.1.c) λI D=>.nof (λj=>?_) λj=>?_
       ·have:=J3.1 g.1.2.1;refine .eq (λo=>?_) λo=>?_
        ·have:=J3.1 g.1.c;refine .ne (λr=>?_) λr=>?_
         ·exact .some trivial
         ·have:=Jb e 1;exact .some ⟨J1 .i64 e 1,rfl,⟨J8,om,om⟩,om,om⟩
        ·have:=Jb e 1;exact .some ⟨J1 .i64 e 1,rfl,⟨J8,om,om⟩,om,om⟩
       ·exact .some trivial
      ·exact .some trivial
     ·exact .some trivial
    ·exact .some trivial
   ·try dsimp only
    exact⟨fk0,oo,oo⟩
 ·exact .some trivial
theorem JbE{B S:Int}{x1:Jca}(h:zFt B S JBo x1)(A:BS B S 0 0:=by omega)(G:B<=9223372036854775807:=by omega):Tot (J0P x1) λy=>zFt 0 0 .b y:=by
 unfold J0P;have:J0 x1.1<=B:=h.1.1;have:=J4 (l:=x1.1);have:J0 x1.1=_:=Jk h.1;refine Jf (τ:=Int) (λq=>(x1.1,x1.2,q)) (λq=>(zFt 0 0 zI q/\0<=q/\(q<=J0 x1.1\/q<=0))) (λq=>J0 x1.1-q) ?_ 0 rfl ?_
 ·rintro e ⟨z,H,E⟩;unfold J59
  try dsimp only
  have:=J3.1 z;refine .lt (λx=>?_) λx=>?_
  ·refine .bind (Jh h.1) λD g=>.ltf (λr=>?_) λr=>?_
   ·have:=J3.1 h.2;refine .gef (λn=>?_) λn=>?_
    ·have:=J3.1 g.1.2.1;refine .ltf (λk=>?_) λk=>?_
     ·have:=J3.1 g.1.c;refine .gtf (λo=>?_) λo=>?_
      ·refine .gtf (λv=>?_) λv=>?_
       ·refine .gt (λw=>?_) λw=>?_
        ·have:=J0o e 1;refine .bind (Jh h.1) λF C=>.ge (λj=>?_) λj=>?_
         ·exact .some trivial
         ·have:=Jb e 1;exact .some ⟨J1 .i64 e 1,rfl,⟨J8,om,om⟩,om,om⟩
        ·have:=Jb e 1;exact .some ⟨J1 .i64 e 1,rfl,⟨J8,om,om⟩,om,om⟩
       ·exact .some trivial
      ·exact .some trivial
     ·exact .some trivial
    ·exact .some trivial
   ·exact .some trivial
  ·exact .some trivial
 ·try dsimp only
  exact⟨fk0,oo,oo⟩
theorem Jsu{B S:Int}{x1:J6}(h:zFt B S J9 x1)(I:BC B S 0 0:=by omega):Tot (J1T x1) λy=>zFt 0 0 .b y:=by
 unfold J1T;refine .ge (λC=>?_) λC=>?_
 ·refine .le (λc3=>?_) λc3=>?_
  ·have:=J3.1 h.2.1;refine .ge (λE=>?_) λE=>?_
   ·refine .le (λD=>?_) λD=>?_
    ·refine .bind ((J2y h.c.1).eqn) λQ A=>.ite (λq=>?_) λq=>?_
     ·have v9:=J27 h.c.1 A.2 q;refine .bind ((J3U h.d.1).eqn) λM r=>.ite (λo=>?_) λo=>?_
      ·have H:=J30 h.d.1 r.2 o;refine .bind ((J4O h.e.1).eqn) λP w=>.ite (λk=>?_) λk=>?_
       ·have J:=J3X h.e.1 w.2 k;refine .bind ((J3V h.g.1).eqn) λN z=>.ite (λn=>?_) λn=>?_
        ·have K:=J2X h.g.1 z.2 n;refine .bind ((J5V h.h.1).eqn) λO x=>.ite (λj=>?_) λj=>?_
         ·have F:=J4R h.h.1 x.2 j;refine .eq (λv=>?_) λv=>?_
          ·refine .bind (JbE (B:=B) (S:=S) (⟨h.i,h.1⟩)) λL G=>.some trivial
          ·exact .some trivial
         ·exact .some trivial
        ·exact .some trivial
       ·exact .some trivial
      ·exact .some trivial
     ·exact .some trivial
    ·exact .some trivial
   ·exact .some trivial
  ·exact .some trivial
 ·exact .some trivial
theorem J1o{B S:Int}{x1:J6}(h:zFt B S J9 x1)(T:BC B S 0 0:=by omega):Tot (Jq x1) λy=>zFt 0 0 .b y:=by
 unfold Jq;refine .bind (Jsu h) λy2 h1=>.not (λK=>?_) λK=>?_
 ·exact .some trivial
 ·have:J0 x1.2.2.2.2.2.1<=B:=h.g.1.1;have:=J4 (l:=x1.2.2.2.2.2.1);have:J0 x1.2.2.2.2.2.1=_:=Jk h.g.1;refine Jf (τ:=Int) (λq=>(q,x1)) (λq=>(zFt 0 0 zI q/\0<=q/\(q<=J0 x1.2.2.2.2.2.1\/q<=0))) (λq=>J0 x1.2.2.2.2.2.1-q) ?_ 0 rfl ?_
  ·rintro o ⟨L,w7,z8⟩;unfold Je2
   try dsimp only
   have:=J3.1 L;refine .lt (λJ=>?_) λJ=>?_
   ·refine .bind (Jh h.g.1) λy4 N=>.ge (λF=>?_) λF=>?_
    ·exact .some trivial
    ·have:=Jb o 1;exact .some ⟨J1 .i64 o 1,rfl,⟨J8,om,om⟩,om,om⟩
   ·refine .inr ?_;have:J0 x1.2.2.2.1.2.1<=B:=h.d.1.2.1.1;have:=J4 (l:=x1.2.2.2.1.2.1);have:J0 x1.2.2.2.1.2.1=_:=Jk h.d.1.2.1;refine Jf (τ:=Int) (λq=>(q,x1)) (λq=>(zFt 0 0 zI q/\0<=q/\(q<=J0 x1.2.2.2.1.2.1\/q<=0))) (λq=>J0 x1.2.2.2.1.2.1-q) ?_ 0 rfl ?_
    ·rintro k ⟨A,P,Z⟩;unfold Jej
     try dsimp only
     have:=J3.1 A;refine .lt (λv=>?_) λv=>?_
     ·refine .bind (Jh h.d.1.2.1) λy6 D=>.ge (λw=>?_) λw=>?_
      ·exact .some trivial
      ·refine .bind (J9p (B:=B) (S:=S) (⟨h,D.1.z.1.1⟩)) λy7 V=>.ite (λx=>?_) λx=>?_
       ·exact .some trivial
       ·have:=Jb k 1;exact .some ⟨J1 .i64 k 1,rfl,⟨J8,om,om⟩,om,om⟩
     ·refine .inr ?_;have:J0 x1.2.2.2.2.1.1<=B:=h.e.1.1.1;have:=J4 (l:=x1.2.2.2.2.1.1);have:J0 x1.2.2.2.2.1.1=_:=Jk h.e.1.1;refine Jf (τ:=Int) (λq=>(q,x1)) (λq=>(zFt 0 0 zI q/\0<=q/\(q<=J0 x1.2.2.2.2.1.1\/q<=0))) (λq=>J0 x1.2.2.2.2.1.1-q) ?_ 0 rfl ?_
      ·rintro n ⟨E,U,R⟩;unfold JdU
       try dsimp only
       have:=J3.1 E;refine .lt (λH=>?_) λH=>?_
       ·refine .bind (Jh h.e.1.1) λy9 O=>.ge (λr=>?_) λr=>?_
        ·exact .some trivial
        ·have:=Jb n 1;exact .some ⟨J1 .i64 n 1,rfl,⟨J8,om,om⟩,om,om⟩
       ·refine .inr ?_;have:J0 x1.2.2.2.2.1.2<=B:=h.e.1.2.1;have:=J4 (l:=x1.2.2.2.2.1.2);have:J0 x1.2.2.2.2.1.2=_:=Jk h.e.1.2;refine Jf (τ:=Int) (λq=>(q,x1)) (λq=>(zFt 0 0 zI q/\0<=q/\(q<=J0 x1.2.2.2.2.1.2\/q<=0))) (λq=>J0 x1.2.2.2.2.1.2-q) ?_ 0 rfl ?_
        ·rintro j ⟨I,Q,M⟩;unfold Jdx
         try dsimp only
         have:=J3.1 I;refine .lt (λG=>?_) λG=>?_
         ·refine .bind (Jh h.e.1.2) λY W=>.ge (λC=>?_) λC=>?_
          ·exact .some trivial
          ·have:=Jb j 1;exact .some ⟨J1 .i64 j 1,rfl,⟨J8,om,om⟩,om,om⟩
         ·exact .some trivial
        ·try dsimp only
         exact⟨fk0,oo,oo⟩
      ·try dsimp only
       exact⟨fk0,oo,oo⟩
    ·try dsimp only
     exact⟨fk0,oo,oo⟩
  ·try dsimp only
   exact⟨fk0,oo,oo⟩
section
variable {B S:Int}
def KOk(x:J6):Prop:=J02 x.2.2.1=some true/\JR x.2.2.2.1=some true/\J1B x.2.2.2.2.1=some true/\J18 x.2.2.2.2.2.1=some true/\J0Q x.2.2.2.2.2.2.1=some true/\J0P (x.2.2.2.2.2.2.2,x.1)=some true/\1<=x.1/\x.1<=64/\1<=x.2.1/\x.2.1<=1073741825/\J0 x.2.2.2.2.2.2.1=x.1
theorem JrG{x:J6}(e:J1T x=some true):KOk x:=by
 have h:Par (J1T x) λy=>y=true->KOk x:=by unfold J1T;refine .ge (λr=>.le (λv=>.ge (λc3=>.le (λB=>.bind λa ha=>.ite (λo=>.bind λb hb=>.ite (λj=>.bind λc hc=>.ite (λk=>.bind λd hd=>.ite (λA=>.bind λf hf=>.ite (λw=>.eq (λz=>.bind λg n=>.some λq=>?_) λ_=>.some nofun) λ_=>.some nofun) λ_=>.some nofun) λ_=>.some nofun) λ_=>.some nofun) λ_=>.some nofun) λ_=>.some nofun) λ_=>.some nofun) λ_=>.some nofun) λ_=>.some nofun;subst o j k A w q;exact⟨ha,hb,hc,hd,hf,n,r,v,c3,B,z⟩
 exact h _ e rfl
theorem J4P{x:J6}(e:Jq x=some true):KOk x:=by
 have g:Par (Jq x) λy=>y=true->KOk x:=by unfold Jq;refine .bind λa ha=>.not (λ_=>.some nofun) λc=>?_;subst c;exact λ_ _ _=>JrG ha
 exact g _ e rfl
theorem KOk.fit{x:J6}(k:KOk x)(h:zFt B S J9 x)(y:BC B S 0 0:=by omega):zFt 4096 8192 J9 x:=by obtain⟨h1,h2,h3,h4,h5,v,j,o⟩:=h;obtain⟨k1,k2,g,w,n,r,e⟩:=k;refine⟨h1,h2,(J27 h3 k1 rfl).2,(J30 h4 k2 rfl).2.u,(J3X h5 g rfl).2.u,(J2X v w rfl).2.u,(J4R j n rfl).2.u,?_,λa ha=>o.2 a ha⟩;have q:=(Jip r e.1 e.2.1).1;show J0 x.2.2.2.2.2.2.2<=4096;omega
theorem J1y{x:J6}{y:Bool}(h:zFt B S J9 x)(e:Jq x=some y)(c:y=true)(A:BC B S 0 0:=by omega):(1<=x.1/\x.1<=64/\J0 x.2.2.2.2.2.2.1=x.1/\1<=x.2.1/\x.2.1<=1073741825/\1<=x.2.2.1.1/\x.2.2.1.1<=1099511627776/\J0 x.2.2.1.2.1<=4096/\x.2.2.1.1-1<=x.2.2.1.2.2/\x.2.2.1.2.2<=x.2.2.1.1+J0 x.2.2.1.2.1-1/\1<=x.2.2.2.1.1/\x.2.2.2.1.1<=64/\J0 x.2.2.2.1.2.1<=x.2.2.2.1.1/\0<=x.2.2.2.1.2.2/\(x.2.2.2.1.2.2<J0 x.2.2.2.1.2.1\/x.2.2.2.1.2.2=0))/\zFt 4096 8192 J9 x:=by subst c;have k:=J4P e;obtain⟨k1,k2,C,F,D,E,r,o,v,g,j⟩:=id k;obtain⟨a1,a2,a3,a4,w⟩:=(J27 h.c.1 k1 rfl).1;obtain⟨b1,b2,q,z,n⟩:=(J30 h.d.1 k2 rfl).1;exact⟨⟨r,o,j,v,g,a1,a2,a3,a4,w,b1,b2,q,z,n⟩,k.fit h⟩
end
theorem JrZ{B S:Int}{x1:J6}(h:zFt B S J9 x1)(v:BG B S:=by omega):Tot (J4T x1) λy=>zFt 8193 8192 JkY y:=by
 unfold J4T;refine .bind ((J1o h).eqn) λx h1=>.not (λn=>?_) λn=>?_
 ·exact .some (⟨fzr,fk0,fkn 15⟩)
 ·have v3:=J1y h h1.2 n;have j:zFt 4096 8192 J9 x1:=v3.2;refine .gt (λo=>?_) λo=>?_
  ·exact .some (⟨fzr,fk0,fkn 21⟩)
  ·have q:zFt 16384 1073741824 tq2 (x1.2.2.2.2.2.1,x1.2.1):=⟨j.g.1.u,j.2.1⟩;refine .bind (JgW q) λw k=>.ne (λr=>?_) λr=>?_
   ·exact .some (⟨fzr,fk0,k.2⟩)
   ·exact .some (⟨⟨j.1,J8,j.c.1.u,j.d.1.u,j.e.1.u,k.1.u,j.h.u⟩,J2f,fk0⟩)
theorem Jrt{B S:Int}{x1:Jt}(h:zFt B S Jl x1)(g:BG B S:=by omega):Tot (J4H x1) λy=>zFt B S JCb y:=by
 unfold J4H;refine .bind (JrZ h.1) λj h1=>.ne (λe=>?_) λe=>?_
 ·exact .some (⟨⟨fzr,Jc,fk0,Jc,trivial,Jc⟩,fk0,h1.c⟩)
 ·exact .some (⟨⟨h1.1.u,h.2⟩,h1.2.1,fk0⟩)
theorem J1U{B S:Int}{x1:J2}(h:zFt B S J5 x1)(g:BS B S 0 0:=by omega):Tot (Jz x1) λy=>zFt 0 0 .b y:=by
 unfold Jz;refine .eqf (λe=>?_) λe=>?_
 ·exact .some trivial
 ·exact .some trivial
theorem J8M{B S:Int}{x1:JO×J2}(h:zFt B S JtR x1)(F:BG B S:=by omega):Tot (J0y x1) λy=>zFt 4097 8192 (.pr JU J0d) y/\(y.2.2=0->J0 y.1.2.1=J0 x1.1.2.1+1/\J0 x1.1.2.1<=4095/\0<=x1.2.2.2.2.2.2.2.1.1/\x1.2.2.2.2.2.2.2.1.1<64/\0<=x1.2.2.2.2.2.2.2.1.2.1/\x1.2.2.2.2.2.2.2.1.2.1<16):=by
 unfold J0y;refine .bind ((J2y h.1).eqn) λI h1=>.not (λr=>?_) λr=>?_
 ·have:J0 x1.1.2.1<=B:=h.1.2.1.1;exact .some ⟨(⟨fzr,fk0,fkn 26⟩),om⟩
 ·have D:=J27 h.1 h1.2 r;have:=J4 (l:=x1.1.2.1);have:J0 x1.1.2.1=_:=Jk h.1.2.1;have e:zFt 4096 8192 JU x1.1:=D.2;refine .eqf (λw=>?_) λw=>?_
  ·refine .bind (J6K e om om om) λG q=>?_;have:=J3.1 q.1;refine .eq (λA=>?_) λA=>?_
   ·have:=J3.1 h.2.z.2.2.2.2.2.2.1.1;exact .some ⟨(⟨fzr,fk0,fkn 21⟩),om⟩
   ·refine .bind (J6K e om om om) λg E=>.bind ((J2Y (B:=0) (S:=S) (x1:=(J1 .i64 g 1,x1.2.2)) (⟨J8,h.2.z.2⟩)).eqn) λH v=>.not (λo=>?_) λo=>?_
    ·have:=J3.1 h.2.z.2.2.2.2.2.2.1.1;exact .some ⟨(⟨fzr,fk0,fkn 12⟩),om⟩
    ·have k:=J2v (x:=(J1 .i64 g 1,x1.2.2)) (⟨J8,h.2.z.2⟩) v.2 o;have:=Jb g 1;have:=J3.1 h.2.z.2.2.2.2.2.2.1.1;have:=J3.1 h.2.z.2.2.2.2.2.2.1.2.1;have:1<=(J1 .i64 g 1)/\(J1 .i64 g 1)<=1099511627776/\0<=x1.2.2.2.1/\x1.2.2.2.1<=1073741824/\0<=x1.2.2.2.2.1/\x1.2.2.2.2.1<(J1 .i64 g 1)/\0<=x1.2.2.2.2.2.1/\x1.2.2.2.2.2.1<(J1 .i64 g 1)/\0<=x1.2.2.2.2.2.2.1/\x1.2.2.2.2.2.2.1<(J1 .i64 g 1)/\0<=x1.2.2.2.2.2.2.2.1.1/\x1.2.2.2.2.2.2.2.1.1<64/\0<=x1.2.2.2.2.2.2.2.1.2.1/\x1.2.2.2.2.2.2.2.1.2.1<16/\J0 x1.2.2.2.2.2.2.2.1.2.2.1.2<=12/\J0 x1.2.2.2.2.2.2.2.1.2.2.2.2<=12/\J0 x1.2.2.2.2.2.2.2.2<=8192:=k.1;have j:zFt 0 8192 J5 (J1 .i64 g 1,x1.2.2):=k.2;refine .clo e.2.1 oo (by decide) ?_;refine .bind (J0x (B:=4097) (Bl:=4096) (Bm:=1) (S:=8192) (J0 x1.1.2.1) 1 e.2.1 (J0j (B:=1) (S:=8192) (t:=J5) oo (j.u))) λC n=>?_;have:J0 C=_:=Jk n.1;exact .some ⟨(⟨⟨e.1,n.1,e.c⟩,j.1,fk0⟩),om⟩
  ·have:=J3.1 h.2.z.2.2.2.2.2.2.1.1;exact .some ⟨(⟨fzr,fk0,fkn 21⟩),om⟩
theorem J4q{B S:Int}{x1:J6z}(h:zFt B S tq8 x1)(o:BC B S 0 0:=by omega):Tot (J0A x1) λy=>zFt 0 8192 JJ0 y:=by
 unfold J0A;refine .bind ((J2y h.1).eqn) λr h1=>.not (λe=>?_) λe=>?_
 ·exact .some (⟨⟨fk0,fk0,fk0,fk0,fk0,fk0,⟨fk0,fk0,⟨trivial,Je⟩,trivial,Je⟩,Je⟩,fkn 26⟩)
 ·have v3:=J27 h.1 h1.2 e;have:=J4 (l:=x1.1.2.1);have:J0 x1.1.2.1=_:=Jk h.1.2.1;have h10:zFt 4096 8192 JU x1.1:=v3.2;refine .ltf (λg=>?_) λg=>?_
  ·refine .bind (J6K h10 om om om) λq n=>.gt (λj=>?_) λj=>?_
   ·exact .some (⟨⟨fk0,fk0,fk0,fk0,fk0,fk0,⟨fk0,fk0,⟨trivial,Je⟩,trivial,Je⟩,Je⟩,fkn 14⟩)
   ·have:=J0o x1.2 x1.1.1;refine .bind (Jh h10.2.1) λv k=>.some (⟨k.1.z,fk0⟩)
  ·exact .some (⟨⟨fk0,fk0,fk0,fk0,fk0,fk0,⟨fk0,fk0,⟨trivial,Je⟩,trivial,Je⟩,Je⟩,fkn 14⟩)
theorem JyC{B S:Int}{x1:(List T_api_Row)×Int×T_api_Row}(h:zFt B S (.pr (.l Jd) (.pr zI Jd)) x1)(p0:0<=x1.2.1)(g:x1.2.1<J0 x1.1)(e:BS B S 0 0:=by omega)(k:B<=34359738368:=by omega):Tot (J7w x1) λy=>zFt B S (.l Jd) y/\(J0 y=J0 x1.1):=by unfold J7w;have:J0 x1.1=_:=Jk h.1;refine .clo h.1 oo (by decide) ?_;refine .bind (J6j (l:=x1.1)) λ_ _=>.bind (Jcb h.1) λn j=>?_;have:J0 (J0B x1.1 (Int.toNat x1.2.1) x1.2.2)=J0 x1.1:=J6x;exact .some ⟨(J4I (t:=Jd) (i:=Int.toNat x1.2.1) (x:=x1.2.2) h.1 h.c),om⟩
theorem J5q{B S:Int}{x1:JB9}(h:zFt B S Jpc x1)(E:BG B S:=by omega):Tot (J1s x1) λy=>zFt 64 0 JBo y:=by
 unfold J1s;refine .bind ((J5V h.1).eqn) λH h1=>.not (λr=>?_) λr=>?_
 ·exact .some (⟨Jc,fkn 28⟩)
 ·have v3:=J4R h.1 h1.2 r;have:J0 x1.1=_:=Jk h.1;have n:zFt 64 0 (.l Jd) x1.1:=v3.2;refine .bind ((J2Y (B:=0) (S:=S) (x1:=x1.2) h.2.z).eqn) λF D=>.not (λj=>?_) λj=>?_
  ·exact .some (⟨Jc,fkn 12⟩)
  ·have A:=J2v (x:=x1.2) h.2.z D.2 j;have k:zFt 0 8192 J5 x1.2:=A.2;refine .ne (λv=>?_) λv=>?_
   ·exact .some (⟨n,fk0⟩)
   ·refine .ge (λo=>?_) λo=>?_
    ·exact .some (⟨Jc,fkn 1⟩)
    ·refine .bind (Jh n) λG e=>.bind (JyC (B:=64) (S:=0) (⟨n,k.h.1.1,J4B e.1.1 k.g.1,e.1.2⟩) om om) λC w=>?_;have q:zFt 64 0 (.l Jd) C:=w.1.u;exact .some (⟨q,fk0⟩)
theorem J3h{B S:Int}{x1:J2C}(h:zFt B S tq2 x1)(g:BS B S 0 0:=by omega)(j:B<=9223372036854775807:=by omega):Tot (J0X x1) λy=>zFt 0 0 zI y/\(-1<=y/\y<J0 x1.1):=by unfold J0X;refine .bind (Ja1 (B:=B) (S:=S) (h)) λe h1=>?_;have: -1<=e/\e<J0 x1.1:=h1.2;exact .some ⟨h1.1,om⟩
theorem JaX{B S:Int}{x1:J2C}(h:zFt B S tq2 x1)(A:BH B S:=by omega)(H:B<=34359738368:=by omega):Tot (J5m x1) λy=>zFt B S (.l Jm) y:=by
 unfold J5m;have:J0 x1.1<=B:=h.1.1;have:=J4 (l:=x1.1);have:J0 x1.1=_:=Jk h.1;refine Jf (τ:=Int×(List Jo)) (λq=>(x1.1,x1.2,q.1,q.2)) (λq=>(zFt 0 0 zI q.1/\0<=q.1/\(q.1<=J0 x1.1\/q.1<=0))/\(zFt B S (.l Jm) q.2/\J0 q.2<=1*q.1+0)) (λq=>J0 x1.1-q.1) ?_ (0,[]) rfl ?_
 ·rintro⟨g,e⟩ n;dsimp only at n;obtain⟨⟨x,C,G⟩,j,D⟩:=n;unfold Jdb
  try dsimp only
  have:=J3.1 x;refine .lt (λw=>?_) λw=>?_
  ·refine .bind (Jh h.1) λE z=>.ne (λo=>?_) λo=>?_
   ·refine .bind (Jh h.1) λF v=>?_;have:J0 e<=B:=j.1;have:J0 e=_:=Jk j;refine .bind (J0x (B:=B) (Bl:=B) (Bm:=B) (S:=S) (J0 e) 1 j (J0j (B:=B) (S:=S) (t:=Jm) oo v.1)) λr k=>?_;have:=Jb g 1;have:J0 r=_:=Jk k.1;exact .some ⟨(J1 .i64 g 1,r),rfl,⟨⟨J8,om,om⟩,k.1,om⟩,om,om⟩
   ·have:=Jb g 1;have:J0 e=_:=Jk j;exact .some ⟨(J1 .i64 g 1,e),rfl,⟨⟨J8,om,om⟩,j,om⟩,om,om⟩
  ·exact .some j
 ·have:J0 ([]:List Jo)=0:=rfl
  try dsimp only
  exact⟨⟨fk0,oo,oo⟩,Jc,oo⟩
theorem J9d{B S:Int}{x1:(List Jo)×Int×Jo}(h:zFt B S (.pr (.l Jm) (.pr zI Jm)) x1)(p0:0<=x1.2.1)(g:x1.2.1<J0 x1.1)(e:BS B S 0 0:=by omega)(k:B<=34359738368:=by omega):Tot (J3k x1) λy=>zFt B S (.l Jm) y/\(J0 y=J0 x1.1):=by unfold J3k;have:J0 x1.1=_:=Jk h.1;refine .clo h.1 oo (by decide) ?_;refine .bind (J6j (l:=x1.1)) λ_ _=>.bind (Jcb h.1) λn j=>?_;have:J0 (J0B x1.1 (Int.toNat x1.2.1) x1.2.2)=J0 x1.1:=J6x;exact .some ⟨(J4I (t:=Jm) (i:=Int.toNat x1.2.1) (x:=x1.2.2) h.1 h.c),om⟩
theorem J8J{B S:Int}{x1:Jo}(h:zFt B S Jm x1)(k:BS B S 0 0:=by omega)(o:B<=9223372036854775807:=by omega):Tot (J2D x1) λy=>zFt B S Jm y:=by
 unfold J2D;refine .eq (λj=>?_) λj=>?_
 ·have:J0 x1.2.2.2.2.1<=B:=h.e.1.1;have:=J4 (l:=x1.2.2.2.2.1);refine .eqf (λc3=>?_) λc3=>?_
  ·have:=J0o (J0 x1.2.2.2.2.1) 1;refine .bind (Jh h.e.1) λq n=>.le (λg=>?_) λg=>?_
   ·exact .some (⟨h.1,fkn 1,h.c.1,fk0,h.e⟩)
   ·exact .some h
  ·exact .some (⟨h.1,fkn 1,h.c.1,fk0,h.e⟩)
 ·exact .some h
theorem J5J{B S:Int}{x1:(List Jo)×J2}(h:zFt B S Jp9 x1)(aq:BG B S:=by omega):Tot (J0C x1) λy=>zFt 16384 1073741824 tq2 y:=by
 unfold J0C;refine .bind ((J3V h.1).eqn) λy2 h1=>.not (λV=>?_) λV=>?_
 ·exact .some (⟨Jc,fkn 15⟩)
 ·have v3:=J2X h.1 h1.2 V;have:J0 x1.1=_:=Jk h.1;have w:zFt 4096 0 (.l Jm) x1.1:=v3.2;refine .bind ((J2Y (B:=0) (S:=S) (x1:=x1.2) h.2.z).eqn) λy3 h9=>.not (λC=>?_) λC=>?_
  ·exact .some (⟨Jc,fkn 12⟩)
  ·have aa:=J2v (x:=x1.2) h.2.z h9.2 C;have o:zFt 0 8192 J5 x1.2:=aa.2;refine .eq (λa6=>?_) λa6=>?_
   ·exact .some (⟨w.u,fk0⟩)
   ·refine .bind (Ja1 (B:=4096) (S:=0) (⟨w,o.c.1⟩)) λF v=>?_;have:=J3.1 v.1;have: -1<=F/\F<J0 x1.1:=v.2;refine .lt (λI=>?_) λI=>?_
    ·exact .some (⟨Jc,fkn 16⟩)
    ·refine .bind (Jh w) λr j=>.ne (λa2=>?_) λa2=>?_
     ·exact .some (⟨Jc,fkn 13⟩)
     ·have:=J3.1 o.2.1;refine .eq (λK=>?_) λK=>?_
      ·refine .clo j.1.e.1 oo (by decide) ?_;have:J0 r.2.2.2.2.1<=4096:=j.1.e.1.1;have:=J4 (l:=r.2.2.2.2.1);refine .bind (J0x (B:=4097) (Bl:=4096) (Bm:=1) (S:=0) (J0 r.2.2.2.2.1) 1 j.1.e.1 (J0j (B:=1) (S:=0) (t:=zI) oo o.1)) λy7 af=>.bind (J8J (B:=4097) (S:=0) (⟨j.1.1,j.1.2.1,o.1,j.1.d.1,af.1,j.1.g.u⟩)) λy8 Z=>?_;have a4:zFt 4097 0 Jm y8:=Z.u;refine .bind (J9d (B:=4097) (S:=0) (⟨w.u,v.1,a4⟩) om om) λy9 a8=>?_;have G:zFt 4097 0 (.l Jm) y9:=a8.1.u;exact .some (⟨G.u,fk0⟩)
      ·refine .eq (λY=>?_) λY=>?_
       ·have:J0 r.2.2.2.2.1<=4096:=j.1.e.1.1;have:=J4 (l:=r.2.2.2.2.1);refine Jf (τ:=Jtb) (λq=>(x1.1,F,q.1,x1.2,(r.1,r.2.1,x1.2.1,r.2.2.2),q.2)) (λq=>(zFt 0 0 zI q.1/\0<=q.1/\(q.1<=J0 r.2.2.2.2.1\/q.1<=0))/\(zFt 4096 0 (.l zI) q.2/\J0 q.2<=1*q.1+0)) (λq=>J0 r.2.2.2.2.1-q.1) ?_ (0,[]) rfl ?_
        ·rintro⟨k,n⟩ D;dsimp only at D;obtain⟨⟨U,al,ap⟩,A,ak⟩:=D;unfold JfQ
         try dsimp only
         have:=J3.1 U;refine .lt (λW=>?_) λW=>?_
         ·refine .bind (Jh j.1.e.1) λao an=>.ne (λab=>?_) λab=>?_
          ·refine .bind (Jh j.1.e.1) λam ac=>?_;have:J0 n<=4096:=A.1;have:=J4 (l:=n);refine .bind (J0x (B:=4096) (Bl:=4096) (Bm:=1) (S:=0) (J0 n) 1 A (J0j (B:=1) (S:=0) (t:=zI) oo ac.1)) λO a9=>?_;have:=Jb k 1;exact .some ⟨(J1 .i64 k 1,O),rfl,⟨⟨J8,om,om⟩,a9.1,om⟩,om,om⟩
          ·have:=Jb k 1;exact .some ⟨(J1 .i64 k 1,n),rfl,⟨⟨J8,om,om⟩,A,om⟩,om,om⟩
         ·refine .inr ?_;refine .eq (λL=>?_) λL=>?_
          ·exact .some (⟨Jc,fkn 13⟩)
          ·refine .bind (J8J (B:=4096) (S:=0) (⟨j.1.1,j.1.2.1,o.1,j.1.d.1,A,j.1.g⟩)) λa3 a0=>?_;have H:zFt 4096 0 Jm a3:=a0.u;refine .bind (J9d (B:=4096) (S:=0) (⟨w,v.1,H⟩) om om) λP ae=>?_;have ad:zFt 4096 0 (.l Jm) P:=ae.1.u;exact .some (⟨ad.u,fk0⟩)
        ·have:J0 ([]:List Int)=0:=rfl
         try dsimp only
         exact⟨⟨fk0,oo,oo⟩,Jc,oo⟩
       ·refine .eq (λQ=>?_) λQ=>?_
        ·refine .bind (J8J (B:=4096) (S:=0) (⟨j.1.1,fkn 3,o.1,fk0,j.1.e.1,Jc⟩)) λa5 a7=>?_;have J:zFt 4096 0 Jm a5:=a7.u;refine .bind (J9d (B:=4096) (S:=0) (⟨w,v.1,J⟩) om om) λR M=>?_;have N:zFt 4096 0 (.l Jm) R:=M.1.u;exact .some (⟨N.u,fk0⟩)
        ·have ag:zFt 16384 1073741824 tq2 (x1.1,x1.2.2.2.1):=⟨w.u,o.c.1⟩;refine .bind (JaX ag) λT a1=>?_;have E:zFt 16384 1073741824 (.l Jm) T:=a1.u;exact .some (⟨E,fk0⟩)
theorem J5E{B S:Int}{x1:J6i}(h:zFt B S tq7 x1)(o:BS B S 0 0:=by omega)(w:B<=9223372036854775807:=by omega):Tot (J1d x1) λy=>zFt 0 0 zI y/\(-1<=y/\y<J0 x1.1.2.1):=by
 unfold J1d;have:J0 x1.1.2.1<=B:=h.1.2.1.1;have:=J4 (l:=x1.1.2.1);have:J0 x1.1.2.1=_:=Jk h.1.2.1;refine Jf (τ:=Int) (λq=>(x1.2,q,x1.1)) (λq=>(zFt 0 0 zI q/\0<=q/\(q<=J0 x1.1.2.1\/q<=0))) (λq=>J0 x1.1.2.1-q) ?_ 0 rfl ?_
 ·rintro e ⟨g,x,v⟩;unfold J6F
  try dsimp only
  have:=J3.1 g;refine .lt (λk=>?_) λk=>?_
  ·refine .bind (Jh h.1.2.1) λr n=>.eq (λj=>?_) λj=>?_
   ·exact .some ⟨g,om⟩
   ·have:=Jb e 1;exact .some ⟨J1 .i64 e 1,rfl,⟨J8,om,om⟩,om,om⟩
  ·exact .some ⟨(fkn (-1)),om⟩
 ·try dsimp only
  exact⟨fk0,oo,oo⟩
theorem J5y{B S:Int}{x1:J6i}(h:zFt B S tq7 x1)(o:BC B S 0 0:=by omega):Tot (J0U x1) λy=>zFt 0 0 zI y/\(-1<=y/\y<J0 x1.1.2.1):=by
 unfold J0U;refine .bind ((J3U h.1).eqn) λq h1=>.not (λg=>?_) λg=>?_
 ·have:J0 x1.1.2.1<=B:=h.1.2.1.1;have:=J4 (l:=x1.1.2.1);have:J0 x1.1.2.1=_:=Jk h.1.2.1;exact .some ⟨(fkn (-1)),om⟩
 ·have n:=J30 h.1 h1.2 g;have j:zFt 64 12 JM x1.1:=n.2;refine .bind (J5E (B:=64) (S:=12) (⟨j,h.2⟩)) λk e=>?_;have: -1<=k/\k<J0 x1.1.2.1:=e.2;exact .some ⟨e.1,om⟩
theorem J9e{B S:Int}{x1:J6i}(h:zFt B S tq7 x1)(k:BC B S 0 0:=by omega):Tot (J2m x1) λy=>zFt 0 S (.pr Ju .b) y:=by
 unfold J2m;refine .bind ((J5y (B:=B) (S:=S) (x1:=(x1.1,x1.2)) (h)).eqn) λe h1=>?_;have:=J3.1 h1.1.1;have:J0 x1.1.2.1=_:=Jk h.1.2.1;have: -1<=e/\e<J0 x1.1.2.1:=h1.1.2;refine .lt (λj=>?_) λj=>?_
 ·exact .some (⟨⟨fk0,fk0,J0i oo oo (.ar 16 JJ)⟩,trivial⟩)
 ·refine .bind (Jh h.1.2.1) λn g=>.some (⟨g.1.z.1,trivial⟩)
theorem J89{B S:Int}{x1:J1G}(h:zFt B S tq1 x1)(z:BG B S:=by omega):Tot (J2U x1) λy=>zFt 0 0 zI y:=by
 unfold J2U;refine .bind ((J1o h.1).eqn) λD h1=>.nof (λn=>?_) λn=>?_
 ·have v3:=J1y h.1 h1.2 n;have:J0 x1.1.2.2.2.2.2.2.1=_:=Jk h.1.h.1;have e:zFt 4096 8192 J9 x1.1:=v3.2;have:=J3.1 h.2;refine .ltf (λw=>?_) λw=>?_
  ·refine .ge (λv=>?_) λv=>?_
   ·exact .some fk0
   ·refine .bind (J9e (B:=4096) (S:=8192) (⟨e.d.1,h.2⟩)) λx r=>?_;have j:zFt 0 8192 (.pr Ju .b) x:=r.u;refine .ite (λg=>?_) λg=>?_
    ·exact .some j.1.2.1
    ·refine .bind (J9p (B:=4096) (S:=8192) (⟨e,h.2⟩)) λC k=>.ite (λq=>?_) λq=>?_
     ·exact .some k.1.c
     ·refine .bind (Jh e.h.1) λA o=>.some o.1.1
  ·exact .some fk0
 ·exact .some fk0
theorem J5e{B S:Int}{x1:JoR}(h:zFt B S JtB x1)(b1:BG B S:=by omega):Tot (J0S x1) λy=>zFt 16384 1073741824 JkY y/\(y.2.2=0->J0 y.1.2.2.1.2.1=J0 x1.1.2.2.1.2.1+1/\J0 x1.1.2.2.1.2.1<=4095/\0<=x1.2.2.2.2.2.2.2.1.1/\x1.2.2.2.2.2.2.2.1.1<64/\0<=x1.2.2.2.2.2.2.2.1.2.1/\x1.2.2.2.2.2.2.2.1.2.1<16):=by
 unfold J0S;refine .bind ((J1o h.1).eqn) λy2 h1=>.not (λc2=>?_) λc2=>?_
 ·have:J0 x1.1.2.2.1.2.1<=B:=h.1.c.1.2.1.1;exact .some ⟨(⟨fzr,fk0,fkn 15⟩),om⟩
 ·have v8:=J1y h.1 h1.2 c2;have:=J4 (l:=x1.1.2.2.1.2.1);have:J0 x1.1.2.2.1.2.1=_:=Jk h.1.c.1.2.1;have j:zFt 4096 8192 J9 x1.1:=v8.2;refine .gt (λao=>?_) λao=>?_
  ·refine .bind ((J3h (B:=4096) (S:=8192) (x1:=(x1.1.2.2.2.2.2.1,x1.2.2.2.1)) (⟨j.g.1,h.2.z.2.2.1⟩)).eqn) λy3 K=>?_;have:=J3.1 K.1.1;have:J0 x1.1.2.2.2.2.2.1=_:=Jk j.g.1;have: -1<=y3/\y3<J0 x1.1.2.2.2.2.2.1:=K.1.2;refine .lt (λap=>?_) λap=>?_
   ·have:=J3.1 h.2.z.2.2.2.2.2.2.1.1;exact .some ⟨(⟨fzr,fk0,fkn 16⟩),om⟩
   ·refine .bind (Jh j.g.1) λy4 w=>.bind (J1U (B:=0) (S:=S) (⟨h.2.z.1,h.2.z.2.1,h.2.z.2.2.1,w.1.c.1,fk0,h.2.z.2.2.2.2.2⟩)) λy5 b2=>.ite (λag=>?_) λag=>?_
    ·have ad:zFt 16384 1073741824 tq1 (x1.1,x1.2.2.2.2.2.2.2.1.1):=⟨j.u,h.2.z.2.2.2.2.2.2.1.1⟩;refine .bind (J89 ad) λy6 aq=>?_;have a5:zFt 16384 S JtR (x1.1.2.2.1,x1.2.1,x1.2.2.1,x1.2.2.2.1,y4.2.2.1,y6,x1.2.2.2.2.2.2):=⟨j.c.1.u,h.2.z.1,h.2.z.2.1,h.2.z.2.2.1,w.1.c.1,aq,h.2.z.2.2.2.2.2.u⟩;refine .bind (J8M a5) λZ q=>?_;have:J0 Z.1.2.1=_:=Jk q.1.1.2.1;have:=J3.1 h.2.z.2.2.2.2.2.2.1.1;have:=J3.1 h.2.z.2.2.2.2.2.2.1.2.1;have:Z.2.2=0->J0 Z.1.2.1=J0 x1.1.2.2.1.2.1+1/\J0 x1.1.2.2.1.2.1<=4095/\0<=x1.2.2.2.2.2.2.2.1.1/\x1.2.2.2.2.2.2.2.1.1<64/\0<=x1.2.2.2.2.2.2.2.1.2.1/\x1.2.2.2.2.2.2.2.1.2.1<16:=q.2;refine .ne (λa9=>?_) λa9=>?_
     ·exact .some ⟨(⟨fzr,fk0,q.1.c⟩),om⟩
     ·refine .bind (J4q (B:=4097) (S:=8192) (⟨q.1.1,q.1.2.1⟩)) λy8 L=>?_;have a8:zFt 16384 1073741824 Jp9 (x1.1.2.2.2.2.2.1,y8.1):=⟨j.g.1.u,L.1.u⟩;refine .bind (J5J a8) λy9 N=>.ne (λan=>?_) λan=>?_
      ·exact .some ⟨(⟨fzr,fk0,N.2⟩),om⟩
      ·have ae:zFt 16384 1073741824 Jpc (x1.1.2.2.2.2.2.2.1,y8.1):=⟨j.h.1.u,L.1.u⟩;refine .bind (J5q ae) λb0 G=>.ne (λak=>?_) λak=>?_
       ·exact .some ⟨(⟨fzr,fk0,G.2⟩),om⟩
       ·exact .some ⟨(⟨⟨j.1,j.2.1,q.1.1.u,j.d.1.u,j.e.1.u,N.1,G.1.u,j.i.u⟩,q.1.2.1,fk0⟩),om⟩
    ·have a6:zFt 16384 S JtR (x1.1.2.2.1,x1.2.1,x1.2.2.1,x1.2.2.2.1,y4.2.2.1,0,x1.2.2.2.2.2.2):=⟨j.c.1.u,h.2.z.1,h.2.z.2.1,h.2.z.2.2.1,w.1.c.1,fk0,h.2.z.2.2.2.2.2.u⟩;refine .bind (J8M a6) λr n=>?_;have:J0 r.1.2.1=_:=Jk n.1.1.2.1;have:=J3.1 h.2.z.2.2.2.2.2.2.1.1;have:=J3.1 h.2.z.2.2.2.2.2.2.1.2.1;have:r.2.2=0->J0 r.1.2.1=J0 x1.1.2.2.1.2.1+1/\J0 x1.1.2.2.1.2.1<=4095/\0<=x1.2.2.2.2.2.2.2.1.1/\x1.2.2.2.2.2.2.2.1.1<64/\0<=x1.2.2.2.2.2.2.2.1.2.1/\x1.2.2.2.2.2.2.2.1.2.1<16:=n.2;refine .ne (λa7=>?_) λa7=>?_
     ·exact .some ⟨(⟨fzr,fk0,n.1.c⟩),om⟩
     ·refine .bind (J4q (B:=4097) (S:=8192) (⟨n.1.1,n.1.2.1⟩)) λF I=>?_;have av:zFt 16384 1073741824 Jp9 (x1.1.2.2.2.2.2.1,F.1):=⟨j.g.1.u,I.1.u⟩;refine .bind (J5J av) λb8 P=>.ne (λah=>?_) λah=>?_
      ·exact .some ⟨(⟨fzr,fk0,P.2⟩),om⟩
      ·have ac:zFt 16384 1073741824 Jpc (x1.1.2.2.2.2.2.2.1,F.1):=⟨j.h.1.u,I.1.u⟩;refine .bind (J5q ac) λb4 M=>.ne (λab=>?_) λab=>?_
       ·exact .some ⟨(⟨fzr,fk0,M.2⟩),om⟩
       ·exact .some ⟨(⟨⟨j.1,j.2.1,n.1.1.u,j.d.1.u,j.e.1.u,P.1,M.1.u,j.i.u⟩,n.1.2.1,fk0⟩),om⟩
  ·refine .bind (J1U (B:=0) (S:=S) (⟨h.2.z.1,h.2.z.2.1,h.2.z.2.2.1,fk0,fk0,h.2.z.2.2.2.2.2⟩)) λb6 b5=>.ite (λai=>?_) λai=>?_
   ·have aj:zFt 16384 1073741824 tq1 (x1.1,x1.2.2.2.2.2.2.2.1.1):=⟨j.u,h.2.z.2.2.2.2.2.2.1.1⟩;refine .bind (J89 aj) λaw am=>?_;have au:zFt 16384 S JtR (x1.1.2.2.1,x1.2.1,x1.2.2.1,x1.2.2.2.1,0,aw,x1.2.2.2.2.2.2):=⟨j.c.1.u,h.2.z.1,h.2.z.2.1,h.2.z.2.2.1,fk0,am,h.2.z.2.2.2.2.2.u⟩;refine .bind (J8M au) λA o=>?_;have:J0 A.1.2.1=_:=Jk o.1.1.2.1;have:=J3.1 h.2.z.2.2.2.2.2.2.1.1;have:=J3.1 h.2.z.2.2.2.2.2.2.1.2.1;have:A.2.2=0->J0 A.1.2.1=J0 x1.1.2.2.1.2.1+1/\J0 x1.1.2.2.1.2.1<=4095/\0<=x1.2.2.2.2.2.2.2.1.1/\x1.2.2.2.2.2.2.2.1.1<64/\0<=x1.2.2.2.2.2.2.2.1.2.1/\x1.2.2.2.2.2.2.2.1.2.1<16:=o.2;refine .ne (λaa=>?_) λaa=>?_
    ·exact .some ⟨(⟨fzr,fk0,o.1.c⟩),om⟩
    ·refine .bind (J4q (B:=4097) (S:=8192) (⟨o.1.1,o.1.2.1⟩)) λH E=>?_;have af:zFt 16384 1073741824 Jp9 (x1.1.2.2.2.2.2.1,H.1):=⟨j.g.1.u,E.1.u⟩;refine .bind (J5J af) λb7 O=>.ne (λal=>?_) λal=>?_
     ·exact .some ⟨(⟨fzr,fk0,O.2⟩),om⟩
     ·have U:zFt 16384 1073741824 Jpc (x1.1.2.2.2.2.2.2.1,H.1):=⟨j.h.1.u,E.1.u⟩;refine .bind (J5q U) λba Q=>.ne (λR=>?_) λR=>?_
      ·exact .some ⟨(⟨fzr,fk0,Q.2⟩),om⟩
      ·exact .some ⟨(⟨⟨j.1,j.2.1,o.1.1.u,j.d.1.u,j.e.1.u,O.1,Q.1.u,j.i.u⟩,o.1.2.1,fk0⟩),om⟩
   ·have a1:zFt 16384 S JtR (x1.1.2.2.1,x1.2.1,x1.2.2.1,x1.2.2.2.1,0,0,x1.2.2.2.2.2.2):=⟨j.c.1.u,h.2.z.1,h.2.z.2.1,h.2.z.2.2.1,fk0,fk0,h.2.z.2.2.2.2.2.u⟩;refine .bind (J8M a1) λC k=>?_;have:J0 C.1.2.1=_:=Jk k.1.1.2.1;have:=J3.1 h.2.z.2.2.2.2.2.2.1.1;have:=J3.1 h.2.z.2.2.2.2.2.2.1.2.1;have:C.2.2=0->J0 C.1.2.1=J0 x1.1.2.2.1.2.1+1/\J0 x1.1.2.2.1.2.1<=4095/\0<=x1.2.2.2.2.2.2.2.1.1/\x1.2.2.2.2.2.2.2.1.1<64/\0<=x1.2.2.2.2.2.2.2.1.2.1/\x1.2.2.2.2.2.2.2.1.2.1<16:=k.2;refine .ne (λV=>?_) λV=>?_
    ·exact .some ⟨(⟨fzr,fk0,k.1.c⟩),om⟩
    ·refine .bind (J4q (B:=4097) (S:=8192) (⟨k.1.1,k.1.2.1⟩)) λJ D=>?_;have W:zFt 16384 1073741824 Jp9 (x1.1.2.2.2.2.2.1,J.1):=⟨j.g.1.u,D.1.u⟩;refine .bind (J5J W) λb9 x=>.ne (λa0=>?_) λa0=>?_
     ·exact .some ⟨(⟨fzr,fk0,x.2⟩),om⟩
     ·have Y:zFt 16384 1073741824 Jpc (x1.1.2.2.2.2.2.2.1,J.1):=⟨j.h.1.u,D.1.u⟩;refine .bind (J5q Y) λb3 v=>.ne (λT=>?_) λT=>?_
      ·exact .some ⟨(⟨fzr,fk0,v.2⟩),om⟩
      ·exact .some ⟨(⟨⟨j.1,j.2.1,k.1.1.u,j.d.1.u,j.e.1.u,x.1,v.1.u,j.i.u⟩,k.1.2.1,fk0⟩),om⟩
section
variable {B S:Int}
theorem JCs{l:List Jo}{i:Int}{x y:Jo}(hi:idx l i=some y)(hx:x.1=y.1)(id:Int):J0X (J0B l i.toNat x,id)=J0X (l,id):=by
 have e: ∀z:JoW,z.1=l-> ∀n r,J2j J2a n z=some r↔J2j J2a n (J0B l i.toNat x,z.2)=some r:=by
  intro z hz n
  induction n generalizing z with
  |zero=>intro r;simp[J2j]
  |succ n ih=>
   intro r;obtain⟨l',id,k⟩:=z;dsimp only at hz;subst hz;obtain⟨B,g⟩:=J0H hi;have A:i.toNat<l'.length:=(J3Z.1 g).1;have step:J2a (J0B l' i.toNat x,id,k)=(match J2a (l',id,k)with|none=>none|some (.inl z)=>some (.inl (J0B l' i.toNat x,z.2))|some (.inr y)=>some (.inr y))/\(∀z,J2a (l',id,k)=some (.inl z)->z.1=l'):=by
    unfold J2a;dsimp only;rw[show J0 (J0B l' i.toNat x)=J0 l' from J6x];by_cases hk:ltI k (J0 l')=true
    ·rw[if_pos hk,if_pos hk];have e1:(idx (J0B l' i.toNat x) k).bind (λq=>if eqI q.1 id=true then(some (.inr k):zOp ((JoW)⊕Int))else some (.inl (J0B l' i.toNat x,id,J1 .i64 k 1)))=(idx l' k).bind (λq=>if eqI q.1 id=true then some (.inr k)else some (.inl (J0B l' i.toNat x,id,J1 .i64 k 1))):=by
      unfold idx J0B;by_cases h:0<=k
      ·rw[if_pos h,if_pos h,List.getElem?_set];by_cases v:i.toNat=k.toNat
       ·rw[if_pos v,if_pos oo,<-v,g];show(if eqI x.1 id=true then _ else _)=(if eqI y.1 id=true then _ else _);rw[hx]
       ·rw[if_neg v]
      ·rw[if_neg h,if_neg h]
     rw[e1];cases hidx:idx l' k with
     |none=>exact⟨rfl,λz h=>by cases h⟩
     |some w=>
      show((if eqI w.1 id=true then _ else _)=_)/\_;by_cases hw:eqI w.1 id=true
      ·refine⟨by rw[if_pos hw,J07,if_pos hw],λz h=>?_⟩;rw[J07,if_pos hw]at h;injection h with h;cases h
      ·refine⟨by rw[if_neg hw,J07,if_neg hw],λz h=>?_⟩;rw[J07,if_neg hw]at h;injection h with h;injection h with h;subst h;rfl
    ·rw[if_neg hk,if_neg hk];exact⟨rfl,λz h=>by cases h⟩
   show J2j J2a (n+1) (l',id,k)=some r↔J2j J2a (n+1) (J0B l' i.toNat x,id,k)=some r;simp only[J2j];rw[step.1];cases hL:J2a (l',id,k)with
   |none=>exact Iff.rfl
   |some o=>
    cases o with
    |inl z=>exact ih z (step.2 z hL) r
    |inr y=>exact Iff.rfl
 have j: ∀r,J1D (J0B l i.toNat x,id)=some r↔J1D (l,id)=some r:=by intro r;unfold J1D;rw[J2J,J2J];exact⟨fun⟨n,h⟩=>⟨n,(e (l,id,0) rfl n r).2 h⟩,fun⟨n,h⟩=>⟨n,(e (l,id,0) rfl n r).1 h⟩⟩
 have e2:J1D (J0B l i.toNat x,id)=J1D (l,id):=by
  cases h:J1D (l,id)with
  |some r=>exact(j r).2 h
  |none=>
   cases h2:J1D (J0B l i.toNat x,id)with
   |none=>rfl
   |some r=>rw[(j r).1 h2]at h;cases h
 unfold J0X
 try dsimp only
 rw[e2]
theorem Joj{x y:Jo}(e:J2D x=some y):y.1=x.1:=by
 have g:Par (J2D x) λy=>y.1=x.1:=by unfold J2D;exact .eq (λ_=>.eqf (λ_=>.bind λ_ _=>.le (λ_=>.some rfl) λ_=>.some rfl) λ_=>.some rfl) λ_=>.some rfl
 exact g _ e
theorem JxP{l r:List Jo}{i:Int}{x:Jo}(e:J3k (l,i,x)=some r):r=J0B l i.toNat x:=by
 have g:Par (J3k (l,i,x)) λr=>r=J0B l i.toNat x:=by
  unfold J3k;refine .bind λa ha=>.bind λ_ _=>.bind λ_ _=>.some ?_;dsimp only at ha;unfold J1J at ha;split at ha
  ·injection ha with ha;subst ha;rfl
  ·cases ha
 exact g _ e
theorem Jxo{l:List Jo}{x:J2}{y:J2C}(e:J0C (l,x)=some y)(h4:x.2.1=4)(j: ¬x.2.2.1=0)(c:y.2=0):Has y.1 x.2.2.1:=by
 have h:Par (J0C (l,x)) λy=>y.2=0->Has y.1 x.2.2.1:=by
  unfold J0C;dsimp only;refine .bind λ_ _=>.not (λ_=>.some nofun) λ_=>.bind λ_ _=>.not (λ_=>.some nofun) λ_=>.eq (λc=>absurd c j) λ_=>.bind λi hi=>.lt (λ_=>.some nofun) λk=>.bind λt g=>.ne (λ_=>.some nofun) λ_=>.eq (λc=>by omega) λ_=>.eq (λc=>by omega) λ_=>.eq (λ_=>.bind λs hs=>.bind λr hr=>.some λ_=>?_) λc=>absurd h4 c;rw[JxP hr];have hf:J0X (l,x.2.2.1)=some i:=by unfold J0X;rw[show J1D ((l,x.2.2.1).1,(l,x.2.2.1).2)=some i from hi];rfl
  exact⟨i,(JCs g (Joj (x:=(t.1,3,x.1,0,t.2.2.2.2.1,[])) hs) _).trans hf,oo⟩
 exact h _ e c
theorem Jf1{l:JO}(e:J02 l=some true):1<=l.1/\l.1<=1099511627776/\J0 l.2.1<=4096:=by
 have g:Par (J02 l) λy=>y=true->1<=l.1/\l.1<=1099511627776/\J0 l.2.1<=4096:=by unfold J02;exact .ltf (λ_=>.gtf (λ_=>.gtf (λ_=>λ_ _ _=>by omega) λ_=>.some nofun) λ_=>.some nofun) λ_=>.some nofun
 exact g _ e rfl
theorem Jbi{l:JO}{x:J2}{y:Jg5}(e:J0y (l,x)=some y)(c:y.2.2=0):J02 l=some true/\J0 l.2.1<=4095/\y=((l.1,l.2.1++[(l.1+J0 l.2.1,x.2)],l.2.2),l.1+J0 l.2.1,0)/\Jx (l.1+J0 l.2.1,x.2)=some true:=by
 have j:Par (J0y (l,x)) λy=>y.2.2=0->J02 l=some true/\J0 l.2.1<=4095/\y=((l.1,l.2.1++[(l.1+J0 l.2.1,x.2)],l.2.2),l.1+J0 l.2.1,0)/\Jx (l.1+J0 l.2.1,x.2)=some true:=by
  unfold J0y;dsimp only;refine .bind λa ha=>.not (λ_=>.some nofun) λw=>.eqf (λC=>.bind λB h3=>.eq (λ_=>.some nofun) λ_=>.bind λk h4=>.bind λb hb=>.not (λ_=>.some nofun) λc3=>.bind λz h=>.bind λn g=>.some λ_=>?_) λ_=>.some nofun;subst w;subst c3;have q:=Jf1 ha;have:=J4 (l:=l.2.1);have:=Jb l.1 (J0 l.2.1);have:=J0o (J1 .i64 l.1 (J0 l.2.1)) 1;have:=Jb (JH .i64 (J1 .i64 l.1 (J0 l.2.1)) 1) 1;have A:k=JH .i64 (J1 .i64 l.1 (J0 l.2.1)) 1:=by unfold J1Y at h4;injection h4 with h4;exact h4.symm
  have o:J1 .i64 k 1=l.1+J0 l.2.1:=by rw[A];omega
  rw[o]at hb g⊢;have v:z=l.2.1:=by
   unfold J1J at h;split at h
   ·injection h with h;exact h.symm
   ·cases h
  subst v;have r:n=l.2.1++[(l.1+J0 l.2.1,x.2)]:=by
   unfold JA at g;split at g
   ·injection g with g;exact g.symm
   ·cases g
  subst r;exact⟨ha,oo,rfl,hb⟩
 exact j _ e c
theorem JjF{l:JO}{n:Int}{y:Je5}(e:J0A (l,n)=some y):(y.2=0/\J02 l=some true/\l.1<=n/\n<l.1+J0 l.2.1/\l.2.1[(n-l.1).toNat]?=some y.1)\/(y.1.1=0/\ ¬y.2=0):=by
 have g:Par (J0A (l,n)) λy=>(y.2=0/\J02 l=some true/\l.1<=n/\n<l.1+J0 l.2.1/\l.2.1[(n-l.1).toNat]?=some y.1)\/(y.1.1=0/\ ¬y.2=0):=by
  unfold J0A;dsimp only;refine .bind λa ha=>.not (λ_=>.some (.inr ⟨rfl,by decide⟩)) λo=>.ltf (λv=>.bind λk h3=>.gt (λ_=>.some (.inr ⟨rfl,by decide⟩)) λc3=>.bind λz hz=>.some ?_) λ_=>.some (.inr ⟨rfl,by decide⟩);subst o;have q:=Jf1 ha;have:=J4 (l:=l.2.1);have:=Jb l.1 (J0 l.2.1);have:=J0o (J1 .i64 l.1 (J0 l.2.1)) 1;have:=J0o n l.1;have w:k=JH .i64 (J1 .i64 l.1 (J0 l.2.1)) 1:=by unfold J1Y at h3;injection h3 with h3;exact h3.symm
  obtain⟨r,h⟩:=J0H hz;have j:JH .i64 n l.1=n-l.1:=by omega
  rw[j]at h;exact .inl ⟨rfl,ha,oo,oo,h⟩
 exact g _ e
theorem Jh1{x:J2}(e:Jx x=some true):1<=x.1/\(x.2.1=4->1<=x.2.2.1):=by
 have k1:Par (J28 x) λy=>y.2=true->x.2.1=4->1<=x.2.2.1:=by unfold J28;refine .eq (λc _ _ _ _=>by omega) λ_=>.eq (λc _ _ _ _=>by omega) λ_=>.eq (λc _ _ _ _=>by omega) λ_=>.eq (λ_=>.ge (λc _ _ _ _=>c) λ_=>.some nofun) λc _ _ _ d=>absurd d c
 have g:Par (Jx x) λy=>y=true->1<=x.1/\(x.2.1=4->1<=x.2.2.1):=by unfold Jx;exact .bind λa ha=>.ite (λj=>.ite (λ_=>.ge (λh _ _ _=>⟨h,k1 _ ha j⟩) λ_=>.some nofun) λ_=>.some nofun) λ_=>.some nofun
 exact g _ e rfl
theorem JlL{l:List Jo}{x:J2}{y:J2C}(e:J0C (l,x)=some y)(c:y.2=0):Jx x=some true:=by
 have g:Par (J0C (l,x)) λy=>y.2=0->Jx x=some true:=by unfold J0C;dsimp only;refine .bind λ_ _=>.not (λ_=>.some nofun) λ_=>.bind λa ha=>.not (λ_=>.some nofun) λc=>?_;subst c;exact λ_ _ _=>ha
 exact g _ e c
theorem JA2{l:JO}{x:J2}{e:Jg5}{h:Je5}{k:List Jo}{j:J2C}(w:J0y (l,x)=some e)(r:e.2.2=0)(q:J0A (e.1,e.2.1)=some h)(o:J0C (k,h.1)=some j)(n:j.2=0):h.1=(l.1+J0 l.2.1,x.2):=by
 obtain⟨a1,a2,a3,a4⟩:=Jbi w r;subst a3;have v:=Jh1 (JlL o n);rcases JjF q with⟨_,_,_,_,g⟩|⟨g,_⟩
 ·dsimp only at g;rw[show(l.1+J0 l.2.1-l.1).toNat=l.2.1.length by unfold J0;omega,JeV (zQ0 _)]at g;simp at g;exact g.symm
 ·omega
theorem JjB{x:JoR}{y:J7b}(h:zFt B S JtB x)(e:J0S x=some y)(c:y.2.2=0)(h4:x.2.2.1=4:=by rfl):Has y.1.2.2.2.2.2.1 x.2.2.2.1:=by
 have I:Par (J0S x) λy=>y.2.2=0->Has y.1.2.2.2.2.2.1 x.2.2.2.1:=by
  obtain⟨k,n,L,H,Q,O,r⟩:=x;dsimp only at h4;subst h4;unfold J0S;dsimp only;have E: ∀{a b:Int} {g:Jg5} {C:Je5} {o:J2C},J0y (k.2.2.1,(n,4,H,a,b,r))=some g->g.2.2=0->J0A (g.1,g.2.1)=some C->J0C (k.2.2.2.2.2.1,C.1)=some o->o.2=0->Has o.1 H:=fun{a b g C o} A z F D q=>by have G:=JA2 A z F D q;have v:=Jh1 (Jbi A z).2.2.2;have v2:=v.2 rfl;have w:=Jxo D (by rw[G]) (by rw[G];show¬H=0;dsimp only at v2;omega) q;rw[G]at w;exact w
  refine .bind λ_ _=>.not (λ_=>.some nofun) λ_=>.gt (λ_=>.bind λj hj=>.lt (λ_=>.some nofun) λ_=>.bind λt P=>.bind λJ _=>.ite (λ_=>.bind λK _=>?_) λ_=>?_) λ_=>.bind λJ _=>.ite (λ_=>.bind λK _=>?_) λ_=>?_
  all_goals
   refine .bind λg A=>.ne (λc=>.some λd=>absurd d c) λz=>.bind λC F=>.bind λo D=>.ne (λc=>.some λd=>absurd d c) λq=>.bind λM _=>.ne (λc=>.some λd=>absurd d c) λN=>.some λ_=>E A z F D q
 exact I _ e c
end
theorem JW{B S:Int}{x1:J0J}(h:zFt B S JB x1)(E:BS B S 0 0:=by omega)(G:S<=4611686018427387895:=by omega):Tot (JN x1) λy=>zFt 0 (S+8) .s y/\(J0 y<=J0 x1.1+8/\(1<=x1.2.2->x1.2.2<=8->J0 y=J0 x1.1+x1.2.2)):=by
 unfold JN;have s0:zFt 0 S JB x1:=h;have:=J3.1 s0.2.2;refine .ltf (λx=>?_) λx=>?_
 ·refine .gt (λc3=>?_) λc3=>?_
  ·have:J0 x1.1<=S:=s0.1;exact .some ⟨(s0.1.u),om⟩
  ·refine Jf (τ:=J4p) (λq=>(q.1,x1.2.1,x1.2.2,q.2)) (λq=>zFt 0 (S+8) .s q.1/\zFt 0 0 zI q.2/\(0<=q.2)/\(q.2<=x1.2.2)/\(J0 q.1=J0 x1.1+q.2)) (λq=>x1.2.2-q.2) ?_ (x1.1,0) rfl ?_
   ·rintro⟨n,e⟩ j;dsimp only at j;obtain⟨r,w,F,z9,A⟩:=j;unfold JbJ
    try dsimp only
    have:=J3.1 w;have:J0 n<=(S+8):=r;have:J0 x1.1<=S:=s0.1;have:=J4 (l:=x1.1);refine .lt (λv=>?_) λv=>?_
    ·have:=cvu .u64 (J2u .i64 8 e);refine .bind (JvC (B:=0) (S:=0) (JbI) oo) λk C=>?_;have:J0 (toStr [cvI .u8 k])=J0 [cvI .u8 k]:=J8p;have:J0 [cvI .u8 k]=1:=rfl;refine .bind (J75) λg z=>?_;have D:zFt 0 (S+9) .s g:=(by omega:J0 g<=(S+9));have o:zFt 0 (S+8) .s g:=(by omega:J0 g<=(S+8));have:=Jb e 1;exact .some ⟨(g,J1 .i64 e 1),rfl,⟨o,J8,om,om,om⟩,om,om⟩
    ·exact .some ⟨r,om⟩
   ·have:J0 x1.1<=S:=s0.1
    try dsimp only
    exact⟨s0.1.u,fk0,om,om,om⟩
 ·have:J0 x1.1<=S:=s0.1;exact .some ⟨(s0.1.u),om⟩
theorem JnD{B S:Int}{x1:List T_api_Row}(h:zFt B S (.l Jd) x1)(T:BC B S 0 0:=by omega):Tot (J4h x1) λy=>zFt 0 1544 JbL y:=by
 unfold J4h;refine .bind ((J5V h).eqn) λY h1=>.not (λH=>?_) λH=>?_
 ·exact .some (⟨Je,fkn 28⟩)
 ·have v3:=J4R h h1.2 H;have:J0 x1=_:=Jk h;have v:zFt 64 0 (.l Jd) x1:=v3.2;refine .bind (JW (B:=0) (S:=0) (⟨Je,J4y v.1 oo,fkn 2⟩)) λn O=>?_;have h10:zFt 0 8 .s n:=O.1.u;have:J0 n<=8:=h10;have:=J4 (l:=n);refine Jf (τ:=J4p) (λq=>(q.1,q.2,x1)) (λq=>(zFt 0 0 zI q.2/\0<=q.2/\(q.2<=J0 x1\/q.2<=0))/\(zFt 0 1544 .s q.1/\J0 q.1<=24*q.2+J0 n)) (λq=>J0 x1-q.2) ?_ (n,0) rfl ?_
  ·rintro⟨k,r⟩ x;dsimp only at x;obtain⟨⟨D,R,Q⟩,o,P⟩:=x;unfold J9F
   try dsimp only
   have:=J3.1 D;refine .lt (λJ=>?_) λJ=>?_
   ·refine .bind (Jh v) λV G=>.bind (JW (B:=0) (S:=1544) (⟨o,G.1.1,fkn 8⟩)) λj w=>?_;have N:zFt 0 1552 .s j:=w.1.u;have:J0 j<=1552:=N;have:=J4 (l:=j);have:J0 k<=1544:=o;have:=J4 (l:=k);have:J0 j<=J0 k+8/\(1<=(8:Int)->(8:Int)<=8->J0 j=J0 k+(8:Int)):=w.2;have I:zFt 0 1544 .s j:=(by omega:J0 j<=1544);refine .bind (Jh v) λU F=>.bind (JW (B:=0) (S:=1544) (⟨I,F.1.2.1,fkn 8⟩)) λg z=>?_;have E:zFt 0 1552 .s g:=z.1.u;have:J0 g<=1552:=E;have:=J4 (l:=g);have:J0 g<=J0 j+8/\(1<=(8:Int)->(8:Int)<=8->J0 g=J0 j+(8:Int)):=z.2;have C:zFt 0 1544 .s g:=(by omega:J0 g<=1544);refine .bind (Jh v) λW M=>.bind (JW (B:=0) (S:=1544) (⟨C,M.1.c,fkn 8⟩)) λe A=>?_;have K:zFt 0 1552 .s e:=A.1.u;have:J0 e<=1552:=K;have:=J4 (l:=e);have:J0 e<=J0 g+8/\(1<=(8:Int)->(8:Int)<=8->J0 e=J0 g+(8:Int)):=A.2;have L:zFt 0 1544 .s e:=(by omega:J0 e<=1544);have:=Jb r 1;exact .some ⟨(e,J1 .i64 r 1),rfl,⟨⟨J8,om,om⟩,L,om⟩,om,om⟩
   ·exact .some (⟨o,fk0⟩)
  ·try dsimp only
   exact⟨⟨fk0,oo,oo⟩,h10.u,oo⟩
theorem Jem{B S:Int}{x1:(List UInt8)×(List Int)}(h:zFt B S (.pr .s (.l zI)) x1)(C:BS B S 0 0:=by omega)(H:B<=288230376151711743:=by omega)(G:S<=2305843009213693947:=by omega):Tot (J6f x1) λy=>zFt 0 (8*B+S) .s y/\(J0 y<=J0 x1.1+8*J0 x1.2):=by
 unfold J6f;have:J0 x1.2<=B:=h.2.1;have:=J4 (l:=x1.2);have:J0 x1.1<=S:=h.1.z;refine Jf (τ:=J4p) (λq=>(q.1,x1.2,q.2)) (λq=>(zFt 0 0 zI q.2/\0<=q.2/\(q.2<=J0 x1.2\/q.2<=0))/\(zFt 0 (8*B+S) .s q.1/\J0 q.1<=8*q.2+J0 x1.1)) (λq=>J0 x1.2-q.2) ?_ (x1.1,0) rfl ?_
 ·rintro⟨g,j⟩ n;dsimp only at n;obtain⟨⟨A,E,D⟩,o,I⟩:=n;unfold Jc3
  try dsimp only
  have:=J3.1 A;refine .lt (λx=>?_) λx=>?_
  ·refine .bind (Jh h.2) λF v=>.bind (JW (B:=0) (S:=(8*B+S)) (⟨o,v.1,fkn 8⟩)) λe k=>?_;have r:zFt 0 (8*B+S+8) .s e:=k.1.u;have:J0 e<=(8*B+S+8):=r;have:J0 e<=J0 g+8/\(1<=(8:Int)->(8:Int)<=8->J0 e=J0 g+(8:Int)):=k.2;have w:zFt 0 (8*B+S) .s e:=(by omega:J0 e<=(8*B+S));have:=Jb j 1;exact .some ⟨(e,J1 .i64 j 1),rfl,⟨⟨J8,om,om⟩,w,om⟩,om,om⟩
  ·have:J0 g<=(8*B+S):=o;exact .some ⟨o,om⟩
 ·try dsimp only
  exact⟨⟨fk0,oo,oo⟩,h.1.z.u,oo⟩
end Go.Am
end
section
namespace Go.Am
set_option linter.unusedVariables false
set_option maxRecDepth 20000
set_option maxHeartbeats 4000000
theorem JnR{B S:Int}{x1:List Jo}(h:zFt B S (.l Jm) x1)(af:BC B S 0 0:=by omega):Tot (J8v x1) λy=>zFt 0 268632072 JbL y:=by
 unfold J8v;refine .bind ((J3V h).eqn) λy2 h1=>.not (λW=>?_) λW=>?_
 ·exact .some (⟨Je,fkn 15⟩)
 ·have v3:=J2X h h1.2 W;have:=J4 (l:=x1);have:J0 x1=_:=Jk h;have h8:zFt 4096 0 (.l Jm) x1:=v3.2;refine .bind (JW (B:=0) (S:=0) (⟨Je,J4y h8.1 oo,fkn 2⟩)) λD h9=>?_;have h10:zFt 0 8 .s D:=h9.1.u;have:J0 D<=8:=h10;have:=J4 (l:=D);refine Jf (τ:=J4p) (λq=>(x1,q.1,q.2)) (λq=>(zFt 0 0 zI q.2/\0<=q.2/\(q.2<=J0 x1\/q.2<=0))/\(zFt 0 268632072 .s q.1/\J0 q.1<=65584*q.2+J0 D)) (λq=>J0 x1-q.2) ?_ (D,0) rfl ?_
  ·rintro⟨A,E⟩ L;dsimp only at L;obtain⟨⟨R,ae,ad⟩,F,ac⟩:=L;unfold Jd9
   try dsimp only
   have:=J3.1 R;refine .lt (λa1=>?_) λa1=>?_
   ·refine .bind (Jh h8) λC j=>.bind (JW (B:=0) (S:=268632072) (⟨F,j.1.1,fkn 4⟩)) λx H=>?_;have aa:zFt 0 268632080 .s x:=H.1.u;have:J0 x<=268632080:=aa;have:=J4 (l:=x);have:J0 A<=268632072:=F;have:=J4 (l:=A);have:J0 x<=J0 A+8/\(1<=(4:Int)->(4:Int)<=8->J0 x=J0 A+(4:Int)):=H.2;have Y:zFt 0 268632072 .s x:=(by omega:J0 x<=268632072);refine .bind (JW (B:=0) (S:=268632072) (⟨Y,j.1.2.1,fkn 1⟩)) λv J=>?_;have a6:zFt 0 268632080 .s v:=J.1.u;have:J0 v<=268632080:=a6;have:=J4 (l:=v);have:J0 v<=J0 x+8/\(1<=(1:Int)->(1:Int)<=8->J0 v=J0 x+(1:Int)):=J.2;have P:zFt 0 268632072 .s v:=(by omega:J0 v<=268632072);refine .bind (JW (B:=0) (S:=268632072) (⟨P,j.1.c.1,fkn 8⟩)) λw G=>?_;have a7:zFt 0 268632080 .s w:=G.1.u;have:J0 w<=268632080:=a7;have:=J4 (l:=w);have:J0 w<=J0 v+8/\(1<=(8:Int)->(8:Int)<=8->J0 w=J0 v+(8:Int)):=G.2;have a5:zFt 0 268632072 .s w:=(by omega:J0 w<=268632072);refine .bind (JW (B:=0) (S:=268632072) (⟨a5,j.1.d.1,fkn 8⟩)) λz K=>?_;have a3:zFt 0 268632080 .s z:=K.1.u;have:J0 z<=268632080:=a3;have:=J4 (l:=z);have:J0 z<=J0 w+8/\(1<=(8:Int)->(8:Int)<=8->J0 z=J0 w+(8:Int)):=K.2;have a4:zFt 0 268632072 .s z:=(by omega:J0 z<=268632072);refine .bind (JW (B:=0) (S:=268632072) (⟨a4,J4y j.1.e.1.1 oo,fkn 2⟩)) λk I=>?_;have a8:zFt 0 268632080 .s k:=I.1.u;have:J0 k<=268632080:=a8;have:=J4 (l:=k);have:J0 k<=J0 z+8/\(1<=(2:Int)->(2:Int)<=8->J0 k=J0 z+(2:Int)):=I.2;have a2:zFt 0 268632072 .s k:=(by omega:J0 k<=268632072);refine .bind (Jem (B:=4096) (S:=268632072) (⟨a2.u,j.1.e.1.u⟩)) λo O=>?_;have Z:zFt 0 268664840 .s o:=O.1.u;have:J0 o<=268664840:=Z;have:=J4 (l:=o);have:J0 C.2.2.2.2.1<=4096:=j.1.e.1.1;have:=J4 (l:=C.2.2.2.2.1);have:J0 o<=J0 k+8*J0 C.2.2.2.2.1:=O.2;have T:zFt 0 268632072 .s o:=(by omega:J0 o<=268632072);refine .bind (JW (B:=0) (S:=268632072) (⟨T,J4y j.1.g.1 oo,fkn 1⟩)) λn N=>?_;have V:zFt 0 268632080 .s n:=N.1.u;have:J0 n<=268632080:=V;have:=J4 (l:=n);have:J0 n<=J0 o+8/\(1<=(1:Int)->(1:Int)<=8->J0 n=J0 o+(1:Int)):=N.2;have U:zFt 0 268632072 .s n:=(by omega:J0 n<=268632072);refine .bind (Jem (B:=4096) (S:=268632072) (⟨U.u,j.1.g.u⟩)) λr M=>?_;have a9:zFt 0 268664840 .s r:=M.1.u;have:J0 r<=268664840:=a9;have:=J4 (l:=r);have:J0 C.2.2.2.2.2<=4096:=j.1.g.1;have:=J4 (l:=C.2.2.2.2.2);have:J0 r<=J0 n+8*J0 C.2.2.2.2.2:=M.2;have Q:zFt 0 268632072 .s r:=(by omega:J0 r<=268632072);have:=Jb E 1;exact .some ⟨(r,J1 .i64 E 1),rfl,⟨⟨J8,om,om⟩,Q,om⟩,om,om⟩
   ·exact .some (⟨F,fk0⟩)
  ·try dsimp only
   exact⟨⟨fk0,oo,oo⟩,h10.u,oo⟩
theorem Jhh{B S:Int}{x1:J0N}(h:zFt B S J1e x1)(K:BG B S:=by omega):Tot (J25 x1) λy=>zFt 0 0 .b y:=by
 unfold J25;refine .ltf (λC=>?_) λC=>?_
 ·refine .gtf (λc3=>?_) λc3=>?_
  ·have:=J3.1 h.2.1;refine .ltf (λE=>?_) λE=>?_
   ·refine .gtf (λD=>?_) λD=>?_
    ·refine .bind ((J3V h.c.1).eqn) λO A=>.nof (λr=>?_) λr=>?_
     ·have v9:=J2X h.c.1 A.2 r;have:=J4 (l:=x1.2.2.1);have:J0 x1.2.2.1=_:=Jk h.c.1;have n:zFt 4096 0 (.l Jm) x1.2.2.1:=v9.2;refine .bind (JbE (B:=B) (S:=S) (⟨h.d.1,h.1⟩)) λL G=>.nof (λz=>?_) λz=>?_
      ·refine .bind ((J5V h.e).eqn) λN w=>.nof (λj=>?_) λj=>?_
       ·have H:=J4R h.e w.2 j;refine .ne (λo=>?_) λo=>?_
        ·exact .some trivial
        ·refine Jf (τ:=Int) (λq=>(q,x1)) (λq=>(zFt 0 0 zI q/\0<=q/\(q<=J0 x1.2.2.1\/q<=0))) (λq=>J0 x1.2.2.1-q) ?_ 0 rfl ?_
         ·rintro g ⟨x,F,I⟩;unfold JdW
          try dsimp only
          have:=J3.1 x;refine .lt (λk=>?_) λk=>?_
          ·refine .bind (Jh n) λM J=>.ge (λv=>?_) λv=>?_
           ·exact .some trivial
           ·have:=Jb g 1;exact .some ⟨J1 .i64 g 1,rfl,⟨J8,om,om⟩,om,om⟩
          ·exact .some trivial
         ·try dsimp only
          exact⟨fk0,oo,oo⟩
       ·exact .some trivial
      ·exact .some trivial
     ·exact .some trivial
    ·exact .some trivial
   ·exact .some trivial
  ·exact .some trivial
 ·exact .some trivial
theorem JoT{B S:Int}{x1:J0N}(h:zFt B S J1e x1)(ad:BH B S:=by omega)(hB:B<=192153584089948094:=by omega):Tot (J48 x1) λy=>zFt 0 (24*B+268633648) JbL y:=by
 unfold J48;refine .bind (Jhh h) λy2 h1=>.not (λc2=>?_) λc2=>?_
 ·exact .some (⟨Je,fkn 24⟩)
 ·refine .bind (JnR h.c.1) λL h3=>.bind (JW (B:=0) (S:=0) (⟨Je,h.1,fkn 2⟩)) λy4 h4=>?_;have h5:zFt 0 8 .s y4:=h4.1.u;refine .bind (JW (B:=0) (S:=8) (⟨h5,h.2.1,fkn 4⟩)) λy5 h9=>?_;have h10:zFt 0 16 .s y5:=h9.1.u;refine .bind (JW (B:=0) (S:=16) (⟨h10,J4y h3.1 oo,fkn 4⟩)) λF J=>?_;have M:zFt 0 24 .s F:=J.1.u;have:J0 F<=24:=M;have:=J4 (l:=F);have:J0 L.1<=268632072:=h3.1;have:=J4 (l:=L.1);refine .bind (J75) λG a5=>?_;have H:zFt 0 268632096 .s G:=(by omega:J0 G<=268632096);refine .bind (JW (B:=0) (S:=268632096) (⟨H,J4y h.d.1.1 oo,fkn 1⟩)) λo P=>?_;have v:zFt 0 268632104 .s o:=P.1.u;have:J0 o<=268632104:=v;have:=J4 (l:=o);have:J0 x1.2.2.2.1<=B:=h.d.1.1;have:=J4 (l:=x1.2.2.2.1);have:J0 x1.2.2.2.1=_:=Jk h.d.1;refine Jf (τ:=J4p) (λq=>(q.1,q.2,x1)) (λq=>(zFt 0 0 zI q.2/\0<=q.2/\(q.2<=J0 x1.2.2.2.1\/q.2<=0))/\(zFt 0 (24*B+268632104) .s q.1/\J0 q.1<=24*q.2+J0 o)) (λq=>J0 x1.2.2.2.1-q.2) ?_ (o,0) rfl ?_
  ·rintro⟨n,r⟩ C;dsimp only at C;obtain⟨⟨a0,a9,a7⟩,w,a8⟩:=C;unfold J9I
   try dsimp only
   have:=J3.1 a0;refine .lt (λY=>?_) λY=>?_
   ·refine .bind (Jh h.d.1) λa6 R=>.bind (JW (B:=0) (S:=(24*B+268632104)) (⟨w,R.1.1,fkn 1⟩)) λj z=>?_;have Q:zFt 0 (24*B+268632112) .s j:=z.1.u;have:J0 j<=(24*B+268632112):=Q;have:J0 j<=J0 n+8/\(1<=(1:Int)->(1:Int)<=8->J0 j=J0 n+(1:Int)):=z.2;have V:zFt 0 (24*B+268632104) .s j:=(by omega:J0 j<=(24*B+268632104));refine .bind (Jh h.d.1) λab U=>.bind (JW (B:=0) (S:=(24*B+268632104)) (⟨V,U.1.2.1,fkn 8⟩)) λg A=>?_;have Z:zFt 0 (24*B+268632112) .s g:=A.1.u;have:J0 g<=(24*B+268632112):=Z;have:J0 g<=J0 j+8/\(1<=(8:Int)->(8:Int)<=8->J0 g=J0 j+(8:Int)):=A.2;have O:zFt 0 (24*B+268632104) .s g:=(by omega:J0 g<=(24*B+268632104));refine .bind (Jh h.d.1) λaa I=>.bind (JW (B:=0) (S:=(24*B+268632104)) (⟨O,I.1.c,fkn 8⟩)) λk E=>?_;have K:zFt 0 (24*B+268632112) .s k:=E.1.u;have:J0 k<=(24*B+268632112):=K;have:J0 k<=J0 g+8/\(1<=(8:Int)->(8:Int)<=8->J0 k=J0 g+(8:Int)):=E.2;have N:zFt 0 (24*B+268632104) .s k:=(by omega:J0 k<=(24*B+268632104));have:=Jb r 1;exact .some ⟨(k,J1 .i64 r 1),rfl,⟨⟨J8,om,om⟩,N,om⟩,om,om⟩
   ·refine .inr ?_;refine .bind (JnD h.e) λD W=>?_;have:J0 n<=(24*B+268632104):=w;have:=J4 (l:=n);have:J0 D.1<=1544:=W.1;have:=J4 (l:=D.1);refine .bind (J75) λx ac=>?_;have T:zFt 0 (24*B+268633648) .s x:=(by omega:J0 x<=(24*B+268633648));exact .some (⟨T,fk0⟩)
  ·try dsimp only
   exact⟨⟨fk0,oo,oo⟩,v.u,oo⟩
theorem JgV{B S:Int}{x1:JG}(h:zFt B S JM x1)(K:BC B S 0 0:=by omega):Tot (J3s x1) λy=>zFt 64 0 (.l Jd) y:=by
 unfold J3s;refine .bind ((J3U h).eqn) λO h1=>.not (λx=>?_) λx=>?_
 ·exact .some Jc
 ·have v3:=J30 h h1.2 x;have:J0 x1.2.1=_:=Jk h.2.1;have h10:zFt 64 12 JM x1:=v3.2;refine Jf (τ:=Jeu) (λq=>(q.1,x1,q.2)) (λq=>(zFt 0 0 zI q.1/\0<=q.1/\(q.1<=64\/q.1<=0))/\(zFt 64 0 (.l Jd) q.2/\J0 q.2<=1*q.1+0)) (λq=>64-q.1) ?_ (0,[]) rfl ?_
  ·rintro⟨g,e⟩ n;dsimp only at n;obtain⟨⟨k,I,H⟩,j,J⟩:=n;unfold Jab
   try dsimp only
   have:=J3.1 k;refine .lt (λv=>?_) λv=>?_
   ·refine .bind (J5E (B:=64) (S:=12) (⟨h10,k⟩)) λD F=>?_;have: -1<=D/\D<J0 x1.2.1:=F.2;refine .ge (λE=>?_) λE=>?_
    ·refine .bind (Jh h10.2.1) λM G=>.ite (λC=>?_) λC=>?_
     ·refine .bind (Jh h10.2.1) λN A=>.bind (Jh h10.2.1) λL r=>?_;have:J0 e<=64:=j.1;have:=J4 (l:=e);have:J0 e=_:=Jk j;refine .bind (J0x (B:=64) (Bl:=64) (Bm:=1) (S:=0) (J0 e) 1 j (J0j (B:=1) (S:=0) (t:=Jd) oo (⟨k,A.1.z.2.2.1,r.1.z.1.2.1⟩))) λw o=>?_;have:=Jb g 1;have:J0 w=_:=Jk o.1;exact .some ⟨(J1 .i64 g 1,w),rfl,⟨⟨J8,om,om⟩,o.1,om⟩,om,om⟩
     ·have:=Jb g 1;have:J0 e=_:=Jk j;exact .some ⟨(J1 .i64 g 1,e),rfl,⟨⟨J8,om,om⟩,j,om⟩,om,om⟩
    ·have:=Jb g 1;have:J0 e=_:=Jk j;exact .some ⟨(J1 .i64 g 1,e),rfl,⟨⟨J8,om,om⟩,j,om⟩,om,om⟩
   ·exact .some j
  ·have:J0 ([]:List T_api_Row)=0:=rfl
   try dsimp only
   exact⟨⟨fk0,oo,oo⟩,Jc,oo⟩
theorem JB3{B S:Int}{x1:J6}(h:zFt B S J9 x1)(ac:BG B S:=by omega):Tot (J78 x1) λy=>zFt 4160 8192 (.pr J1e zI) y:=by
 unfold J78;refine .bind ((J1o h).eqn) λy2 h1=>.not (λY=>?_) λY=>?_
 ·exact .some (⟨fzr,fkn 15⟩)
 ·have v3:=J1y h h1.2 Y;have:J0 x1.2.2.2.2.2.2.1=_:=Jk h.h.1;have x:zFt 4096 8192 J9 x1:=v3.2;refine Jf (τ:=Jeu) (λq=>(q.1,x1,[],0,0,[],[],q.2,[],x1.1,x1.2.1,x1.2.2.2.2.2.1,x1.2.2.2.2.2.2.1)) (λq=>(zFt 0 0 zI q.1/\0<=q.1/\(q.1<=x1.1\/q.1<=0))/\(zFt 4160 0 (.l Jd) q.2/\J0 q.2<=65*q.1+0)) (λq=>x1.1-q.1) ?_ (0,[]) rfl ?_
  ·rintro⟨n,k⟩ F;dsimp only at F;obtain⟨⟨J,a4,a9⟩,z,a3⟩:=F;unfold JcN
   try dsimp only
   have:=J3.1 J;refine .lt (λQ=>?_) λQ=>?_
   ·refine .bind (J9p (B:=4096) (S:=8192) (⟨x,J⟩)) λy4 V=>.ite (λO=>?_) λO=>?_
    ·have:J0 k<=4160:=z.1;have:=J4 (l:=k);have:J0 k=_:=Jk z;refine .bind (J0x (B:=4160) (Bl:=4160) (Bm:=1) (S:=0) (J0 k) 1 z (J0j (B:=1) (S:=0) (t:=Jd) oo V.1)) λN I=>.bind (JgV x.d.1) λC E=>?_;have:J0 C<=64:=E.1;have:=J4 (l:=C);have:J0 C=_:=Jk E;have:J0 N=_:=Jk I.1;refine Jf (τ:=Jeu) (λq=>(n,C,J0 C,q.1,x1,[],0,0,[],[],q.2,[],x1.1,x1.2.1,x1.2.2.2.2.2.1,x1.2.2.2.2.2.2.1)) (λq=>(zFt 0 0 zI q.1/\0<=q.1/\(q.1<=J0 C\/q.1<=0))/\(zFt 4160 0 (.l Jd) q.2/\J0 q.2<=1*q.1+J0 N)) (λq=>J0 C-q.1) ?_ (0,N) rfl ?_
     ·rintro⟨A,j⟩ L;dsimp only at L;obtain⟨⟨W,a7,a5⟩,w,aa⟩:=L;unfold J8h
      try dsimp only
      have:=J3.1 W;refine .lt (λR=>?_) λR=>?_
      ·refine .bind (Jh E) λy8 a1=>.eq (λZ=>?_) λZ=>?_
       ·have:J0 j<=4160:=w.1;have:=J4 (l:=j);have:J0 j=_:=Jk w;refine .bind (J0x (B:=4160) (Bl:=4160) (Bm:=1) (S:=0) (J0 j) 1 w (J0j (B:=1) (S:=0) (t:=Jd) oo a1.1)) λy9 M=>?_;have:=Jb A 1;have:J0 y9=_:=Jk M.1;exact .some ⟨(J1 .i64 A 1,y9),rfl,⟨⟨J8,om,om⟩,M.1,om⟩,om,om⟩
       ·have:=Jb A 1;have:J0 j=_:=Jk w;exact .some ⟨(J1 .i64 A 1,j),rfl,⟨⟨J8,om,om⟩,w,om⟩,om,om⟩
      ·have:=Jb n 1;have:J0 j=_:=Jk w;exact .some ⟨(J1 .i64 n 1,j),rfl,⟨⟨J8,om,om⟩,w,om⟩,om,om⟩
     ·try dsimp only
      exact⟨⟨fk0,oo,oo⟩,I.1,oo⟩
    ·refine .bind (JgV x.d.1) λr D=>?_;have:J0 r<=64:=D.1;have:=J4 (l:=r);have:J0 r=_:=Jk D;have:J0 k=_:=Jk z;refine Jf (τ:=Jeu) (λq=>(n,r,J0 r,q.1,x1,[],0,0,[],[],q.2,[],x1.1,x1.2.1,x1.2.2.2.2.2.1,x1.2.2.2.2.2.2.1)) (λq=>(zFt 0 0 zI q.1/\0<=q.1/\(q.1<=J0 r\/q.1<=0))/\(zFt 4160 0 (.l Jd) q.2/\J0 q.2<=1*q.1+J0 k)) (λq=>J0 r-q.1) ?_ (0,k) rfl ?_
     ·rintro⟨o,e⟩ G;dsimp only at G;obtain⟨⟨a2,ad,a8⟩,v,ab⟩:=G;unfold JcW
      try dsimp only
      have:=J3.1 a2;refine .lt (λP=>?_) λP=>?_
      ·refine .bind (Jh D) λa6 U=>.eq (λT=>?_) λT=>?_
       ·have:J0 e<=4160:=v.1;have:=J4 (l:=e);have:J0 e=_:=Jk v;refine .bind (J0x (B:=4160) (Bl:=4160) (Bm:=1) (S:=0) (J0 e) 1 v (J0j (B:=1) (S:=0) (t:=Jd) oo U.1)) λH K=>?_;have:=Jb o 1;have:J0 H=_:=Jk K.1;exact .some ⟨(J1 .i64 o 1,H),rfl,⟨⟨J8,om,om⟩,K.1,om⟩,om,om⟩
       ·have:=Jb o 1;have:J0 e=_:=Jk v;exact .some ⟨(J1 .i64 o 1,e),rfl,⟨⟨J8,om,om⟩,v,om⟩,om,om⟩
      ·have:=Jb n 1;have:J0 e=_:=Jk v;exact .some ⟨(J1 .i64 n 1,e),rfl,⟨⟨J8,om,om⟩,v,om⟩,om,om⟩
     ·try dsimp only
      exact⟨⟨fk0,oo,oo⟩,z,oo⟩
   ·exact .some (⟨⟨x.1,x.2.1,x.g.1.u,z.u,x.h.1.u⟩,fk0⟩)
  ·have:J0 ([]:List T_api_Row)=0:=rfl
   try dsimp only
   exact⟨⟨fk0,oo,oo⟩,Jc,oo⟩
theorem Ju9{B S:Int}{x1:J6}(h:zFt B S J9 x1)(r:BG B S:=by omega):Tot (J5K x1) λy=>zFt 16384 1073741824 JkY y:=by
 unfold J5K;refine .bind (JB3 h) λq h1=>.ne (λn=>?_) λn=>?_
 ·exact .some (⟨fzr,fk0,h1.2⟩)
 ·have h5:zFt 16384 1073741824 J1e q.1:=h1.1.u;refine .bind (JoT h5) λe h4=>?_;have o:zFt 0 269026864 JbL e:=h4.u;refine .gt (λk=>?_) λk=>?_
  ·exact .some (⟨fzr,fk0,fkn 21⟩)
  ·refine .bind ((J5e (B:=B) (S:=S) (x1:=(x1,0,6,0,0,0,0,(0,0,(false,[]),false,[]),e.1)) (⟨h,fk0,fkn 6,fk0,fk0,fk0,fk0,⟨fk0,fk0,⟨trivial,Je⟩,trivial,Je⟩,o.1.u⟩)).eqn) λw h10=>.ne (λj=>?_) λj=>?_
   ·exact .some (⟨fzr,fk0,h10.1.1.c⟩)
   ·refine .bind (J9s (B:=16384) (S:=1073741824) (⟨h10.1.1.1.c.1,h10.1.1.2.1⟩)) λv g=>.some (⟨⟨h10.1.1.1.1,h10.1.1.1.2.1,g.1.1.u,h10.1.1.1.d⟩,h10.1.1.2.1,fk0⟩)
theorem JiH{B S:Int}{x1:Jt}(h:zFt B S Jl x1)(g:BG B S:=by omega):Tot (J2T x1) λy=>zFt B S JCb y:=by
 unfold J2T;refine .bind (Ju9 h.1) λj h1=>.ne (λe=>?_) λe=>?_
 ·exact .some (⟨⟨fzr,Jc,fk0,Jc,trivial,Jc⟩,fk0,h1.c⟩)
 ·exact .some (⟨⟨h1.1.u,h.2⟩,h1.2.1,fk0⟩)
theorem J9u{B S:Int}{x1:J1G}(h:zFt B S tq1 x1)(j:BG B S:=by omega):Tot (J1x x1) λy=>zFt B S J9 y/\(J0 y.2.2.1.2.1=J0 x1.1.2.2.1.2.1):=by
 unfold J1x;refine .bind (J8q h.1.c.1) λk h1=>.bind (J9s (B:=B) (S:=S) (⟨h.1.c.1,JHm h.2 h1⟩)) λe h2=>?_;have:J0 e.1.2.1=_:=Jk h2.1.1.2.1;have:J0 x1.1.2.2.1.2.1=_:=Jk h.1.c.1.2.1;have:e.2=0->J0 e.1.2.1=J0 x1.1.2.2.1.2.1:=h2.2;refine .eq (λg=>?_) λg=>?_
 ·exact .some ⟨(⟨h.1.1,h.1.2.1,h2.1.1.u,h.1.d⟩),om⟩
 ·exact .some ⟨h.1,om⟩
theorem JsH{B S:Int}{x1:J1G}(h:zFt B S tq1 x1)(z:BG B S:=by omega):Tot (J32 x1) λy=>zFt 16384 1073741824 (.pr J9 tq5) y/\(y.2.2=0->J0 y.1.2.2.1.2.1=J0 x1.1.2.2.1.2.1):=by
 unfold J32;refine .bind ((J1o h.1).eqn) λA h1=>.not (λv=>?_) λv=>?_
 ·have:J0 x1.1.2.2.1.2.1<=B:=h.1.c.1.2.1.1;exact .some ⟨(⟨fzr,⟨fk0,fk0,J0i oo oo (.ar 16 JJ)⟩,fkn 15⟩),om⟩
 ·have x:=J1y h.1 h1.2 v;have:J0 x1.1.2.2.1.2.1=_:=Jk h.1.c.1.2.1;have k:zFt 4096 8192 J9 x1.1:=x.2;refine .bind (J9e (B:=4096) (S:=8192) (⟨k.d.1,h.2⟩)) λq w=>?_;have e:zFt 0 8192 (.pr Ju .b) q:=w.u;refine .not (λo=>?_) λo=>?_
  ·exact .some ⟨(⟨fzr,⟨fk0,fk0,J0i oo oo (.ar 16 JJ)⟩,fkn 18⟩),om⟩
  ·have r:zFt 16384 1073741824 tq1 (x1.1,q.1.2.1):=⟨k.u,e.1.2.1⟩;refine .bind (J9u r) λn g=>?_;have j:zFt 16384 1073741824 J9 n:=g.1.u;have:J0 n.2.2.1.2.1=_:=Jk j.c.1.2.1;have:J0 n.2.2.1.2.1=J0 x1.1.2.2.1.2.1:=g.2;exact .some ⟨(⟨j,e.1.u,fk0⟩),om⟩
section
variable {B S:Int}
theorem JAA{x:J1G}{y:JFY}(h:zFt B S tq1 x)(e:J32 x=some y)(c:y.2.2=0):InP x.1.2.2.2.1 x.2:=by
 have g:Par (J32 x) λy=>y.2.2=0->InP x.1.2.2.2.1 x.2:=by unfold J32;refine .bind λa ha=>.not (λ_=>.some nofun) λ_=>.bind λb hb=>.not (λ_=>.some nofun) λc=>.bind λd hd=>.some λ_=>(JeG hb).1 c
 exact g _ e c
end
theorem Jbp{B S:Int}{x1:List UInt8}(h:zFt B S .s x1)(K:BS B S 0 0:=by omega)(P:S<=9223372036854775807:=by omega):Tot (J3o x1) λy=>zFt 0 0 (.i .u32) y:=by
 unfold J3o;have:J0 x1<=S:=h.z;have:=J4 (l:=x1);refine Jf (τ:=Int×Int) (λq=>(x1,q.1,q.2)) (λq=>(zFt 0 0 zI q.2/\0<=q.2/\(q.2<=J0 x1\/q.2<=0))/\zFt 0 0 (.i .u32) q.1) (λq=>J0 x1-q.2) ?_ (4294967295,0) rfl ?_
 ·rintro⟨r,g⟩ o;dsimp only at o;obtain⟨⟨G,N,M⟩,O⟩:=o;unfold Jc1
  try dsimp only
  have:=J3.1 G;refine .lt (λC=>?_) λC=>?_
  ·refine .bind (JBe (l:=x1)) λD I=>Jf (τ:=Int×Int) (λq=>(x1,q.1,g,q.2)) (λq=>(zFt 0 0 zI q.2/\0<=q.2/\(q.2<=8\/q.2<=0))/\zFt 0 0 (.i .u32) q.1) (λq=>8-q.2) ?_ (JeP .u32 r (cvI .u32 D),0) rfl ?_
   ·rintro⟨k,e⟩ n;dsimp only at n;obtain⟨⟨v,J,H⟩,j⟩:=n;unfold JbT
    try dsimp only
    have:=J3.1 v;refine .lt (λx=>?_) λx=>?_
    ·have:=JLa k 1;refine .eq (λA=>?_) λA=>?_
     ·refine .bind (JvC j oo) λE L=>?_;have:=Jb e 1;exact .some ⟨(JeP .u32 E 2197175160,J1 .i64 e 1),rfl,⟨⟨J8,om,om⟩,Jzo⟩,om,om⟩
     ·refine .bind (JvC j oo) λF w=>?_;have:=Jb e 1;exact .some ⟨(F,J1 .i64 e 1),rfl,⟨⟨J8,om,om⟩,w⟩,om,om⟩
    ·have:=Jb g 1;exact .some ⟨(k,J1 .i64 g 1),rfl,⟨⟨J8,om,om⟩,j⟩,om,om⟩
   ·try dsimp only
    exact⟨⟨fk0,oo,oo⟩,Jzo⟩
  ·exact .some JIc
 ·try dsimp only
  exact⟨⟨fk0,oo,oo⟩,J58 .u32 4294967295⟩
theorem J7p{B S:Int}{x1:JT}(h:zFt B S Ju x1)(j:BS B S 0 0:=by omega):Tot (J2x x1) λy=>zFt 0 0 zI y:=by
 unfold J2x;have s0:zFt 0 S Ju x1:=h;refine .bind (Jeg (B:=0) (S:=S) s0) λn h1=>.not (λe=>?_) λe=>?_
 ·exact .some (fkn 1)
 ·refine .bind (Jh9 (B:=0) (S:=S) s0) λk h3=>.not (λg=>?_) λg=>?_
  ·exact .some (fkn 22)
  ·exact .some fk0
theorem J9q{B S x1:Int}(h:zFt B S zI x1)(p0:0<=x1)(j:x1<=1000000)(g:BS B S 0 0:=by omega):Tot (J4V x1) λy=>zFt 0 1000000 .s y/\(J0 y=x1):=by unfold J4V;refine .bind (Jum (t:=(.i .u8)) (B:=1000000) (S:=0) (J58 .u8 0)) λe h2=>?_;have:J0 (toStr e)=J0 e:=J8p;exact .some ⟨(Jew (B:=0) (S:=1000000) h2.1.1),om⟩
theorem Jb7{B S:Int}{x1:JT}(h:zFt B S Ju x1)(aj:BS B S 0 0:=by omega):Tot (J5g x1) λy=>zFt 0 1000416 JbL y:=by
 unfold J5g;have s0:zFt 0 S Ju x1:=h;refine .bind ((J7p (B:=0) (S:=S) (x1:=x1) s0).eqn) λy2 h1=>.ne (λV=>?_) λV=>?_
 ·exact .some (⟨Je,h1.1⟩)
 ·have v4:=J7v (x:=x1) s0 h1.2 V;have F:zFt 0 12 Ju x1:=v4.2;refine .bind (JW (B:=0) (S:=0) (⟨Je,F.2.1,fkn 8⟩)) λv h9=>?_;have h10:zFt 0 8 .s v:=h9.1.u;have:J0 v<=8:=h10;have:=J4 (l:=v);have:J0 v<=0+8/\(1<=(8:Int)->(8:Int)<=8->J0 v=0+(8:Int)):=h9.2;refine .bind (JW (B:=0) (S:=8) (⟨h10,F.1,fkn 4⟩)) λC G=>?_;have I:zFt 0 16 .s C:=G.1.u;have:J0 C<=16:=I;have:=J4 (l:=C);have:J0 C<=J0 v+8/\(1<=(4:Int)->(4:Int)<=8->J0 C=J0 v+(4:Int)):=G.2;refine Jf (τ:=J4p) (λq=>(q.1,q.2,x1)) (λq=>zFt 0 400 .s q.1/\zFt 0 0 zI q.2/\(0<=q.2)/\(q.2<=16)/\(J0 q.1=12+13*q.2)) (λq=>16-q.2) ?_ (C,0) rfl ?_
  ·rintro⟨e,n⟩ D;dsimp only at D;obtain⟨E,ad,ah,z22,ae⟩:=D;unfold Jdj
   try dsimp only
   have:J0 e<=400:=E;have:=J4 (l:=e);refine .lt (λa4=>?_) λa4=>?_
   ·refine .bind (J7k) λ_ _=>.bind ((Jcd F.c).eqn) λA g=>.ite (λU=>?_) λU=>?_
    ·refine .bind (J7k) λ_ _=>.same g.2 ?_;refine .bind (JW (B:=0) (S:=400) (⟨E,J4y g.1.2 oo,fkn 1⟩)) λo M=>?_;have a6:zFt 0 408 .s o:=M.1.u;have:J0 o<=408:=a6;have:=J4 (l:=o);have:J0 o<=J0 e+8/\(1<=(1:Int)->(1:Int)<=8->J0 o=J0 e+(1:Int)):=M.2;refine .bind (J7k) λ_ _=>.same g.2 ?_;refine .bind (J7k) λ_ _=>.same g.2 ?_;have:J0 A.2<=12:=g.1.2;have:=J4 (l:=A.2);have:=JnF 12 (J0 A.2);refine .bind (J9q J2f om om) λJ Y=>?_;have:J0 J<=1000000:=Y.1;have:=J4 (l:=J);refine .bind (J75) λz ak=>?_;have a8:zFt 0 1000012 .s z:=(by omega:J0 z<=1000012);have:J0 z<=1000012:=a8;have:=J4 (l:=z);refine .bind (J75) λk al=>?_;have W:zFt 0 1000420 .s k:=(by omega:J0 k<=1000420);have:J0 k<=1000420:=W;have:=J4 (l:=k);have T:zFt 0 400 .s k:=(by omega:J0 k<=400);have:=Jdn n 1;exact .some ⟨(k,J1 .i64 n 1),rfl,⟨T,J8,om,om,om⟩,om,om⟩
    ·refine .bind (JW (B:=0) (S:=400) (⟨E,fkn 255,fkn 1⟩)) λr H=>?_;have a9:zFt 0 408 .s r:=H.1.u;have:J0 r<=408:=a9;have:=J4 (l:=r);have:J0 r<=J0 e+8/\(1<=(1:Int)->(1:Int)<=8->J0 r=J0 e+(1:Int)):=H.2;refine .bind (J7k) λ_ _=>.same g.2 ?_;refine .bind (J7k) λ_ _=>.same g.2 ?_;have:J0 A.2<=12:=g.1.2;have:=J4 (l:=A.2);have:=JnF 12 (J0 A.2);refine .bind (J9q J2f om om) λK R=>?_;have:J0 K<=1000000:=R.1;have:=J4 (l:=K);refine .bind (J75) λw ai=>?_;have a1:zFt 0 1000012 .s w:=(by omega:J0 w<=1000012);have:J0 w<=1000012:=a1;have:=J4 (l:=w);refine .bind (J75) λj ac=>?_;have a2:zFt 0 1000420 .s j:=(by omega:J0 j<=1000420);have:J0 j<=1000420:=a2;have:=J4 (l:=j);have a3:zFt 0 400 .s j:=(by omega:J0 j<=400);have:=Jdn n 1;exact .some ⟨(j,J1 .i64 n 1),rfl,⟨a3,J8,om,om,om⟩,om,om⟩
   ·refine .inr ?_;have:=JnF 244 (J0 e);refine .bind (J9q J2f om om) λL a0=>?_;have:J0 L<=1000000:=a0.1;have:=J4 (l:=L);refine .bind (J75) λO ag=>?_;have N:zFt 0 1000400 .s O:=(by omega:J0 O<=1000400);refine .bind (Jbp N) λam af=>.bind (JW (B:=0) (S:=1000400) (⟨N,JbI,fkn 4⟩)) λaa Z=>?_;have ab:zFt 0 1000408 .s aa:=Z.1.u;refine .bind (JW (B:=0) (S:=1000408) (⟨ab,F.2.1,fkn 8⟩)) λa5 Q=>?_;have P:zFt 0 1000416 .s a5:=Q.1.u;exact .some (⟨P,fk0⟩)
  ·try dsimp only
   exact⟨I.u,fk0,om,om,om⟩
theorem Jm1{B S:Int}{x1:J9z}(h:zFt B S JFW x1)(A:BS B S 0 0:=by omega)(G:B<=34359738367:=by omega):Tot (J63 x1) λy=>zFt (B+1) 0 (.l zI) y:=by
 unfold J63;have:J0 x1.1<=B:=h.1.1;have:=J4 (l:=x1.1);refine Jf (τ:=Jtb) (λq=>(x1.1,x1.2,q.1,q.2)) (λq=>(zFt 0 0 zI q.1/\0<=q.1/\(q.1<=J0 x1.1\/q.1<=0))/\(zFt (B+1) 0 (.l zI) q.2/\J0 q.2<=1*q.1+0)) (λq=>J0 x1.1-q.1) ?_ (0,[]) rfl ?_
 ·rintro⟨e,g⟩ k;dsimp only at k;obtain⟨⟨x,H,C⟩,j,D⟩:=k;unfold Jc4
  try dsimp only
  have:=J3.1 x;refine .lt (λv=>?_) λv=>?_
  ·refine .bind (Jh h.1) λE z=>.ne (λr=>?_) λr=>?_
   ·refine .bind (Jh h.1) λF o=>?_;have:J0 g<=(B+1):=j.1;refine .bind (J0x (B:=(B+1)) (Bl:=(B+1)) (Bm:=1) (S:=0) (J0 g) 1 j (J0j (B:=1) (S:=0) (t:=zI) oo o.1)) λw n=>?_;have:=Jb e 1;exact .some ⟨(J1 .i64 e 1,w),rfl,⟨⟨J8,om,om⟩,n.1,om⟩,om,om⟩
   ·have:=Jb e 1;exact .some ⟨(J1 .i64 e 1,g),rfl,⟨⟨J8,om,om⟩,j,om⟩,om,om⟩
  ·exact .some j
 ·have:J0 ([]:List Int)=0:=rfl
  try dsimp only
  exact⟨⟨fk0,oo,oo⟩,Jc,oo⟩
theorem Js1{B S:Int}{x1:J0g×JQ}(h:zFt B S (.pr JV JP) x1)(G:BS B S 0 0:=by omega):Tot (J3q x1) λy=>zFt 0 0 .b y:=by
 unfold J3q;refine .lef (λD=>?_) λD=>?_
 ·refine .gtf (λF=>?_) λF=>?_
  ·have:=J3.1 h.d.1;refine .ltf (λE=>?_) λE=>?_
   ·have:J0 x1.1.1<=B:=h.1.1.1;refine .gef (λC=>?_) λC=>?_
    ·have:=J3.1 h.e.1;refine .ltf (λo=>?_) λo=>?_
     ·refine .gef (λr=>?_) λr=>?_
      ·have:=J3.1 h.g.1;refine .ltf (λn=>?_) λn=>?_
       ·refine .ge (λz=>?_) λz=>?_
        ·exact .some trivial
        ·have:=J3.1 h.2.1;refine .eq (λk=>?_) λk=>?_
         ·exact .some trivial
         ·refine .eq (λq=>?_) λq=>?_
          ·exact .some trivial
          ·refine .eq (λA=>?_) λA=>?_
           ·exact .some trivial
           ·refine .eq (λw=>?_) λw=>?_
            ·exact .some trivial
            ·refine .eq (λx=>?_) λx=>?_
             ·have:=Jmj.1 h.h;refine .eq (λv=>?_) λv=>?_
              ·exact .some trivial
              ·exact .some trivial
             ·refine .eq (λj=>?_) λj=>?_
              ·exact .some trivial
              ·exact .some trivial
       ·exact .some trivial
      ·exact .some trivial
     ·exact .some trivial
    ·exact .some trivial
   ·exact .some trivial
  ·exact .some trivial
 ·exact .some trivial
theorem JqJ{B S:Int}{x1:J0g}(h:zFt B S JV x1)(Z:BS B S 0 0:=by omega)(hB:B<=9223372036854775807:=by omega):Tot (J3r x1) λy=>zFt 0 0 .b y:=by
 unfold J3r;refine .ltf (λJ=>?_) λJ=>?_
 ·refine .gtf (λK=>?_) λK=>?_
  ·have:=J3.1 h.2.1;refine .ltf (λL=>?_) λL=>?_
   ·refine .gtf (λH=>?_) λH=>?_
    ·have:J0 x1.2.2.2.2<=B:=h.e.1;have:=J4 (l:=x1.2.2.2.2);have:J0 x1.2.2.2.2=_:=Jk h.e;refine .gt (λI=>?_) λI=>?_
     ·exact .some trivial
     ·refine Jf (τ:=Int) (λq=>(J0 x1.1,q,x1)) (λq=>(zFt 0 0 zI q/\0<=q/\(q<=J0 x1.1\/q<=0))) (λq=>J0 x1.1-q) ?_ 0 rfl ?_
      ·rintro k ⟨x,Y,R⟩;unfold Ja0
       try dsimp only
       have:=J3.1 x;refine .lt (λw=>?_) λw=>?_
       ·refine .bind (Jh h.1) λy3 a1=>.ne (λC=>?_) λC=>?_
        ·exact .some trivial
        ·have:=Jb k 1;exact .some ⟨J1 .i64 k 1,rfl,⟨J8,om,om⟩,om,om⟩
       ·refine .inr ?_;have:J0 x1.2.2.1<=B:=h.c.1.1;have:=J4 (l:=x1.2.2.1);refine Jf (τ:=Int) (λq=>(J0 x1.1,q,x1)) (λq=>(zFt 0 0 zI q/\0<=q/\(q<=J0 x1.2.2.1\/q<=0))) (λq=>J0 x1.2.2.1-q) ?_ 0 rfl ?_
        ·rintro g ⟨r,U,P⟩;unfold Jap
         try dsimp only
         have:=J3.1 r;refine .lt (λA=>?_) λA=>?_
         ·refine .bind (Jh h.c.1) λy5 T=>.ltf (λD=>?_) λD=>?_
          ·refine .bind (Jh h.c.1) λy6 M=>.gef (λo=>?_) λo=>?_
           ·refine .gt (λE=>?_) λE=>?_
            ·have:=J0o g 1;refine .bind (Jh h.c.1) λy7 W=>.bind (Jh h.c.1) λy8 a0=>.ge (λF=>?_) λF=>?_
             ·exact .some trivial
             ·have:=Jb g 1;exact .some ⟨J1 .i64 g 1,rfl,⟨J8,om,om⟩,om,om⟩
            ·have:=Jb g 1;exact .some ⟨J1 .i64 g 1,rfl,⟨J8,om,om⟩,om,om⟩
           ·exact .some trivial
          ·exact .some trivial
         ·refine .inr ?_;refine Jf (τ:=Int) (λq=>(q,x1)) (λq=>(zFt 0 0 zI q/\0<=q/\(q<=J0 x1.2.2.2.2\/q<=0))) (λq=>J0 x1.2.2.2.2-q) ?_ 0 rfl ?_
          ·rintro j ⟨n,N,Q⟩;unfold Ja6
           try dsimp only
           have:=J3.1 n;refine .lt (λz=>?_) λz=>?_
           ·refine .bind (Jh h.e) λO G=>.bind (Js1 (B:=B) (S:=S) (⟨h,G.1⟩)) λa2 V=>.not (λv=>?_) λv=>?_
            ·exact .some trivial
            ·have:=Jb j 1;exact .some ⟨J1 .i64 j 1,rfl,⟨J8,om,om⟩,om,om⟩
           ·exact .some trivial
          ·try dsimp only
           exact⟨fk0,oo,oo⟩
        ·try dsimp only
         exact⟨fk0,oo,oo⟩
      ·try dsimp only
       exact⟨fk0,oo,oo⟩
    ·exact .some trivial
   ·exact .some trivial
  ·exact .some trivial
 ·exact .some trivial
theorem JaZ{B S:Int}{x1:J6A}(h:zFt B S JkP x1)(k:BS B S 0 0:=by omega)(n:B<=9223372036854775807:=by omega):Tot (J2H x1) λy=>zFt 0 0 zI y:=by
 unfold J2H;refine .bind (JqJ h.1) λo h1=>.not (λe=>?_) λe=>?_
 ·exact .some (fkn 15)
 ·refine .ite (λc3=>?_) λc3=>?_
  ·exact .some (fkn 10)
  ·have:=J3.1 h.2;refine .ltf (λj=>?_) λj=>?_
   ·have:J0 x1.1.1<=B:=h.1.1.1;refine .ge (λg=>?_) λg=>?_
    ·exact .some (fkn 1)
    ·exact .some fk0
   ·exact .some (fkn 1)
section
variable {B S:Int}
def DOk(x:J0g):Prop:=1<=J0 x.1/\J0 x.1<=64/\0<=x.2.1/\x.2.1<=1099511627776/\J0 x.2.2.2.2<=64/\(∀(j:Nat) (s:List UInt8),x.1[j]?=some s->J0 s=256)/\J0 x.2.2.1<=64/\ ∀(j:Nat) (f:JQ),x.2.2.2.2[j]?=some f->J3q (x,f)=some true
theorem JsD{d:J0g}{f:JQ}(e:J3q (d,f)=some true):0<=f.2.2.1/\f.2.2.1<J0 d.1/\0<=f.2.2.2.1/\f.2.2.2.1<J0 d.1/\0<=f.2.2.2.2.1/\f.2.2.2.2.1<256:=by
 have g:Par (J3q (d,f)) λy=>y=true->0<=f.2.2.1/\f.2.2.1<J0 d.1/\0<=f.2.2.2.1/\f.2.2.2.1<J0 d.1/\0<=f.2.2.2.2.1/\f.2.2.2.2.1<256:=by unfold J3q;dsimp only;refine .lef (λ_=>.gtf (λ_=>.ltf (λ_=>.gef (λ_=>.ltf (λ_=>.gef (λ_=>.ltf (λ_=>.ge (λ_=>.some nofun) λ_=>?_) λ_=>.some nofun) λ_=>.some nofun) λ_=>.some nofun) λ_=>.some nofun) λ_=>.some nofun) λ_=>.some nofun) λ_=>.some nofun;intro _ _ _;omega
 exact g _ e rfl
theorem JbP{x:J0g}(e:J3r x=some true):DOk x:=by
 have w:Par (J3r x) λy=>y=true->DOk x:=by
  unfold J3r;refine .ltf (λr=>.gtf (λv=>.ltf (λc3=>.gtf (λC=>.gt (λ_=>.some nofun) λB=>?_) λ_=>.some nofun) λ_=>.some nofun) λ_=>.some nofun) λ_=>.some nofun;refine .while (λz=>z.1=J0 x.1/\z.2.2=x/\0<=z.2.1/\ ∀(j:Nat) (s:List UInt8),(j:Int)<z.2.1->x.1[j]?=some s->J0 s=256) ⟨rfl,rfl,J0F _,λj e h1=>by dsimp only at h1;omega⟩ ?_;rintro⟨n,i,z⟩ ⟨hn,hz,k,h⟩;dsimp only at hn hz;subst hz;subst hn;dsimp only at k h r v c3 C B;unfold Ja0;dsimp only;refine .lt (λc=>?_) λc=>.map ?_
  ·have A:=Jb i 1;refine .bind λs hs=>.ne (λ_=>.some nofun) λo=>.some ⟨rfl,rfl,?_,λj t hj he=>?_⟩
   ·show 0<=J1 .i64 i 1;omega
   have hj:(j:Int)<J1 .i64 i 1:=hj;by_cases hl:(j:Int)<i
   ·exact h j t hl he
   ·have:j=i.toNat:=by omega
    subst this;rw[(J0H hs).2]at he;injection he with he;subst he
    exact o
  have hp: ∀(j:Nat) (s:List UInt8),z.1[j]?=some s->J0 s=256:=λj s he=>h j s (by have:=J51 he;omega) he;refine .while (λy=>y.1=J0 z.1/\y.2.2=z/\0<=y.2.1/\y.2.1<=J0 z.1/\ ∀(j:Nat) (f:Int),(j:Int)<y.2.1->z.2.2.1[j]?=some f->(j:Int)<=f/\f<J0 z.1) ⟨rfl,rfl,J0F _,by dsimp only;omega,λj e h1=>by dsimp only at h1;omega⟩ ?_;rintro⟨n,i,z⟩ ⟨hn,hz,k,q,h⟩;dsimp only at hn hz;subst hz;subst hn;dsimp only at k h q;unfold Jap;dsimp only;have A:=Jb i 1;have:=J0o i 1;refine .lt (λc=>?_) λc=>.map ?_
  ·refine .bind λs hs=>.ltf (λo=>.bind λs' hs'=>.gef (λH=>?_) λ_=>.some nofun) λ_=>.some nofun;rw[hs]at hs';injection hs' with hs';subst hs'
   have D:i<=s->(J0 z.1=J0 z.1/\z=z/\0<=J1 .i64 i 1/\J1 .i64 i 1<=J0 z.1/\ ∀(j:Nat) (f:Int),(j:Int)<J1 .i64 i 1->z.2.2.1[j]?=some f->(j:Int)<=f/\f<J0 z.1):=by
    intro G;refine⟨rfl,rfl,oo,oo,λj g hj he=>?_⟩;by_cases hl:(j:Int)<i
    ·exact h j g hl he
    ·have:j=i.toNat:=by omega
     subst this;rw[(J0H hs).2]at he;injection he with he;subst he
     omega
   refine .gt (λI=>.bind λE h4=>.bind λJ h5=>.ge (λ_=>.some nofun) λK=>.some (D ?_)) λ_=>.some (D oo);obtain⟨_,F⟩:=J0H h4;rw[hs]at h5;injection h5 with h5;subst h5
   have:=h _ E oo F;omega
  have hu:J0 z.2.2.1<=64:=by omega
  refine .while (λy=>y.2=z/\0<=y.1/\ ∀(j:Nat) (f:JQ),(j:Int)<y.1->z.2.2.2.2[j]?=some f->J3q (z,f)=some true) ⟨rfl,J0F _,λj e h1=>by dsimp only at h1;omega⟩ ?_;rintro⟨i,z⟩ ⟨rfl,k,h⟩;dsimp only at k h r v c3 C B hu hp;unfold Ja6;dsimp only;refine .lt (λc=>?_) λc=>.some λ_=>⟨oo,oo,oo,oo,oo,hp,hu,λj f he=>h j f (by have:=J51 he;omega) he⟩;have A:=Jb i 1;refine .bind λs hs=>.bind λb hb=>.not (λ_=>.some nofun) λo=>.some ⟨rfl,?_,λj t hj he=>?_⟩
  ·show 0<=J1 .i64 i 1;omega
  subst o;have hj:(j:Int)<J1 .i64 i 1:=hj;by_cases hl:(j:Int)<i
  ·exact h j t hl he
  ·have:j=i.toNat:=by omega
   subst this;rw[(J0H hs).2]at he;injection he with he;subst he
   exact hb
 exact w _ e rfl
theorem DOk.fit{x:J0g}(k:DOk x)(h:zFt B S JV x):zFt 64 256 JV x:=by
 obtain⟨h1,h2,h3,h4,h5⟩:=h;obtain⟨k1,k2,o,r,q,e,n,g⟩:=k;refine⟨⟨?_,λs hs=>?_⟩,h2,⟨?_,h3.2⟩,trivial,?_,λf hf=>h5.2 f hf⟩
 ·show J0 x.1<=64;omega
 ·obtain⟨j,hj⟩:=J5w.1 hs;show J0 s<=256;have:=e j s hj;omega
 ·show J0 x.2.2.1<=64;omega
 ·show J0 x.2.2.2.2<=64;omega
theorem Jb0{x:J6A}(e:J2H x=some 0):J3r x.1=some true/\0<=x.2/\x.2<J0 x.1.1:=by
 have g:Par (J2H x) λy=>y=0->J3r x.1=some true/\0<=x.2/\x.2<J0 x.1.1:=by unfold J2H;refine .bind λb hb=>.not (λ_=>.some nofun) λc=>.ite (λ_=>.some nofun) λ_=>.ltf (λ_=>.ge (λ_=>.some nofun) λ_=>.some λ_=>⟨c▸hb,oo,oo⟩) λ_=>.some nofun
 exact g _ e rfl
theorem JnA{x:J6A}{y:Int}(h:zFt B S JkP x)(e:J2H x=some y)(c:y=0):(0<=x.2/\x.2<J0 x.1.1/\J0 x.1.1<=64)/\zFt 64 256 JV x.1:=by subst c;obtain⟨h1,h2,h3⟩:=Jb0 e;have k:=JbP h1;exact⟨⟨h2,h3,k.2.1⟩,k.fit h.1⟩
theorem Jzr{w:Int}{un:List Int}{dead:Bool}{e k:Int}{s:List UInt8}{ps:List (List UInt8)}{fs:List JQ}(hu:zFt B 0 (.l zI) un)(hw:zFt 0 0 zI e)(C:0<=e)(h1:e<J0 ps)(hk:0<=k)(z:k<=256)(hs:J0 s=256)(hp: ∀x∈ps,J0 x=256)(G:B<=1000)(A:0<=B):Tot (J1N (w,un,dead,e,s,k,ps,fs)) λy=> ∃n g,y=(w,n,dead,g,fs)/\zFt (B+1) 0 (.l zI) n/\J0 g=J0 ps/\ ∀x∈g,J0 x=256:=by
 unfold J1N;dsimp only;have j:e.toNat<ps.length:=by unfold J0 at h1;omega
 have o:=hp _ (Jam j);refine .bind (Jor oo oo) λH h2=>.bind (J6j (l:=ps)) λ_ _=>?_;have v:lat ps e.toNat=some ps[e.toNat]:=by unfold lat;rw[zQ9 j]
 rw[v];show Tot ((J0s ps[e.toNat] (some k) none).bind _) _;refine .bind (Jbx oo oo) λD h5=>.bind (J75) λE F=>.bind (J6j (l:=ps)) λ_ _=>?_;show Tot ((J63 (un,e)).bind _) _;refine .bind (Jm1 (B:=B) (S:=0) ⟨hu,hw.u⟩) λq r=>.some ⟨q,_,rfl,r,J6x,λx hx=>?_⟩;rcases JEY hx with h|rfl
 ·exact hp x h
 ·have:=h2.2;have:=h5.2;omega
theorem JDT{b n:Int}{un:List Int}(h:zFt b 0 (.l zI) un)(hn:zFt 0 0 zI n)(hb:b<=17179869183:=by omega):Tot (J5F (un,n)) λy=>zFt (b+1) 0 (.l zI) y:=by
 unfold J5F;have hl:J0 un<=b:=h.1;have A:=J4 (l:=un);refine Jf (τ:=Bool×Int×List Int) (λq=>(un,n,q.1,q.2.1,q.2.2)) (λq=>0<=q.2.1/\q.2.1<=J0 un/\zFt (b+1) 0 (.l zI) q.2.2/\J0 q.2.2<=q.2.1+1/\(q.1=false->J0 q.2.2<=q.2.1)) (λq=>J0 un-q.2.1) ?_ (false,0,[]) rfl ⟨J0F _,A,Jc,by show(0:Int)<=0+1;omega,λ_=>J0F _⟩;rintro⟨done,i,out⟩ ⟨w,h1,h2,h3,h4⟩;dsimp only at w h1 h2 h3 h4;unfold JfJ;dsimp only;have:=Jb i 1;have app: ∀{x:Int} {l:List Int},zFt (b+1) 0 (.l zI) l->zFt (b+1) 0 zI x->J0 l+1<=b+1->Tot (JA 8 l [x]) λr=>zFt (b+1) 0 (.l zI) r/\J0 r=J0 l+1:=λhl hx C=>
  (J0x (B:=b+1) (Bl:=b+1) (Bm:=b+1) (S:=0) _ 1 hl (J0j oo hx) rfl rfl (J0F _) (J0F _) C oo (by decide)).mono λ_ h=>⟨h.1,h.2.1⟩
 have v:zFt (b+1) 0 zI n:=hn;refine .lt (λc=>?_) λc=>Tot.map (P:=λy=>zFt (b+1) 0 (.l zI) y) ?_ λ_ h=>h
 ·have j:Tot (idx un i) λr=>zFt (b+1) 0 zI r:=(Jh h w c).mono λ_ h=>h.1;refine .not (λd=>?_) λd=>?_
  ·have h4:=h4 d;refine .bind j λD H=>.ge (λ_=>.bind (app h2 v oo) λG f4=>.bind j λE F=>.ne (λ_=>.bind j λz o=>.bind (app f4.1 o oo) λk g=>?_) λ_=>?_) λ_=>.bind j λE F=>.ne (λ_=>.bind j λz o=>.bind (app h2 o oo) λk g=>?_) λ_=>?_
   ·have:=g.2;have:=f4.2;exact .some ⟨(_,_,_),rfl,⟨by show 0<=J1 .i64 i 1;omega,by show J1 .i64 i 1<=_;omega,g.1,by show J0 k<=J1 .i64 i 1+1;omega,nofun⟩,by show J0 un-J1 .i64 i 1<J0 un-i;omega,by show 0<=J0 un-i;omega⟩
   ·have:=f4.2;exact .some ⟨(_,_,_),rfl,⟨by show 0<=J1 .i64 i 1;omega,by show J1 .i64 i 1<=_;omega,f4.1,by show J0 G<=J1 .i64 i 1+1;omega,nofun⟩,by show J0 un-J1 .i64 i 1<J0 un-i;omega,by show 0<=J0 un-i;omega⟩
   ·have:=g.2;exact .some ⟨(_,_,_),rfl,⟨by show 0<=J1 .i64 i 1;omega,by show J1 .i64 i 1<=_;omega,g.1,by show J0 k<=J1 .i64 i 1+1;omega,λ_=>by show J0 k<=J1 .i64 i 1;omega⟩,by show J0 un-J1 .i64 i 1<J0 un-i;omega,by show 0<=J0 un-i;omega⟩
   ·exact .some ⟨(_,_,_),rfl,⟨by show 0<=J1 .i64 i 1;omega,by show J1 .i64 i 1<=_;omega,h2,by show J0 out<=J1 .i64 i 1+1;omega,λ_=>by show J0 out<=J1 .i64 i 1;omega⟩,by show J0 un-J1 .i64 i 1<J0 un-i;omega,by show 0<=J0 un-i;omega⟩
  ·refine .bind j λD H=>.ne (λ_=>.bind j λz o=>.bind (app h2 o oo) λk g=>?_) λ_=>?_
   ·have:=g.2;exact .some ⟨(_,_,_),rfl,⟨by show 0<=J1 .i64 i 1;omega,by show J1 .i64 i 1<=_;omega,g.1,by show J0 k<=J1 .i64 i 1+1;omega,λe=>by rw[d]at e;cases e⟩,by show J0 un-J1 .i64 i 1<J0 un-i;omega,by show 0<=J0 un-i;omega⟩
   ·exact .some ⟨(_,_,_),rfl,⟨by show 0<=J1 .i64 i 1;omega,by show J1 .i64 i 1<=_;omega,h2,by show J0 out<=J1 .i64 i 1+1;omega,λe=>by rw[d]at e;cases e⟩,by show J0 un-J1 .i64 i 1<J0 un-i;omega,by show 0<=J0 un-i;omega⟩
 ·exact .not (λd=>.bind (app h2 v (by have:=h4 d;omega)) λy f=>.some f.1) λ_=>.some h2
def FOk(n:Int)(f:JQ):Prop:=0<=f.2.2.1/\f.2.2.1<n/\0<=f.2.2.2.1/\f.2.2.2.1<n/\0<=f.2.2.2.2.1/\f.2.2.2.2.1<256/\zFt 0 0 JP f
def Juv(n:Int)(ps:List (List UInt8)):Prop:=J0 ps=n/\ ∀x∈ps,J0 x=256
def WOk(n:Int)(y:J6A):Prop:=zFt 256 256 JkP y
theorem JdS{n:Int}(d:J0g)(A:List JQ)(I:List (List UInt8))(C:Int)(E:List Int)(z:Bool){ps:List (List UInt8)}(D J:List JQ){w:Int}{un:List Int}{dead:Bool}{e rest:List JQ}
  (hn:n<=64) (hp:Juv n ps) (hw:zFt 0 0 zI w) (hu:zFt 65 0 (.l zI) un) (N:J0 e<=64) (hf: ∀f∈e,FOk n f) (hr:zFt 64 0 (.l JP) rest):
  Tot (Jg J6k (0,d,A,I,C,E,z,ps,D,J,w,un,dead,e,rest)) (WOk n):=by
 refine Jf (τ:=Int×List (List UInt8)×List Int×Bool) (λq=>(q.1,d,A,I,C,E,z,q.2.1,D,J,w,q.2.2.1,q.2.2.2,e,rest)) (λq=>0<=q.1/\q.1<=J0 e/\Juv n q.2.1/\ ∃b:Int,b<=65+2*q.1/\zFt b 0 (.l zI) q.2.2.1) (λq=>J0 e-q.1) ?_ (0,ps,un,dead) rfl ⟨J0F _,J4,hp,65,oo,hu⟩;rintro⟨i,ps,un,dead⟩ ⟨B,h1,⟨j,g⟩,b,hb,hu⟩;dsimp only at B h1 j g hb hu;unfold J6k;dsimp only;have:=Jb i 1;refine .lt (λc=>?_) λc=>.some ?_
 ·have k:i.toNat<e.length:=by unfold J0 at c;omega
  refine .bind (J6j (l:=e) B c) λ_ _=>?_;have T:lat e i.toNat=some e[i.toNat]:=by unfold lat;rw[zQ9 k]
  rw[T];show Tot (if eqI e[i.toNat].1 4=true then _ else _) _;obtain⟨v,R,S,f4,y,Q,F⟩:=hf _ (Jam k);generalize e[i.toNat]=f at v R S f4 y Q F;refine .eq (λO=>?_) λO=>.eq (λP=>?_) λP=>.eq (λc3=>?_) λc3=>?_
  ·have o:f.2.2.1.toNat<ps.length:=by unfold J0 at j;omega
   have r:=g _ (Jam o);refine .bind (J6j (l:=ps) v oo) λ_ _=>?_;have L:lat ps f.2.2.1.toNat=some ps[f.2.2.1.toNat]:=by unfold lat;rw[zQ9 o]
   rw[L];show Tot ((inb (toByt ps[f.2.2.1.toNat]).length f.2.2.2.2.1).bind _) _;have G:J0 (toByt ps[f.2.2.1.toNat])=256:=by rw[JCO];exact r
   have K:f.2.2.2.2.1.toNat<(toByt ps[f.2.2.1.toNat]).length:=by unfold J0 at G;omega
   refine .bind (J6j (l:=toByt ps[f.2.2.1.toNat]) y oo) λ_ _=>?_;have M:lat (toByt ps[f.2.2.1.toNat]) f.2.2.2.2.1.toNat=some (toByt ps[f.2.2.1.toNat])[f.2.2.2.2.1.toNat]:=by unfold lat;rw[zQ9 K]
   rw[M];show Tot ((inb (toByt ps[f.2.2.1.toNat]).length f.2.2.2.2.1).bind _) _;refine .bind (J6j (l:=toByt ps[f.2.2.1.toNat]) y oo) λ_ _=>?_;show Tot ((inb ps.length f.2.2.1).bind _) _;refine .bind (J6j (l:=ps) v oo) λ_ _=>.some ⟨(_,_,_,_),rfl,⟨?_,?_,⟨?_,λx hx=>?_⟩,b,?_,hu⟩,?_,?_⟩
   ·show 0<=J1 .i64 i 1;omega
   ·show J1 .i64 i 1<=J0 e;omega
   ·exact J6x.trans j
   ·rcases JEY hx with h|rfl
    ·exact g x h
    ·rw[J8p,J6x];exact G
   ·show b<=65+2*J1 .i64 i 1;omega
   ·show J0 e-J1 .i64 i 1<J0 e-i;omega
   ·show 0<=J0 e-i;omega
  ·refine .bind (JDT hu F.2.2.1) λU H=>.some ⟨(_,_,_,_),rfl,⟨?_,?_,⟨j,g⟩,b+2,?_,H.u⟩,?_,?_⟩
   ·show 0<=J1 .i64 i 1;omega
   ·show J1 .i64 i 1<=J0 e;omega
   ·show b+2<=65+2*J1 .i64 i 1;omega
   ·show J0 e-J1 .i64 i 1<J0 e-i;omega
   ·show 0<=J0 e-i;omega
  all_goals
   refine .some ⟨(_,_,_,_),rfl,⟨?_,?_,⟨j,g⟩,b,?_,hu⟩,?_,?_⟩
   ·show 0<=J1 .i64 i 1;omega
   ·show J1 .i64 i 1<=J0 e;omega
   ·show b<=65+2*J1 .i64 i 1;omega
   ·show J0 e-J1 .i64 i 1<J0 e-i;omega
   ·show 0<=J0 e-i;omega
 ·refine⟨⟨⟨?_,λx hx=>?_⟩,hw.u,hu.u,trivial,hr.u⟩,fk0⟩
  ·show J0 ps<=256;omega
  ·show J0 x<=256;have:=g x hx;omega
end
section
variable {B S:Int}
theorem Jmq{n h:Int}{s:List UInt8}(d:J0g)(C:List JQ)(G:List (List UInt8))(D:Int)(F:List Int)(B:Bool){ps:List (List UInt8)}(E H:List JQ){w:Int}{un:List Int}{dead:Bool}{g rest:List JQ}
  (hn:n<=64) (hp:Juv n ps) (hw:zFt 0 0 zI w) (hu:zFt 64 0 (.l zI) un) (z:J0 g<=64) (hf: ∀f∈g,FOk n f) (hr:zFt 64 0 (.l JP) rest)
  (hs:J0 s=256) (N:0<=h) (g1:h<n) (J:zFt 0 0 zI h):
  Tot (Jg Jae (h,s,false,0,d,C,G,D,F,B,ps,E,H,w,un,dead,g,rest)) (WOk n):=by
 refine Jf (τ:=Bool×Int×List (List UInt8)×List Int) (λq=>(h,s,q.1,q.2.1,d,C,G,D,F,B,q.2.2.1,E,H,w,q.2.2.2,dead,g,rest)) (λq=>0<=q.2.1/\q.2.1<=J0 g/\Juv n q.2.2.1/\zFt 65 0 (.l zI) q.2.2.2/\(q.1=false->zFt 64 0 (.l zI) q.2.2.2)) (λq=>J0 g-q.2.1) ?_ (false,0,ps,un) rfl ⟨J0F _,J4,hp,hu.u,λ_=>hu⟩;rintro⟨done,i,ps,un⟩ ⟨K,h1,⟨r,v⟩,hu,hd⟩;dsimp only at K h1 r v hu hd;unfold Jae;dsimp only;have:=Jb i 1;have A: ∀{h k:Int},done=false->0<=h->h<n->zFt 0 0 zI h->0<=k->k<=256->Tot (J1N (w,un,dead,h,s,k,ps,rest)) λy=> ∃j o,y=(w,j,dead,o,rest)/\zFt 65 0 (.l zI) j/\Juv n o:=λe a1 a2 a3 a4 R=>
  (Jzr (hd e) a3 a1 oo a4 R hs v oo oo).mono λy ⟨j,o,h1,h2,h3,h4⟩=>⟨j,o,h1,h2,h3.trans r,h4⟩
 have fin:Tot (if Jr done=true then(J1N (w,un,dead,h,s,256,ps,rest)).bind λx=>Jg J6k (0,d,C,G,D,F,B,x.2.2.2.1,E,H,x.1,x.2.1,x.2.2.1,g,x.2.2.2.2)else Jg J6k (0,d,C,G,D,F,B,ps,E,H,w,un,dead,g,rest)) (WOk n):=by refine .not (λe=>.bind (A e N g1 J oo oo) λy ⟨j,o,hy,h2,h3⟩=>?_) λ_=>JdS _ _ _ _ _ _ _ _ hn ⟨r,v⟩ hw hu z hf hr;subst hy;exact JdS _ _ _ _ _ _ _ _ hn h3 hw h2 z hf hr
 refine .lt (λc=>.not (λe=>?_) λe=>.inr fin) λc=>.inr fin;have I:i.toNat<g.length:=by unfold J0 at c;omega
 refine .bind (J6j (l:=g) K c) λ_ _=>?_;have W:lat g i.toNat=some g[i.toNat]:=by unfold lat;rw[zQ9 I]
 have L:inb g.length i=some ():=by unfold inb;rw[if_pos ⟨K,by unfold J0 at c;exact c⟩]
 rw[W];obtain⟨Q,V,P,f4,O,U,M⟩:=hf _ (Jam I);generalize g[i.toNat]=f at Q V P f4 O U M;show Tot (if eqI f.1 1=true then _ else _) _;refine .eq (λS=>?_) λS=>.eq (λT=>?_) λT=>.eq (λc3=>?_) λc3=>?_
 ·exact .some ⟨(_,_,_,_),rfl,⟨by show 0<=J1 .i64 i 1;omega,by show J1 .i64 i 1<=J0 g;omega,⟨r,v⟩,hu,nofun⟩,by show J0 g-J1 .i64 i 1<J0 g-i;omega,by show 0<=J0 g-i;omega⟩
 ·rw[L];show Tot ((J1N _).bind _) _;refine .bind (A e P f4 M.2.2.2.1 oo oo) λy ⟨j,o,hy,h2,h3⟩=>?_;subst hy;exact .some ⟨(_,_,_,_),rfl,⟨by show 0<=J1 .i64 i 1;omega,by show J1 .i64 i 1<=J0 g;omega,h3,h2,nofun⟩,by show J0 g-J1 .i64 i 1<J0 g-i;omega,by show 0<=J0 g-i;omega⟩
 ·rw[L];show Tot ((J1N _).bind _) _;refine .bind (A e N g1 J O oo) λy ⟨j,o,hy,h2,h3⟩=>?_;subst hy;exact .some ⟨(_,_,_,_),rfl,⟨by show 0<=J1 .i64 i 1;omega,by show J1 .i64 i 1<=J0 g;omega,h3,h2,nofun⟩,by show J0 g-J1 .i64 i 1<J0 g-i;omega,by show 0<=J0 g-i;omega⟩
 ·exact .some ⟨(_,_,_,_),rfl,⟨by show 0<=J1 .i64 i 1;omega,by show J1 .i64 i 1<=J0 g;omega,⟨r,v⟩,hu,hd⟩,by show J0 g-J1 .i64 i 1<J0 g-i;omega,by show 0<=J0 g-i;omega⟩
theorem JCx{x:J0g}(g:zFt 64 256 JV x):J81 x=some (x.2.1,x.2.2.1,x.2.2.2.1,x.1,x.2.2.2.2):=by obtain⟨r,hr,e⟩:=(JmX (bytes:=16) g.1 oo (by decide));obtain⟨n,j,e2⟩:=(JmX (bytes:=8) g.2.2.1 oo (by decide));obtain⟨o,h,k⟩:=(JmX (bytes:=48) g.2.2.2.2 oo (by decide));subst e e2 k;unfold J81;have q3:J1J (α:=JQ) 48 x.2.2.2.2=some x.2.2.2.2:=h;rw[hr,j,q3];rfl
theorem Js0{x1:J0g×Int×List UInt8}(h:zFt B S (.pr JV (.pr zI .s)) x1)(T:BC B S 0 0:=by omega):Tot (J9w x1) λy=>zFt 256 256 JkP y:=by
 obtain⟨x,g,s⟩:=x1;obtain⟨hx,z,hs⟩:=h;unfold J9w;dsimp only;have z0:zFt 256 256 JV ([],0,[],false,[]):=⟨Jc,fk0,Jc,trivial,Jc⟩;refine .bind ((JaZ (x1:=(x,g)) ⟨hx,z⟩).eqn) λV h2=>.ne (λ_=>.some ⟨z0,h2.1⟩) λP=>.ne (λ_=>.some ⟨z0,fkn 2⟩) λU=>.eq (λ_=>.some ⟨z0,fkn 21⟩) λc3=>?_;subst P;obtain⟨k,I,g1⟩:=Jb0 h2.2;have k:=JbP k;have e:zFt 64 256 JV x:=k.fit hx;obtain⟨k1,k2,N,R,O,K,H,G⟩:=k;dsimp only at k1 k2 N R O K H G I g1;rw[JCx e];show Tot (Jg Jag _) _;dsimp only;have hw:zFt 0 0 zI (J1 .i64 x.2.1 1):=J8;have L: ∀{i:Int} {f:JQ},idx x.2.2.2.2 i=some f->FOk (J0 x.1) f:=fun{i f} hf=>by obtain⟨a1,a2⟩:=J0H hf;have w:=JsD (G _ _ a2);exact⟨w.1,w.2.1,w.2.2.1,w.2.2.2.1,w.2.2.2.2.1,w.2.2.2.2.2,e.2.2.2.2.2 f (zQ5 a2)⟩
 refine Jf (τ:=Int×List JQ×List JQ) (λq=>(g,s,q.1,x,[],[],0,[],false,x.1,x.2.2.2.2,[],J1 .i64 x.2.1 1,x.2.2.1,x.2.2.2.1,q.2.1,q.2.2)) (λq=>0<=q.1/\q.1<=J0 x.2.2.2.2/\J0 q.2.1<=q.1/\J0 q.2.2<=q.1/\zFt 64 0 (.l JP) q.2.1/\zFt 64 0 (.l JP) q.2.2/\ ∀f∈q.2.1,FOk (J0 x.1) f) (λq=>J0 x.2.2.2.2-q.1) ?_ (0,[],[]) rfl ⟨J0F _,J4,J0F _,J0F _,Jc,Jc,nofun⟩;rintro⟨i,A,rest⟩ ⟨F,h1,h3,h4,h5,v,o⟩;dsimp only at F h1 h3 h4 h5 v o;unfold Jag;dsimp only;have:=Jb i 1;have app: ∀{f:JQ} {l:List JQ},zFt 64 0 (.l JP) l->FOk (J0 x.1) f->J0 l+1<=64->Tot (JA 48 l [f]) λr=>zFt 64 0 (.l JP) r/\J0 r=J0 l+1/\r=l++[f]:=λhl hx M=>
  (J0x (B:=64) (Bl:=64) (Bm:=64) (S:=0) _ 1 hl (J0j oo hx.2.2.2.2.2.2.u) rfl rfl (J0F _) (J0F _) M oo (by decide))
 refine .lt (λc=>?_) λc=>.inr (Jmq _ _ _ _ _ _ _ _ k2 ⟨rfl,λs hs=>by obtain⟨j,hj⟩:=J5w.1 hs;exact K j s hj⟩ hw ⟨H,e.2.2.1.2⟩ oo o v oo I g1 z);have D:i.toNat<x.2.2.2.2.length:=by unfold J0 at c;omega
 have J:idx x.2.2.2.2 i=some x.2.2.2.2[i.toNat]:=by unfold idx;rw[if_pos F,zQ9 D]
 have n:=L J;rw[J];show Tot (if eqI _ _=true then _ else _) _;refine .eq (λ_=>?_) λ_=>?_
 ·show Tot ((JA 48 A [_]).bind _) _;refine .bind (app h5 n oo) λr ⟨C,Q,E⟩=>.some ⟨(_,_,_),rfl,⟨by show 0<=J1 .i64 i 1;omega,by show J1 .i64 i 1<=_;omega,by show J0 r<=J1 .i64 i 1;omega,by show J0 rest<=J1 .i64 i 1;omega,C,v,λf hf=>?_⟩,by show _-J1 .i64 i 1<_-i;omega,by show 0<=_-i;omega⟩;subst E;rcases J2h.1 hf with hf|hf
  ·exact o f hf
  ·simp at hf;subst hf;exact n
 ·show Tot ((JA 48 rest [_]).bind _) _;exact .bind (app v n oo) λr ⟨C,Q,E⟩=>.some ⟨(_,_,_),rfl,⟨by show 0<=J1 .i64 i 1;omega,by show J1 .i64 i 1<=_;omega,by show J0 A<=J1 .i64 i 1;omega,by show J0 r<=J1 .i64 i 1;omega,h5,C,o⟩,by show _-J1 .i64 i 1<_-i;omega,by show 0<=_-i;omega⟩
theorem Jwh{x1:J0g×Int×List UInt8×Int}(h:zFt B S (.pr JV (.pr zI JbL)) x1)(H:BC B S 0 0:=by omega):Tot (Ja9 x1) λy=>zFt 256 256 JkP y:=by
 obtain⟨x,n,s,I⟩:=x1;obtain⟨hx,g,hs,E⟩:=h;unfold Ja9;dsimp only;have z0:zFt 256 256 JV ([],0,[],false,[]):=⟨Jc,fk0,Jc,trivial,Jc⟩;refine .bind ((JaZ (x1:=(x,n)) ⟨hx,g⟩).eqn) λL h2=>.ne (λ_=>.some ⟨z0,h2.1⟩) λC=>.ltf (λJ=>.gt (λ_=>.some ⟨z0,fkn 1⟩) λK=>.ne (λ_=>.some ⟨z0,fkn 2⟩) λD=>?_) λ_=>.some ⟨z0,fkn 1⟩;subst C;obtain⟨k,q,g1⟩:=Jb0 h2.2;have k:=JbP k;have e:zFt 64 256 JV x:=k.fit hx;obtain⟨k1,k2,z,F,A,r,o,w⟩:=k;dsimp only at k1 k2 z F A r o w q g1;rw[JCx e];show Tot ((J1N _).bind _) _;dsimp only;refine .bind (Jzr (B:=64) ⟨o,e.2.2.1.2⟩ g q g1 oo oo D (λs hs=>by obtain⟨j,hj⟩:=J5w.1 hs;exact r j s hj) oo oo) λy ⟨G,v,hy,h2,h3,h4⟩=>?_;subst hy;refine .some ⟨⟨⟨?_,λx hx=>?_⟩,hx.2.1,h2.u,trivial,e.2.2.2.2.u⟩,fk0⟩
 ·show J0 v<=256;omega
 ·show J0 x<=256;have:=h4 x hx;omega
end
theorem J7C{B S:Int}{x1:JG×Int×T_api_Frame}(h:zFt B S (.pr JM (.pr zI J08)) x1)(p0:0<=x1.2.1)(g:x1.2.1<J0 x1.1.2.1)(e:BS B S 0 0:=by omega)(k:B<=34359738368:=by omega):Tot (J1u x1) λy=>zFt B S JM y/\(J0 y.2.1=J0 x1.1.2.1/\y.2.2=x1.1.2.2):=by unfold J1u;have:J0 x1.1.2.1=_:=Jk h.1.2.1;refine .clo h.1.2.1 oo (by decide) ?_;refine .bind (J6j (l:=x1.1.2.1)) λ_ _=>.bind (Jcb h.1.2.1) λn j=>?_;have:J0 (J0B x1.1.2.1 (Int.toNat x1.2.1) x1.2.2)=_:=Jk (J4I (t:=J08) (i:=Int.toNat x1.2.1) (x:=x1.2.2) h.1.2.1 (h.2.z.2.u));have:J0 (J0B x1.1.2.1 (Int.toNat x1.2.1) x1.2.2)=J0 x1.1.2.1:=J6x;exact .some ⟨(⟨h.1.1,J4I (t:=J08) (i:=Int.toNat x1.2.1) (x:=x1.2.2) h.1.2.1 (h.2.z.2.u),h.1.c⟩),om⟩
theorem Jr3{B S:Int}{x1:Jmp}(h:zFt B S JFP x1)(I:BG B S:=by omega):Tot (J4U x1) λy=>zFt 64 12 tq7 y:=by
 unfold J4U;refine .bind ((J3U h.1).eqn) λK h1=>.not (λr=>?_) λr=>?_
 ·exact .some (⟨fzr,fkn 15⟩)
 ·have v3:=J30 h.1 h1.2 r;have:J0 x1.1.2.1=_:=Jk h.1.2.1;have h10:zFt 64 12 JM x1.1:=v3.2;refine .bind (J5E (B:=64) (S:=12) (⟨h10,h.2.1⟩)) λn e=>?_;have:=J3.1 e.1;have: -1<=n/\n<J0 x1.1.2.1:=e.2;refine .lt (λk=>?_) λk=>?_
  ·exact .some (⟨fzr,fkn 18⟩)
  ·refine .bind (Jh h10.2.1) λJ g=>.gt (λD=>?_) λD=>?_
   ·exact .some (⟨fzr,fkn 9⟩)
   ·refine .not (λw=>?_) λw=>?_
    ·exact .some (⟨h10,fk0⟩)
    ·refine .eq (λE=>?_) λE=>?_
     ·refine .bind (J7C (B:=64) (S:=12) (⟨h10,e.1,g.1.z.1.u,trivial,fk0,trivial⟩) om om) λG q=>?_;have j:zFt 64 12 JM G:=q.1.u;exact .some (⟨j,fk0⟩)
     ·have:=J3.1 g.1.z.2.2.1;refine .le (λv=>?_) λv=>?_
      ·refine .bind (J7C (B:=64) (S:=12) (⟨h10,e.1,g.1.z.1.u,trivial,J8,trivial⟩) om om) λH o=>?_;have x:zFt 64 12 JM H:=o.1.u;exact .some (⟨x,fk0⟩)
      ·refine .bind (J7C (B:=64) (S:=12) (⟨h10,e.1,g.1.z.u⟩) om om) λF A=>?_;have C:zFt 64 12 JM F:=A.1.u;exact .some (⟨C,fk0⟩)
theorem JmH{B S:Int}{x1:J7b}(h:zFt B S JkY x1)(L:BG B S:=by omega):Tot (J2l x1) λy=>zFt 16384 1073741824 tq1 y/\(y.2=0->J0 y.1.2.2.1.2.1=J0 x1.1.2.2.1.2.1+1):=by
 unfold J2l;refine .bind ((J1o h.1).eqn) λP h1=>.not (λz=>?_) λz=>?_
 ·have:J0 x1.1.2.2.1.2.1<=B:=h.1.c.1.2.1.1;exact .some ⟨(⟨fzr,fkn 15⟩),om⟩
 ·have I:=J1y h.1 h1.2 z;have:J0 x1.1.2.2.1.2.1=_:=Jk h.1.c.1.2.1;have k:zFt 4096 8192 J9 x1.1:=I.2;refine .ltf (λC=>?_) λC=>?_
  ·refine .gef (λr=>?_) λr=>?_
   ·have:=J3.1 h.c;refine .ltf (λA=>?_) λA=>?_
    ·refine .bind (J8q k.c.1) λM K=>.gt (λx=>?_) λx=>?_
     ·exact .some ⟨(⟨fzr,fkn 1⟩),om⟩
     ·refine .bind ((J5y (B:=4096) (S:=8192) (x1:=(x1.1.2.2.2.1,x1.2.1)) (⟨k.d.1,h.2.1⟩)).eqn) λO J=>.ge (λv=>?_) λv=>?_
      ·have E:zFt 16384 1073741824 JFP (x1.1.2.2.2.1,x1.2.1,x1.2.2):=⟨k.d.1.u,h.2⟩;refine .bind (Jr3 E) λN n=>.ne (λG=>?_) λG=>?_
       ·exact .some ⟨(⟨fzr,n.2⟩),om⟩
       ·have D:zFt 16384 1073741824 JtB (x1.1,0,7,0,0,0,x1.2.2,(x1.2.1,0,(false,[]),false,[]),[]):=⟨k.u,fk0,fkn 7,fk0,fk0,fk0,h.c,⟨h.2.1,fk0,⟨trivial,Je⟩,trivial,Je⟩,Je⟩;refine .bind ((J5e D).eqn) λq j=>?_;have:J0 q.1.2.2.1.2.1=_:=Jk j.1.1.1.c.1.2.1;have:q.2.2=0->J0 q.1.2.2.1.2.1=J0 x1.1.2.2.1.2.1+1/\J0 x1.1.2.2.1.2.1<=4095/\0<=x1.2.1/\x1.2.1<64/\0<=(0:Int)/\(0:Int)<16:=j.1.2;refine .ne (λw=>?_) λw=>?_
        ·exact .some ⟨(⟨fzr,j.1.1.c⟩),om⟩
        ·exact .some ⟨(⟨⟨j.1.1.1.1,j.1.1.1.2.1,j.1.1.1.c.1,n.1.u,j.1.1.1.e⟩,fk0⟩),om⟩
      ·have F:zFt 16384 1073741824 JtB (x1.1,0,7,0,0,0,x1.2.2,(x1.2.1,0,(false,[]),false,[]),[]):=⟨k.u,fk0,fkn 7,fk0,fk0,fk0,h.c,⟨h.2.1,fk0,⟨trivial,Je⟩,trivial,Je⟩,Je⟩;refine .bind ((J5e F).eqn) λo g=>?_;have:J0 o.1.2.2.1.2.1=_:=Jk g.1.1.1.c.1.2.1;have:o.2.2=0->J0 o.1.2.2.1.2.1=J0 x1.1.2.2.1.2.1+1/\J0 x1.1.2.2.1.2.1<=4095/\0<=x1.2.1/\x1.2.1<64/\0<=(0:Int)/\(0:Int)<16:=g.1.2;refine .ne (λH=>?_) λH=>?_
       ·exact .some ⟨(⟨fzr,g.1.1.c⟩),om⟩
       ·exact .some ⟨(⟨⟨g.1.1.1.1,g.1.1.1.2.1,g.1.1.1.c.1,k.d.1.u,g.1.1.1.e⟩,fk0⟩),om⟩
    ·exact .some ⟨(⟨fzr,fkn 1⟩),om⟩
   ·exact .some ⟨(⟨fzr,fkn 1⟩),om⟩
  ·exact .some ⟨(⟨fzr,fkn 1⟩),om⟩
theorem Jh3{B S:Int}{x1:JGh}(h:zFt B S (.pr Jl (.pr J9 Ju)) x1)(k:BG B S:=by omega):Tot (J2w x1) λy=>zFt 16384 1073741824 tq3 y/\(y.2=0->J0 y.1.1.2.2.1.2.1=J0 x1.2.1.2.2.1.2.1+1):=by
 unfold J2w;refine .bind (Jb7 (B:=0) (S:=S) h.c.z) λo h1=>.bind (Js0 (B:=B) (S:=S) (⟨h.1.2,h.c.z.1,h1.1.u⟩)) λn h2=>.ne (λc3=>?_) λc3=>?_
 ·have:J0 x1.2.1.2.2.1.2.1<=B:=h.2.1.c.1.2.1.1;exact .some ⟨(⟨⟨fzr,Jc,fk0,Jc,trivial,Jc⟩,h2.2⟩),om⟩
 ·refine .bind (JmH (B:=B) (S:=S) (⟨h.2.1,h.c.z.1,h.c.z.2.1⟩)) λg e=>?_;have:J0 g.1.2.2.1.2.1=_:=Jk e.1.1.c.1.2.1;have:J0 x1.2.1.2.2.1.2.1=_:=Jk h.2.1.c.1.2.1;have:g.2=0->J0 g.1.2.2.1.2.1=J0 x1.2.1.2.2.1.2.1+1:=e.2;refine .ne (λj=>?_) λj=>?_
  ·exact .some ⟨(⟨⟨fzr,Jc,fk0,Jc,trivial,Jc⟩,e.1.2⟩),om⟩
  ·exact .some ⟨(⟨⟨e.1.1,h2.1.u⟩,fk0⟩),om⟩
theorem JqK{B S:Int}{x1:J2O}(h:zFt B S tq3 x1)(r:BG B S:=by omega):Tot (J4L x1) λy=>zFt B S tq3 y:=by
 unfold J4L;refine .bind ((JsH (B:=B) (S:=S) (x1:=(x1.1.1,x1.2)) (⟨h.1.1,h.2⟩)).eqn) λv h1=>.ne (λe=>?_) λe=>?_
 ·exact .some (⟨⟨fzr,Jc,fk0,Jc,trivial,Jc⟩,h1.1.1.2.z.2⟩)
 ·have o:InP x1.1.1.2.2.2.1 x1.2:=JAA (⟨h.1.1,h.2⟩) h1.2 e;refine .bind ((J5y (B:=B) (S:=S) (x1:=(x1.1.1.2.2.2.1,x1.2)) (⟨h.1.1.d.1,h.2⟩)).eqn) λj g=>?_;have:0<=j:=Jkp o g.2;have:J0 x1.1.1.2.2.2.1.2.1=_:=Jk h.1.1.d.1.2.1;have: -1<=j/\j<J0 x1.1.1.2.2.2.1.2.1:=g.1.2;refine .bind (Jh h.1.1.d.1.2.1) λw q=>.not (λn=>?_) λn=>?_
  ·exact .some (⟨h.1,fk0⟩)
  ·refine .bind (Jh3 (B:=B) (S:=S) (⟨h.1,h1.1.1.1.u,h1.1.1.2.z.1.u⟩)) λx k=>.some (k.1.u)
theorem JaH{B S:Int}{x1:JIU}(h:zFt B S (.pr (.l Ja) (.pr zI (.pr .b J0d))) x1)(I:BS B S 0 0:=by omega)(Q:B<=34359738367:=by omega):Tot (J5P x1) λy=>zFt (B+1) 0 (.l Ja) y:=by
 unfold J5P;have:J0 x1.1<=B:=h.1.1;have:=J4 (l:=x1.1);have:J0 x1.1=_:=Jk h.1;refine Jf (τ:=Int×(List T_api_Grant)) (λq=>(x1.1,x1.2.1,x1.2.2.1,q.1,x1.2.2.2,q.2)) (λq=>(zFt 0 0 zI q.1/\0<=q.1/\(q.1<=J0 x1.1\/q.1<=0))/\(zFt (B+1) 0 (.l Ja) q.2/\J0 q.2<=1*q.1+0)) (λq=>J0 x1.1-q.1) ?_ (0,[]) rfl ?_
 ·rintro⟨g,e⟩ o;dsimp only at o;obtain⟨⟨E,K,P⟩,j,L⟩:=o;unfold JfR
  try dsimp only
  have:=J3.1 E;refine .lt (λD=>?_) λD=>?_
  ·refine .bind (Jh h.1) λM G=>.nef (λx=>?_) λx=>?_
   ·refine .ite (λC=>?_) λC=>?_
    ·refine .bind (Jh h.1) λO F=>.not (λr=>?_) λr=>?_
     ·refine .bind (Jh h.1) λN z=>?_;have:J0 e<=(B+1):=j.1;have:J0 e=_:=Jk j;refine .bind (J0x (B:=(B+1)) (Bl:=(B+1)) (Bm:=1) (S:=0) (J0 e) 1 j (J0j (B:=1) (S:=0) (t:=Ja) oo z.1)) λA k=>?_;have:=Jb g 1;have:J0 A=_:=Jk k.1;exact .some ⟨(J1 .i64 g 1,A),rfl,⟨⟨J8,om,om⟩,k.1,om⟩,om,om⟩
     ·have H:=J1I.1 r;have:=Jb g 1;have:J0 e=_:=Jk j;exact .some ⟨(J1 .i64 g 1,e),rfl,⟨⟨J8,om,om⟩,j,om⟩,om,om⟩
    ·have:=Jb g 1;have:J0 e=_:=Jk j;exact .some ⟨(J1 .i64 g 1,e),rfl,⟨⟨J8,om,om⟩,j,om⟩,om,om⟩
   ·refine .bind (Jh h.1) λJ v=>?_;have:J0 e<=(B+1):=j.1;have:J0 e=_:=Jk j;refine .bind (J0x (B:=(B+1)) (Bl:=(B+1)) (Bm:=1) (S:=0) (J0 e) 1 j (J0j (B:=1) (S:=0) (t:=Ja) oo v.1)) λw n=>?_;have:=Jb g 1;have:J0 w=_:=Jk n.1;exact .some ⟨(J1 .i64 g 1,w),rfl,⟨⟨J8,om,om⟩,n.1,om⟩,om,om⟩
  ·exact .some j
 ·have:J0 ([]:List T_api_Grant)=0:=rfl
  try dsimp only
  exact⟨⟨fk0,oo,oo⟩,Jc,oo⟩
theorem Jv3{B S:Int}{x1:J9B}(h:zFt B S JnS x1)(p0:0<=x1.2)(M:x1.2<J0 x1.1.2)(F:BS B S 0 0:=by omega)(Q:B<=9223372036854775807:=by omega):Tot (Ja2 x1) λy=>zFt 0 0 .b y:=by
 unfold Ja2;have:=J3.1 h.2;have:J0 x1.1.2<=B:=h.1.2.1;have:J0 x1.1.2=_:=Jk h.1.2;have:J0 x1.1.1<=B:=h.1.1.1;have:=J4 (l:=x1.1.1);have:J0 x1.1.1=_:=Jk h.1.1;refine Jf (τ:=Int) (λq=>(x1.2,q,x1.1)) (λq=>(zFt 0 0 zI q/\0<=q/\(q<=J0 x1.1.1\/q<=0))) (λq=>J0 x1.1.1-q) ?_ 0 rfl ?_
 ·rintro g ⟨A,P,C⟩;unfold JfZ
  try dsimp only
  have:=J3.1 A;refine .lt (λn=>?_) λn=>?_
  ·refine .bind (Jh h.1.1) λJ v=>.bind (Jh h.1.2) λO k=>.bind (J4i (B:=0) (S:=0) (⟨v.1,k.1⟩)) λL H=>.ite (λw=>?_) λw=>?_
   ·exact .some trivial
   ·have:=Jb g 1;exact .some ⟨J1 .i64 g 1,rfl,⟨J8,om,om⟩,om,om⟩
  ·refine .inr ?_;refine Jf (τ:=Int) (λq=>(x1.2,q,x1.1)) (λq=>(zFt 0 0 zI q/\0<=q/\(q<=x1.2\/q<=0))) (λq=>x1.2-q) ?_ 0 rfl ?_
   ·rintro e ⟨r,G,E⟩;unfold JfU
    try dsimp only
    have:=J3.1 r;refine .lt (λx=>?_) λx=>?_
    ·refine .bind (Jh h.1.2) λI z=>.bind (Jh h.1.2) λK o=>.bind (J4i (B:=0) (S:=0) (⟨z.1,o.1⟩)) λN D=>.ite (λj=>?_) λj=>?_
     ·exact .some trivial
     ·have:=Jb e 1;exact .some ⟨J1 .i64 e 1,rfl,⟨J8,om,om⟩,om,om⟩
    ·exact .some trivial
   ·try dsimp only
    exact⟨fk0,oo,oo⟩
 ·try dsimp only
  exact⟨fk0,oo,oo⟩
section
variable {B S:Int}
theorem Jwy{x1:JAY}(h:zFt B S (.pr (.l Ja) Ja) x1)(R:BS B S 0 0:=by omega)(W:B<=17179869183:=by omega):Tot (JaG x1) λy=>zFt (B+1) S (.l Ja) y/\J0 y<=J0 x1.1+1:=by
 obtain⟨un,n⟩:=x1;obtain⟨h,hn⟩:=h;unfold JaG;dsimp only;dsimp only at h hn;have hl:J0 un<=B:=h.1;have K:=J4 (l:=un);refine Jf (τ:=Bool×Int×List T_api_Grant) (λq=>(un,q.1,q.2.1,n,q.2.2)) (λq=>0<=q.2.1/\q.2.1<=J0 un/\zFt (B+1) S (.l Ja) q.2.2/\J0 q.2.2<=q.2.1+1/\(q.1=false->J0 q.2.2<=q.2.1)) (λq=>J0 un-q.2.1) ?_ (false,0,[]) rfl ⟨J0F _,K,Jc,by show(0:Int)<=0+1;omega,λ_=>J0F _⟩;rintro⟨done,i,out⟩ ⟨H,h1,h2,h3,h4⟩;dsimp only at H h1 h2 h3 h4;unfold Jfq;dsimp only;have:=Jb i 1;have app: ∀{x:T_api_Grant} {l:List T_api_Grant},zFt (B+1) S (.l Ja) l->zFt (B+1) S Ja x->J0 l+1<=B+1->Tot (JA 32 l [x]) λr=>zFt (B+1) S (.l Ja) r/\J0 r=J0 l+1:=λhl hx M=>
  (J0x (B:=B+1) (Bl:=B+1) (Bm:=B+1) (S:=S) _ 1 hl (J0j oo hx) rfl rfl (J0F _) (J0F _) M oo (by decide)).mono λ_ h=>⟨h.1,h.2.1⟩
 have j:zFt (B+1) S Ja n:=hn.u;have G: ∀{d:Bool} {l:List T_api_Grant},i<J0 un->zFt (B+1) S (.l Ja) l->J0 l<=i+2->(d=false->J0 l<=i+1)->(∃c':Bool×Int×List T_api_Grant,(un,d,J1 .i64 i 1,n,l)=(un,c'.1,c'.2.1,n,c'.2.2)/\(0<=c'.2.1/\c'.2.1<=J0 un/\zFt (B+1) S (.l Ja) c'.2.2/\J0 c'.2.2<=c'.2.1+1/\(c'.1=false->J0 c'.2.2<=c'.2.1))/\J0 un-c'.2.1<J0 un-i/\0<=J0 un-i):=fun{d l} a1 a2 a3 a4=>
  ⟨(d,J1 .i64 i 1,l),rfl,⟨by show 0<=J1 .i64 i 1;omega,by show J1 .i64 i 1<=_;omega,a2,by show J0 l<=J1 .i64 i 1+1;omega,λe=>by show J0 l<=J1 .i64 i 1;have:=a4 e;omega⟩,by show J0 un-J1 .i64 i 1<J0 un-i;omega,oo⟩
 refine .lt (λc=>?_) λc=>Tot.map (P:=λy:List T_api_Grant=>zFt (B+1) S (.l Ja) y/\J0 y<=J0 un+1) ?_ λ_ h=>h
 ·have o:Tot (idx un i) λr=>zFt (B+1) S Ja r:=(Jh h H c).mono λ_ h=>h.1.u
  have body: ∀{d:Bool} {l:List T_api_Grant},zFt (B+1) S (.l Ja) l->J0 l<=i+1->(d=false->J0 l<=i)->Tot (ρ:=(JFK)⊕(List T_api_Grant)) ((idx un i).bind λE=>
    if neI E.1 n.1=false then
     (idx un i).bind λv=>
     if Jr (eqT J0d v.2.1 n.2.1)then
      (idx un i).bind λC=>
      (JA 32 l [C]).bind λw=>
      some (.inl (un,d,J1 .i64 i 1,n,w))
     else
      some (.inl (un,d,J1 .i64 i 1,n,l))
    else
     (idx un i).bind λD=>
     (JA 32 l [D]).bind λA=>
     some (.inl (un,d,J1 .i64 i 1,n,A))) λr=>match r with
      | .inl z=> ∃c':Bool×Int×List T_api_Grant,z=(un,c'.1,c'.2.1,n,c'.2.2)/\(0<=c'.2.1/\c'.2.1<=J0 un/\zFt (B+1) S (.l Ja) c'.2.2/\J0 c'.2.2<=c'.2.1+1/\(c'.1=false->J0 c'.2.2<=c'.2.1))/\J0 un-c'.2.1<J0 un-i/\0<=J0 un-i
      | .inr y=>zFt (B+1) S (.l Ja) y/\J0 y<=J0 un+1:=fun{d l} b1 b2 F=>
   .bind o λE Q=>.nef (λ_=>.bind o λv T=>.ite (λ_=>.bind o λC I=>.bind (app b1 I oo) λw g=>.some (G c g.1 (by have:=g.2;omega) λe=>by have:=F e;have:=g.2;omega)) λ_=>.some (G c b1 oo λe=>by have:=F e;omega)) λ_=>.bind o λD J=>.bind (app b1 J oo) λA k=>.some (G c k.1 (by have:=k.2;omega) λe=>by have:=F e;have:=k.2;omega)
  refine .not (λd=>?_) λd=>(body h2 h3 h4).mono λr h=>by cases r<;>exact h
  have h4:=h4 d;refine .bind o λN O=>.bind (Jis (x1:=(N,n)) ⟨O,j⟩) λV f4=>.not (λ_=>.bind (app h2 j oo) λU L=>?_) λ_=>(body h2 h3 λ_=>h4).mono λr h=>by cases r<;>exact h
  exact(body (d:=true) L.1 (by have:=L.2;omega) λe=>by cases e).mono λr h=>by cases r<;>exact h
 ·exact .not (λd=>.bind (app h2 j (by have:=h4 d;omega)) λy f=>.some ⟨f.1,by have:=f.2;have:=h4 d;omega⟩) λ_=>.some ⟨h2,oo⟩
theorem J6P{x1:J01}(h:zFt B S JD x1)(D:BS B S 0 0:=by omega)(H:B<=1000000:=by omega):Tot (J3x x1) λy=>zFt (2*B) S JD y/\J0 y.1+J0 y.2<=J0 x1.1+J0 x1.2:=by
 unfold J3x;obtain⟨ha,hb⟩:=h;have:J0 x1.1<=B:=ha.1;have:J0 x1.2<=B:=hb.1;refine Jf (τ:=Jeq) (λq=>(q.1,q.2,[],[])) (λq=>0<=q.1/\q.1<=J0 q.2.2/\zFt (2*B) S JD q.2/\J0 q.2.1+J0 q.2.2<=J0 x1.1+J0 x1.2) (λq=>3000000*J0 q.2.2+(J0 q.2.2-q.1)) ?_ (0,x1) rfl ⟨J0F _,J4,⟨ha.u,hb.u⟩,J0F _⟩;rintro⟨i,z⟩ ⟨g,h1,h2,h3⟩;dsimp only at g h1 h2 h3;unfold Jda;dsimp only;have a1:=Jb i 1;have a2:=Jb (-1) 1;have:=J4 (l:=z.1);have:=J4 (l:=z.2);refine .lt (λc=>?_) λc=>.some ⟨h2,h3⟩;refine .bind (Jv3 (x1:=(z,i)) ⟨h2,J3.2 oo⟩ g c) λF _=>.ite (λ_=>?_) λ_=>?_
 ·refine .bind (Jh h2.2 g c) λC f4=>.bind (Jwy (x1:=(z.1,C)) ⟨h2.1,f4.1⟩) λk r=>.bind (J6m h2.2 g (by show i<=J0 z.2;omega)) λA n=>.clo n.1 oo (by decide) (.bind (J3J h2.2 oo (by show _<=J0 z.2;omega)) λj o=>?_);have x:J0 A=i:=n.2;have G:J0 j=J0 z.2-J1 .i64 i 1:=o.2;refine .bind (J0x (B:=2*B) (Bl:=2*B) (Bm:=2*B) (S:=S) i (J0 j) n.1 o.1 x rfl oo oo oo oo (by decide)) λe v=>?_;have E:J0 e=i+J0 j:=v.2.1;have w:=r.2;dsimp only at w;refine .some ⟨(J1 .i64 (-1) 1,(k,e)),rfl,⟨by show 0<=J1 .i64 (-1) 1;omega,by show J1 .i64 (-1) 1<=J0 e;omega,⟨⟨by show J0 k<=2*B;omega,r.1.2⟩,v.1⟩,by show J0 k+J0 e<=_;omega⟩,?_,?_⟩
  ·show 3000000*J0 e+(J0 e-J1 .i64 (-1) 1)<3000000*J0 z.2+(J0 z.2-i);omega
  ·show 0<=3000000*J0 z.2+(J0 z.2-i);omega
 ·refine .some ⟨(J1 .i64 i 1,z),rfl,⟨by show 0<=J1 .i64 i 1;omega,by show J1 .i64 i 1<=J0 z.2;omega,h2,h3⟩,?_,?_⟩
  ·show 3000000*J0 z.2+(J0 z.2-J1 .i64 i 1)<3000000*J0 z.2+(J0 z.2-i);omega
  ·show 0<=3000000*J0 z.2+(J0 z.2-i);omega
end
end Go.Am
end
section
namespace Go.Am
set_option linter.unusedVariables false
set_option maxRecDepth 20000
set_option maxHeartbeats 4000000
theorem J7U{B S:Int}{x1:J9B}(h:zFt B S JnS x1)(z:BG B S:=by omega):Tot (J3Q x1) λy=>zFt B S JD y:=by
 unfold J3Q;refine .bind ((J4O h.1).eqn) λA h1=>.not (λr=>?_) λr=>?_
 ·exact .some h.1
 ·have v3:=J3X h.1 h1.2 r;have e:zFt 1024 0 JD x1.1:=v3.2;refine .bind (JaH (B:=1024) (S:=0) (⟨e.1,h.2,trivial,fzr⟩)) λv n=>?_;have g:zFt 1025 0 (.l Ja) v:=n.u;refine .bind (JaH (B:=1024) (S:=0) (⟨e.2,h.2,trivial,fzr⟩)) λx j=>?_;have o:zFt 1025 0 (.l Ja) x:=j.u;refine .bind (J6P (B:=1025) (S:=0) (⟨g,o⟩)) λw q=>?_;have k:zFt 2050 0 JD w:=q.1.u;exact .some k.u
theorem J7P{B S:Int}{x1:J1G}(h:zFt B S tq1 x1)(w:BG B S:=by omega):Tot (J1k x1) λy=>zFt 4096 8192 (.pr Jm zI) y:=by
 unfold J1k;refine .bind ((J1o h.1).eqn) λA h1=>.not (λo=>?_) λo=>?_
 ·exact .some (⟨fzr,fkn 15⟩)
 ·have v3:=J1y h.1 h1.2 o;have e:zFt 4096 8192 J9 x1.1:=v3.2;refine .bind ((J3h (B:=4096) (S:=8192) (x1:=(x1.1.2.2.2.2.2.1,x1.2)) (⟨e.g.1,h.2⟩)).eqn) λn j=>?_;have:=J3.1 j.1.1;have:J0 x1.1.2.2.2.2.2.1=_:=Jk e.g.1;have: -1<=n/\n<J0 x1.1.2.2.2.2.2.1:=j.1.2;refine .lt (λq=>?_) λq=>?_
  ·exact .some (⟨fzr,fkn 16⟩)
  ·refine .bind (Jh e.g.1) λz v=>.eq (λk=>?_) λk=>?_
   ·exact .some (⟨fzr,fkn 15⟩)
   ·refine .bind (Jh e.g.1) λx r=>.some (⟨r.1,fk0⟩)
theorem JhG{B S:Int}{x1:J1G}(h:zFt B S tq1 x1)(r:BG B S:=by omega):Tot (J2V x1) λy=>zFt 0 8192 JAp y:=by
 unfold J2V;refine .bind (J7P (B:=B) (S:=S) (h)) λg h1=>.nef (λn=>?_) λn=>?_
 ·have:J0 g.1.2.2.2.2.1<=4096:=h1.1.e.1.1;have:=J4 (l:=g.1.2.2.2.2.1);refine .eqf (λq=>?_) λq=>?_
  ·have:=J0o (J0 g.1.2.2.2.2.1) 1;refine .bind (Jh h1.1.e.1) λv w=>.le (λo=>?_) λo=>?_
   ·exact .some (⟨⟨fk0,fk0,fk0,fk0,fk0,fk0,⟨fk0,fk0,⟨trivial,Je⟩,trivial,Je⟩,Je⟩,trivial⟩)
   ·refine .bind (Jh h1.1.e.1) λx k=>.bind (J4q (B:=B) (S:=S) (⟨h.1.c.1,k.1⟩)) λz j=>.some (⟨j.1,trivial⟩)
  ·exact .some (⟨⟨fk0,fk0,fk0,fk0,fk0,fk0,⟨fk0,fk0,⟨trivial,Je⟩,trivial,Je⟩,Je⟩,trivial⟩)
 ·exact .some (⟨⟨fk0,fk0,fk0,fk0,fk0,fk0,⟨fk0,fk0,⟨trivial,Je⟩,trivial,Je⟩,Je⟩,trivial⟩)
theorem Jh4{B S:Int}{x1:JT×T_api_Change}(h:zFt B S (.pr Ju J15) x1)(o:BS B S 0 0:=by omega):Tot (J3W x1) λy=>zFt 0 S tq5 y:=by
 unfold J3W;have s0:zFt 0 S (.pr Ju J15) x1:=h;refine .bind (JbX (B:=0) (S:=S) s0.2) λv h1=>.not (λg=>?_) λg=>?_
 ·exact .some (⟨⟨fk0,fk0,J0i oo oo (.ar 16 JJ)⟩,fkn 22⟩)
 ·have:=J3.1 s0.2.1;have:=J3.1 s0.2.2.1;have:0<=x1.2.1/\x1.2.1<64/\0<=x1.2.2.1/\x1.2.2.1<16/\J0 x1.2.2.2.1.2<=12/\J0 x1.2.2.2.2.2<=12:=h1.2 g;refine .ne (λj=>?_) λj=>?_
  ·exact .some (⟨⟨fk0,fk0,J0i oo oo (.ar 16 JJ)⟩,fkn 6⟩)
  ·refine .bind (J7k) λ_ _=>.bind (Jcd s0.1.2.2) λw k=>.not (λe=>?_) λe=>?_
   ·exact .some (⟨⟨fk0,fk0,J0i oo oo (.ar 16 JJ)⟩,fkn 20⟩)
   ·have n:=J1I.1 e;refine .bind (J7k) λ_ _=>.bind (Jcd s0.1.2.2) λr q=>.some (⟨⟨s0.1.1,s0.1.2.1,JkA s0.1.2.2 s0.2.2.2.2⟩,fk0⟩)
theorem JlR{B S:Int}{x1:T_api_Change}(h:zFt B S J15 x1)(e:BS B S 0 0:=by omega):Tot (J6c x1) λy=>zFt 0 S J15 y:=by unfold J6c;have s0:zFt 0 S J15 x1:=h;exact .some (⟨s0.1,s0.2.1,s0.2.2.2,s0.2.2.1⟩)
theorem Jhz{B S:Int}{x1:JBA}(h:zFt B S (.pr JD Jd) x1)(v:BG B S:=by omega):Tot (J8d x1) λy=>zFt B S JD y:=by
 unfold J8d;refine .bind ((J4O h.1).eqn) λw h1=>.not (λg=>?_) λg=>?_
 ·exact .some h.1
 ·have v3:=J3X h.1 h1.2 g;have e:zFt 1024 0 JD x1.1:=v3.2;refine .bind (JaH (B:=1024) (S:=0) (⟨e.1,h.2.1,trivial,h.c⟩)) λq k=>?_;have j:zFt 1025 0 (.l Ja) q:=k.u;refine .bind (J6P (B:=1025) (S:=0) (⟨j,e.2.u⟩)) λr n=>?_;have o:zFt 2050 0 JD r:=n.1.u;exact .some o.u
theorem Jn8{B S:Int}{x1:Jt4}(h:zFt B S JEw x1)(I:BG B S:=by omega):Tot (J4j x1) λy=>zFt 64 12 tq7 y:=by
 unfold J4j;refine .bind ((J3U h.1).eqn) λL h1=>.not (λv=>?_) λv=>?_
 ·exact .some (⟨fzr,fkn 15⟩)
 ·have v3:=J30 h.1 h1.2 v;have:J0 x1.1.2.1=_:=Jk h.1.2.1;have h10:zFt 64 12 JM x1.1:=v3.2;refine .bind ((J7p (B:=0) (S:=S) (x1:=x1.2) h.2.z).eqn) λJ k=>.ne (λj=>?_) λj=>?_
  ·exact .some (⟨fzr,k.1⟩)
  ·have D:=J7v (x:=x1.2) h.2.z k.2 j;have g:zFt 0 12 Ju x1.2:=D.2;refine .bind (J5E (B:=64) (S:=12) (⟨h10,g.1⟩)) λA e=>?_;have:=J3.1 e.1;have: -1<=A/\A<J0 x1.1.2.1:=e.2;refine .lt (λw=>?_) λw=>?_
   ·exact .some (⟨fzr,fkn 18⟩)
   ·refine .bind (Jh h10.2.1) λK F=>.le (λC=>?_) λC=>?_
    ·exact .some (⟨fzr,fkn 8⟩)
    ·refine .not (λo=>?_) λo=>?_
     ·refine .bind (J7C (B:=64) (S:=12) (⟨h10,e.1,g.u,trivial,g.2.1,trivial⟩) om om) λH q=>?_;have r:zFt 64 12 JM H:=q.1.u;exact .some (⟨r,fk0⟩)
     ·refine .bind (J7C (B:=64) (S:=12) (⟨h10,e.1,g.u,trivial,F.1.z.2.2.1,trivial⟩) om om) λG E=>?_;have n:zFt 64 12 JM G:=E.1.u;exact .some (⟨n,fk0⟩)
theorem JeL{B S:Int}{x1:JoR}(h:zFt B S JtB x1)(r:BG B S:=by omega):Tot (J4n x1) λy=>zFt B S tq1 y/\(y.2=0->J0 y.1.2.2.1.2.1=J0 x1.1.2.2.1.2.1+1):=by
 unfold J4n;refine .bind ((J5e (B:=B) (S:=S) (x1:=(x1.1,x1.2)) (⟨h.1,h.2.z.u⟩)).eqn) λk h1=>?_;have:J0 k.1.2.2.1.2.1=_:=Jk h1.1.1.1.c.1.2.1;have:J0 x1.1.2.2.1.2.1=_:=Jk h.1.c.1.2.1;have:=J3.1 h.2.z.2.2.2.2.2.2.1.2.1;have:k.2.2=0->J0 k.1.2.2.1.2.1=J0 x1.1.2.2.1.2.1+1/\J0 x1.1.2.2.1.2.1<=4095/\0<=x1.2.2.2.2.2.2.2.1.1/\x1.2.2.2.2.2.2.2.1.1<64/\0<=x1.2.2.2.2.2.2.2.1.2.1/\x1.2.2.2.2.2.2.2.1.2.1<16:=h1.1.2;refine .ne (λn=>?_) λn=>?_
 ·exact .some ⟨(⟨h.1,h1.1.1.c⟩),om⟩
 ·refine .bind (J9e (B:=B) (S:=S) (⟨h.1.d.1,h.2.z.2.2.2.2.2.2.1.1⟩)) λw g=>.bind (J7k) λ_ _=>.bind (Jcd g.1.c) λx q=>.bind (Jn8 (B:=B) (S:=S) (⟨h.1.d.1,g.1.1,h1.1.1.2.1,(JkA g.1.c h.2.z.2.2.2.2.2.2.1.2.2.2).u⟩)) λv j=>.ne (λo=>?_) λo=>?_
  ·exact .some ⟨(⟨h.1,j.2⟩),om⟩
  ·exact .some ⟨(⟨⟨h1.1.1.1.1,h1.1.1.1.2.1,h1.1.1.1.c.1.u,j.1.u,h1.1.1.1.e.u⟩,fk0⟩),om⟩
theorem JAv{B S:Int}{x1:JJD}(h:zFt B S (.pr J9 (.pr Jm (.pr J0d zI))) x1)(p0:x1.2.2.2<=J0 x1.2.1.2.2.2.2.1)(A:0<=x1.2.2.2)(w:BC B S 0 0:=by omega):Tot (J74 x1) λy=>zFt 0 8192 JAp y:=by
 unfold J74;have:=J3.1 h.d;have:J0 x1.2.1.2.2.2.2.1<=B:=h.2.1.e.1.1;have:=J0o x1.2.2.2 1;refine Jf (τ:=Int) (λq=>(q,x1.1,x1.2.1,x1.2.2.1,0,0,0,0,0,0,(0,0,(false,[]),false,[]),[])) (λq=>(zFt 0 0 zI q/\q<=JH .i64 x1.2.2.2 1)) (λq=>q-0) ?_ (JH .i64 x1.2.2.2 1) rfl ?_
 ·rintro g ⟨v,x⟩;unfold JcG
  try dsimp only
  have:=J3.1 v;refine .ge (λr=>?_) λr=>?_
  ·refine .bind (Jh h.2.1.e.1) λz h10=>.bind (J4q (B:=B) (S:=S) (⟨h.1.c.1,h10.1⟩)) λC j=>.eq (λk=>?_) λk=>?_
   ·have:=J3.1 j.1.h.1.1;refine .eq (λo=>?_) λo=>?_
    ·have:=J3.1 j.1.h.1.2.1;refine .eq (λn=>?_) λn=>?_
     ·exact .some (⟨j.1,trivial⟩)
     ·have:=J0o g 1;exact .some ⟨JH .i64 g 1,rfl,⟨J2f,om⟩,om,om⟩
    ·have:=J0o g 1;exact .some ⟨JH .i64 g 1,rfl,⟨J2f,om⟩,om,om⟩
   ·have:=J0o g 1;exact .some ⟨JH .i64 g 1,rfl,⟨J2f,om⟩,om,om⟩
  ·exact .some (⟨⟨fk0,fk0,fk0,fk0,fk0,fk0,⟨fk0,fk0,⟨trivial,Je⟩,trivial,Je⟩,Je⟩,trivial⟩)
 ·try dsimp only
  exact⟨J2f,oo⟩
theorem Jf8{B S:Int}{x1:Jnz}(h:zFt B S JGm x1)(o:BG B S:=by omega):Tot (J3b x1) λy=>zFt 0 8192 JAp y:=by
 unfold J3b;refine .bind (J7P (B:=B) (S:=S) (⟨h.1,h.2.1⟩)) λg h1=>.nef (λj=>?_) λj=>?_
 ·have:=J3.1 h1.1.2.1;refine .ne (λn=>?_) λn=>?_
  ·exact .some (⟨⟨fk0,fk0,fk0,fk0,fk0,fk0,⟨fk0,fk0,⟨trivial,Je⟩,trivial,Je⟩,Je⟩,trivial⟩)
  ·have:J0 g.1.2.2.2.2.1<=4096:=h1.1.e.1.1;have:=J4 (l:=g.1.2.2.2.2.1);refine .bind (JAv (B:=B) (S:=S) (⟨h.1,h1.1.u,h.c,J4y h1.1.e.1.1 oo⟩) om om) λq k=>.some (⟨k.1,trivial⟩)
 ·exact .some (⟨⟨fk0,fk0,fk0,fk0,fk0,fk0,⟨fk0,fk0,⟨trivial,Je⟩,trivial,Je⟩,Je⟩,trivial⟩)
theorem JcL{B S:Int}{x1:JAj}(h:zFt B S (.pr J9 (.pr Jm J5)) x1)(E:BG B S:=by omega):Tot (J0W x1) λy=>zFt B S tq4 y/\((y.2.1=1/\J0 y.1.2.2.1.2.1=J0 x1.1.2.2.1.2.1+1)\/y.2.1=3\/y.2.1=5):=by
 unfold J0W;refine .bind (J9e (B:=B) (S:=S) (⟨h.1.d.1,h.c.z.2.2.2.2.2.2.1.1⟩)) λL h1=>.not (λC=>?_) λC=>?_
 ·have:J0 x1.1.2.2.1.2.1<=B:=h.1.c.1.2.1.1;exact .some ⟨(⟨h.1,fkn 3,fk0,h.c.z.2.2.2.2.2.2.1.1,⟨trivial,Je⟩,fk0⟩),om⟩
 ·refine .bind (JlR (B:=0) (S:=S) h.c.z.2.2.2.2.2.2.1) λG k=>.bind (Jh4 (B:=0) (S:=S) (⟨h1.1,k⟩)) λK A=>.ne (λx=>?_) λx=>?_
  ·refine .bind (J0a A.2) λI h10=>.some ⟨(⟨h.1,h10.1.u⟩),om⟩
  ·refine .bind (JeL (B:=B) (S:=S) (⟨h.1,fk0,fkn 2,h.2.1.1,fk0,fk0,h.c.z.1,k.u,Je⟩)) λn j=>?_;have:J0 n.1.2.2.1.2.1=_:=Jk j.1.1.c.1.2.1;have:J0 x1.1.2.2.1.2.1=_:=Jk h.1.c.1.2.1;have:n.2=0->J0 n.1.2.2.1.2.1=J0 x1.1.2.2.1.2.1+1:=j.2;refine .ne (λq=>?_) λq=>?_
   ·refine .bind (J0a j.1.2) λF w=>.some ⟨(⟨h.1,w.1.u⟩),om⟩
   ·have:=J3.1 h.2.1.2.1;refine .eq (λo=>?_) λo=>?_
    ·refine .bind (Jf8 (B:=B) (S:=S) (⟨j.1.1,h.2.1.1,k.1,k.2.1⟩)) λH D=>.not (λr=>?_) λr=>?_
     ·refine .bind (Jhz (B:=B) (S:=S) (⟨j.1.1.e.1,h.2.1.1,k.1,k.2.1⟩)) λJ v=>.some ⟨(⟨⟨j.1.1.1,j.1.1.2.1,j.1.1.c.1,j.1.1.d.1,v,j.1.1.g⟩,fkn 1,h.2.1.1,fk0,⟨trivial,Je⟩,fk0⟩),om⟩
     ·exact .some ⟨(⟨j.1.1,fkn 1,h.2.1.1,fk0,⟨trivial,Je⟩,fk0⟩),om⟩
    ·exact .some ⟨(⟨j.1.1,fkn 1,h.2.1.1,fk0,⟨trivial,Je⟩,fk0⟩),om⟩
theorem JhI{B S:Int}{x1:J1G}(h:zFt B S tq1 x1)(P:BG B S:=by omega):Tot (J0M x1) λy=>zFt B S tq4 y/\((y.2.1=1/\J0 y.1.2.2.1.2.1=J0 x1.1.2.2.1.2.1+1)\/y.2.1=3\/y.2.1=5):=by
 unfold J0M;refine .bind (J7P (B:=B) (S:=S) (h)) λM h1=>.ne (λK=>?_) λK=>?_
 ·refine .bind (J0a h1.2) λR h4=>.some ⟨(⟨h.1,h4.1.u⟩),om⟩
 ·have:=J3.1 h1.1.2.1;refine .eq (λF=>?_) λF=>?_
  ·have:J0 M.1.2.2.2.2.1<=4096:=h1.1.e.1.1;refine .eq (λv=>?_) λv=>?_
   ·refine .bind ((J5e (B:=B) (S:=S) (x1:=(x1.1,0,5,x1.2,0,0,0,(0,0,(false,[]),false,[]),[])) (⟨h.1,fk0,fkn 5,h.2,fk0,fk0,fk0,⟨fk0,fk0,⟨trivial,Je⟩,trivial,Je⟩,Je⟩)).eqn) λr j=>?_;have:J0 r.1.2.2.1.2.1=_:=Jk j.1.1.1.c.1.2.1;have:J0 x1.1.2.2.1.2.1=_:=Jk h.1.c.1.2.1;have:r.2.2=0->J0 r.1.2.2.1.2.1=J0 x1.1.2.2.1.2.1+1/\J0 x1.1.2.2.1.2.1<=4095/\0<=(0:Int)/\(0:Int)<64/\0<=(0:Int)/\(0:Int)<16:=j.1.2;refine .ne (λH=>?_) λH=>?_
    ·refine .bind (J0a j.1.1.c) λU x=>.some ⟨(⟨h.1,x.1.u⟩),om⟩
    ·refine .bind (J7U (B:=16384) (S:=1073741824) (⟨j.1.1.1.e.1,h.2⟩)) λL A=>?_;have E:zFt 16384 1073741824 JD L:=A.u;exact .some ⟨(⟨⟨j.1.1.1.1,j.1.1.1.2.1,j.1.1.1.c.1.u,j.1.1.1.d.1.u,E.u,j.1.1.1.g.u⟩,fkn 1,fk0,fk0,⟨trivial,Je⟩,fk0⟩),om⟩
   ·refine .bind (JhG (B:=B) (S:=S) (h)) λQ D=>.not (λw=>?_) λw=>?_
    ·refine .bind (J0a (B:=0) (S:=0) (fkn 14)) λT C=>.some ⟨(⟨h.1,C.1.u⟩),om⟩
    ·refine .bind (JcL (B:=B) (S:=S) (⟨h.1,h1.1.u,D.1.u⟩)) λq o=>?_;have:(q.2.1=1/\J0 q.1.2.2.1.2.1=J0 x1.1.2.2.1.2.1+1)\/q.2.1=3\/q.2.1=5:=o.2;exact .some ⟨(⟨o.1.1,o.1.2.z.u⟩),om⟩
  ·refine .bind (JhG (B:=B) (S:=S) (h)) λN G=>.not (λI=>?_) λI=>?_
   ·refine .bind (J0a (B:=0) (S:=0) (fkn 14)) λO J=>.some ⟨(⟨h.1,J.1.u⟩),om⟩
   ·refine .bind (JcL (B:=B) (S:=S) (⟨h.1,h1.1.u,G.1.u⟩)) λk n=>?_;have:(k.2.1=1/\J0 k.1.2.2.1.2.1=J0 x1.1.2.2.1.2.1+1)\/k.2.1=3\/k.2.1=5:=n.2;exact .some ⟨(⟨n.1.1,n.1.2.z.u⟩),om⟩
theorem Jf4{B S:Int}{x1:J1G}(h:zFt B S tq1 x1)(w:BG B S:=by omega):Tot (J6J x1) λy=>zFt 4096 8192 (.pr Jm .b) y:=by
 unfold J6J;refine .bind ((J1o h.1).eqn) λA h1=>.ite (λo=>?_) λo=>?_
 ·have v3:=J1y h.1 h1.2 o;have e:zFt 4096 8192 J9 x1.1:=v3.2;refine .bind ((J3h (B:=4096) (S:=8192) (x1:=(x1.1.2.2.2.2.2.1,x1.2)) (⟨e.g.1,h.2⟩)).eqn) λk n=>?_;have:J0 x1.1.2.2.2.2.2.1=_:=Jk e.g.1;have: -1<=k/\k<J0 x1.1.2.2.2.2.2.1:=n.1.2;refine .ge (λq=>?_) λq=>?_
  ·refine .bind (Jh e.g.1) λz v=>.eq (λj=>?_) λj=>?_
   ·refine .bind (Jh e.g.1) λx r=>.some (⟨r.1,trivial⟩)
   ·exact .some (⟨fzr,trivial⟩)
  ·exact .some (⟨fzr,trivial⟩)
 ·exact .some (⟨fzr,trivial⟩)
theorem JtS{B S:Int}{x1:J6}(h:zFt B S J9 x1)(D:BH B S:=by omega)(K:B<=34359738368:=by omega):Tot (Jaq x1) λy=>zFt B 0 (.l zI) y:=by
 unfold Jaq;have:J0 x1.2.2.2.2.2.1<=B:=h.g.1.1;have:=J4 (l:=x1.2.2.2.2.2.1);have:J0 x1.2.2.2.2.2.1=_:=Jk h.g.1;refine Jf (τ:=Jtb) (λq=>(q.1,x1,q.2)) (λq=>(zFt 0 0 zI q.1/\0<=q.1/\(q.1<=J0 x1.2.2.2.2.2.1\/q.1<=0))/\(zFt B 0 (.l zI) q.2/\J0 q.2<=1*q.1+0)) (λq=>J0 x1.2.2.2.2.2.1-q.1) ?_ (0,[]) rfl ?_
 ·rintro⟨e,j⟩ n;dsimp only at n;obtain⟨⟨A,E,J⟩,k,F⟩:=n;unfold JfX
  try dsimp only
  have:=J3.1 A;refine .lt (λx=>?_) λx=>?_
  ·refine .bind (Jh h.g.1) λG o=>.bind (Jf4 (B:=B) (S:=S) (⟨h,o.1.1⟩)) λI C=>.ite (λw=>?_) λw=>?_
   ·refine .bind (Jh h.g.1) λH r=>?_;have:J0 j<=B:=k.1;refine .bind (J0x (B:=B) (Bl:=B) (Bm:=1) (S:=0) (J0 j) 1 k (J0j (B:=1) (S:=0) (t:=zI) oo r.1.1)) λz v=>?_;have:=Jb e 1;exact .some ⟨(J1 .i64 e 1,z),rfl,⟨⟨J8,om,om⟩,v.1,om⟩,om,om⟩
   ·have:=Jb e 1;exact .some ⟨(J1 .i64 e 1,j),rfl,⟨⟨J8,om,om⟩,k,om⟩,om,om⟩
  ·exact .some k
 ·have:J0 ([]:List Int)=0:=rfl
  try dsimp only
  exact⟨⟨fk0,oo,oo⟩,Jc,oo⟩
theorem JxV{B S:Int}{x1:J9z}(h:zFt B S JFW x1)(n:BS B S 0 0:=by omega)(w:B<=9223372036854775807:=by omega):Tot (Jbm x1) λy=>zFt 0 0 .b y:=by
 unfold Jbm;have:J0 x1.1<=B:=h.1.1;have:=J4 (l:=x1.1);refine Jf (τ:=Int) (λq=>(x1.1,x1.2,q)) (λq=>(zFt 0 0 zI q/\0<=q/\(q<=J0 x1.1\/q<=0))) (λq=>J0 x1.1-q) ?_ 0 rfl ?_
 ·rintro e ⟨j,o,v⟩;unfold Jh0
  try dsimp only
  have:=J3.1 j;refine .lt (λk=>?_) λk=>?_
  ·refine .bind (Jh h.1) λr h10=>.eq (λg=>?_) λg=>?_
   ·exact .some trivial
   ·have:=Jb e 1;exact .some ⟨J1 .i64 e 1,rfl,⟨J8,om,om⟩,om,om⟩
  ·exact .some trivial
 ·try dsimp only
  exact⟨fk0,oo,oo⟩
theorem Jv4{B S:Int}{x1:J6A}(h:zFt B S JkP x1)(k:BC B S 0 0:=by omega):Tot (JaE x1) λy=>zFt 0 256 JbL y:=by
 unfold JaE;refine .bind ((JaZ (B:=B) (S:=S) (x1:=(x1.1,x1.2)) (h)).eqn) λq h1=>.ne (λe=>?_) λe=>?_
 ·exact .some (⟨Je,h1.1⟩)
 ·have v4:=JnA (x:=(x1.1,x1.2)) (h) h1.2 e;have:=J3.1 h.2;have:0<=x1.2/\x1.2<J0 x1.1.1/\J0 x1.1.1<=64:=v4.1;have h10:zFt 64 256 JV x1.1:=v4.2;refine .bind (JxV (B:=64) (S:=256) (⟨h10.c.1,h.2⟩)) λo n=>.ite (λj=>?_) λj=>?_
  ·exact .some (⟨Je,fkn 11⟩)
  ·refine .bind (Jh h10.1) λr g=>.some (⟨g.1.z,fk0⟩)
theorem J1i{B S:Int}{x1:J0J}(h:zFt B S JB x1)(D:BS B S 0 0:=by omega)(H:S<=9223372036854775807:=by omega):Tot (J09 x1) λy=>zFt 0 0 J0d y:=by
 unfold J09;have s0:zFt 0 S JB x1:=h;have:=J3.1 s0.2.2;refine .ltf (λr=>?_) λr=>?_
 ·refine .gtf (λc3=>?_) λc3=>?_
  ·have:=J3.1 s0.2.1;refine .lt (λx=>?_) λx=>?_
   ·exact .some (⟨fk0,fkn 1⟩)
   ·have:J0 x1.1<=S:=s0.1;have:=J4 (l:=x1.1);refine .gtf (λw=>?_) λw=>?_
    ·have:=J0o (J0 x1.1) x1.2.1;refine .lt (λo=>?_) λo=>?_
     ·exact .some (⟨fk0,fkn 5⟩)
     ·refine Jf (τ:=Int×Int) (λq=>(x1.1,x1.2.1,x1.2.2,q.1,q.2)) (λq=>(zFt 0 0 zI q.2/\0<=q.2/\(q.2<=x1.2.2\/q.2<=0))/\zFt 0 0 (.i .u64) q.1) (λq=>x1.2.2-q.2) ?_ (0,0) rfl ?_
      ·rintro⟨j,e⟩ g;dsimp only at g;obtain⟨⟨k,C,z⟩,F⟩:=g;unfold J9k
       try dsimp only
       have:=J3.1 k;refine .lt (λn=>?_) λn=>?_
       ·have:=Jb x1.2.1 e;refine .bind (JBe (l:=x1.1)) λG E=>?_;have:=cvu .u64 (J2u .i64 8 e);refine .bind (JJR (B:=0) (S:=0) oo) λv A=>?_;have:=Jb e 1;exact .some ⟨(orI .u64 j v,J1 .i64 e 1),rfl,⟨⟨J8,om,om⟩,JIx⟩,om,om⟩
       ·exact .some (⟨JbI,fk0⟩)
      ·try dsimp only
       exact⟨⟨fk0,oo,oo⟩,J58 .u64 0⟩
    ·exact .some (⟨fk0,fkn 5⟩)
  ·exact .some (⟨fk0,fkn 1⟩)
 ·exact .some (⟨fk0,fkn 1⟩)
theorem JrO{B S:Int}{x1:Unit}(h:zFt B S .u x1)(e:BS B S 0 0:=by omega):Tot (J9x x1) λy=>zFt 0 1000000 .s y:=by unfold J9x;refine .bind (J9q (B:=0) (S:=0) (fkn 256) om om) λg h1=>.some h1.1
theorem Jpy{B S:Int}{x1:List UInt8}(h:zFt B S .s x1)(Y:BS B S 0 0:=by omega)(hS:S<=9223372036854775807:=by omega):Tot (J8w x1) λy=>zFt 0 S tq5 y:=by
 unfold J8w;have s0:zFt 0 S .s x1:=h;have:=J4 (l:=x1);refine .ne (λL=>?_) λL=>?_
 ·exact .some (⟨⟨fk0,fk0,J0i oo oo (.ar 16 JJ)⟩,fkn 2⟩)
 ·refine .bind (JrO trivial) λy2 h4=>.ite (λN=>?_) λN=>?_
  ·exact .some (⟨⟨fk0,fk0,J0i oo oo (.ar 16 JJ)⟩,fkn 7⟩)
  ·refine .bind (JcM s0) λy3 h6=>.bind (JwK s0) λy4 h9=>.ite (λr=>?_) λr=>?_
   ·exact .some (⟨⟨fk0,fk0,J0i oo oo (.ar 16 JJ)⟩,fkn 27⟩)
   ·refine .bind ((J1i (B:=0) (S:=S) (x1:=(x1,244,4)) (⟨s0,fkn 244,fkn 4⟩)).eqn) λy5 P=>.bind (JcM s0) λM w=>?_;have A:zFt 0 S .s M:=w.1;refine .bind (Jbp A) λy7 R=>.ne (λI=>?_) λI=>?_
    ·exact .some (⟨⟨fk0,fk0,J0i oo oo (.ar 16 JJ)⟩,fkn 3⟩)
    ·refine .bind ((J1i (B:=0) (S:=S) (x1:=(x1,0,8)) (⟨s0,fk0,fkn 8⟩)).eqn) λK D=>.bind ((J1i (B:=0) (S:=S) (x1:=(x1,8,4)) (⟨s0,fkn 8,fkn 4⟩)).eqn) λO C=>Jf (τ:=Jt5) (λq=>(x1,q.1,(0,0,Vector.replicate 16 (false,[])),q.2)) (λq=>(zFt 0 0 zI q.1/\0<=q.1/\(q.1<=16\/q.1<=0))/\zFt 0 S Ju q.2) (λq=>16-q.1) ?_ (0,(O.1,K.1,Vector.replicate 16 (false,[]))) rfl ?_
     ·rintro⟨e,g⟩ n;dsimp only at n;obtain⟨⟨z,Q,a0⟩,j⟩:=n;unfold Jdg
      try dsimp only
      have:=J3.1 z;refine .lt (λG=>?_) λG=>?_
      ·have:=JFu e 13;have:=Jdn 12 (J2u .i64 e 13);refine .bind (JBe (l:=x1)) λo U=>?_;have:=JAr o;refine .eq (λF=>?_) λF=>?_
       ·have:=Jdn e 1;exact .some ⟨(J1 .i64 e 1,g),rfl,⟨⟨J8,om,om⟩,j⟩,om,om⟩
       ·refine .gt (λE=>?_) λE=>?_
        ·exact .some (⟨⟨fk0,fk0,J0i oo oo (.ar 16 JJ)⟩,fkn 4⟩)
        ·have:=Jdn (J1 .i64 12 (J2u .i64 e 13)) 1;have:=Jdn (J1 .i64 (J1 .i64 12 (J2u .i64 e 13)) 1) (cvI .i64 o);refine .bind (JcS s0) λk J=>?_;have H:zFt 0 S .s k:=J.1;refine .bind (J7k) λ_ _=>.bind (Jcd j.2.2) λW Z=>?_;have:=Jdn e 1;exact .some ⟨(J1 .i64 e 1,(g.1,g.2.1,JgI g.2.2 (Int.toNat e) (true,k))),rfl,⟨⟨J8,om,om⟩,j.1,j.2.1,JkA j.2.2 (⟨trivial,H⟩)⟩,om,om⟩
      ·refine .inr ?_;refine .bind (Jb7 j) λT V=>.nef (λx=>?_) λx=>?_
       ·refine .ite (λv=>?_) λv=>?_
        ·exact .some (⟨⟨fk0,fk0,J0i oo oo (.ar 16 JJ)⟩,fkn 4⟩)
        ·exact .some (⟨j,fk0⟩)
       ·exact .some (⟨⟨fk0,fk0,J0i oo oo (.ar 16 JJ)⟩,fkn 4⟩)
     ·try dsimp only
      exact⟨⟨fk0,oo,oo⟩,C.1.1,D.1.1,J0i oo oo (.ar 16 JJ)⟩
theorem JyI{B S x1:Int}(h:zFt B S zI x1)(e:BS B S 0 0:=by omega):Tot (J9b x1) λy=>zFt 0 0 Ju y:=by unfold J9b;exact .some (⟨h,fk0,J0i oo oo (.ar 16 JJ)⟩)
theorem Jkf{B S:Int}{x1:J4p}(h:zFt B S JbL x1)(o:BS B S 0 0:=by omega)(r:S<=9223372036854775807:=by omega):Tot (J3u x1) λy=>zFt 0 S tq5 y:=by
 unfold J3u;have s0:zFt 0 S JbL x1:=h;refine .ltf (λn=>?_) λn=>?_
 ·refine .ge (λc3=>?_) λc3=>?_
  ·exact .some (⟨⟨fk0,fk0,J0i oo oo (.ar 16 JJ)⟩,fkn 1⟩)
  ·refine .bind (Jpy (B:=0) (S:=S) s0.1) λv h4=>.eq (λk=>?_) λk=>?_
   ·refine .bind (JyI (B:=0) (S:=0) s0.2) λq g=>.some (⟨g.u,fk0⟩)
   ·refine .eq (λj=>?_) λj=>?_
    ·have:=J3.1 h4.1.1;refine .ne (λe=>?_) λe=>?_
     ·exact .some (⟨⟨fk0,fk0,J0i oo oo (.ar 16 JJ)⟩,fkn 6⟩)
     ·exact .some (h4)
    ·exact .some (h4)
 ·exact .some (⟨⟨fk0,fk0,J0i oo oo (.ar 16 JJ)⟩,fkn 1⟩)
theorem JrY{B S:Int}{x1:JJ5}(h:zFt B S (.pr (.l Jd) (.pr zI (.pr zI .s))) x1)(E:BC B S 0 0:=by omega)(J:S<=9223372036854775807:=by omega):Tot (J4M x1) λy=>zFt 0 S tq5 y:=by
 unfold J4M;refine .bind ((J5V h.1).eqn) λK h1=>.not (λr=>?_) λr=>?_
 ·exact .some (⟨⟨fk0,fk0,J0i oo oo (.ar 16 JJ)⟩,fkn 28⟩)
 ·have v3:=J4R h.1 h1.2 r;have:J0 x1.1=_:=Jk h.1;have g:zFt 64 0 (.l Jd) x1.1:=v3.2;have:=J3.1 h.2.z.1;refine .ltf (λx=>?_) λx=>?_
  ·refine .gef (λo=>?_) λo=>?_
   ·have:=J3.1 h.2.z.2.1;refine .lt (λj=>?_) λj=>?_
    ·exact .some (⟨⟨fk0,fk0,J0i oo oo (.ar 16 JJ)⟩,fkn 1⟩)
    ·refine .bind (Jkf (B:=0) (S:=S) (⟨h.2.z.2.2,h.2.z.1⟩)) λF e=>.ne (λq=>?_) λq=>?_
     ·exact .some (⟨⟨fk0,fk0,J0i oo oo (.ar 16 JJ)⟩,e.2⟩)
     ·have:=J3.1 e.1.2.1;refine .gt (λk=>?_) λk=>?_
      ·refine .bind (Jh g) λI C=>.gt (λw=>?_) λw=>?_
       ·exact .some (⟨⟨fk0,fk0,J0i oo oo (.ar 16 JJ)⟩,fkn 9⟩)
       ·refine .bind (Jh g) λG A=>.lt (λv=>?_) λv=>?_
        ·exact .some (⟨⟨fk0,fk0,J0i oo oo (.ar 16 JJ)⟩,fkn 8⟩)
        ·exact .some (⟨e.1,fk0⟩)
      ·refine .bind (Jh g) λH D=>.lt (λn=>?_) λn=>?_
       ·exact .some (⟨⟨fk0,fk0,J0i oo oo (.ar 16 JJ)⟩,fkn 8⟩)
       ·exact .some (⟨e.1,fk0⟩)
   ·exact .some (⟨⟨fk0,fk0,J0i oo oo (.ar 16 JJ)⟩,fkn 1⟩)
  ·exact .some (⟨⟨fk0,fk0,J0i oo oo (.ar 16 JJ)⟩,fkn 1⟩)
theorem Jyf{B S:Int}{x1:Jt4}(h:zFt B S JEw x1)(D:BG B S:=by omega):Tot (J3F x1) λy=>zFt 65 12 (.pr zI (.pr zI (.pr zI (.l J08)))) y/\(y.2.2.1=0->J0 y.2.2.2=J0 x1.1.2.1+1):=by
 unfold J3F;refine .bind ((J3U h.1).eqn) λG h1=>.not (λr=>?_) λr=>?_
 ·have:J0 x1.1.2.1<=B:=h.1.2.1.1;exact .some ⟨(⟨fk0,fk0,fkn 15,Jc⟩),om⟩
 ·have w:=J30 h.1 h1.2 r;have:J0 x1.1.2.1<=B:=h.1.2.1.1;have:J0 x1.1.2.1=_:=Jk h.1.2.1;have e:zFt 64 12 JM x1.1:=w.2;refine .bind ((J7p (B:=0) (S:=S) (x1:=x1.2) h.2.z).eqn) λE g=>.ne (λk=>?_) λk=>?_
  ·exact .some ⟨(⟨fk0,fk0,g.1,Jc⟩),om⟩
  ·have v:=J7v (x:=x1.2) h.2.z g.2 k;have n:zFt 0 12 Ju x1.2:=v.2;refine .bind (J5E (B:=64) (S:=12) (⟨e,n.1⟩)) λF C=>.ge (λo=>?_) λo=>?_
   ·exact .some ⟨(⟨fk0,fk0,fkn 25,Jc⟩),om⟩
   ·refine .eq (λq=>?_) λq=>?_
    ·exact .some ⟨(⟨fk0,fk0,fkn 21,Jc⟩),om⟩
    ·refine .clo e.2.1 oo (by decide) ?_;refine .bind (J0x (B:=65) (Bl:=64) (Bm:=1) (S:=12) (J0 x1.1.2.1) 1 e.2.1 (J0j (B:=1) (S:=12) (t:=J08) oo (⟨n.u,trivial,fk0,trivial⟩))) λA j=>?_;have:J0 A=_:=Jk j.1;exact .some ⟨(⟨e.1,e.c,fk0,j.1⟩),om⟩
theorem JnH{B S:Int}{x1:JEz}(h:zFt B S (.pr J9 Ju) x1)(a8:BG B S:=by omega):Tot (J2G x1) λy=>zFt 4096 8192 tq1 y/\(y.2=0->J0 y.1.2.2.1.2.1=J0 x1.1.2.2.1.2.1):=by
 unfold J2G;refine .bind ((J1o h.1).eqn) λy2 h1=>.not (λM=>?_) λM=>?_
 ·have:J0 x1.1.2.2.1.2.1<=B:=h.1.c.1.2.1.1;exact .some ⟨(⟨fzr,fkn 15⟩),om⟩
 ·have Z:=J1y h.1 h1.2 M;have:=J4 (l:=x1.1.2.2.2.1.2.1);have:J0 x1.1.2.2.2.1.2.1=_:=Jk h.1.d.1.2.1;have k:zFt 4096 8192 J9 x1.1:=Z.2;refine .ltf (λP=>?_) λP=>?_
  ·refine .ge (λI=>?_) λI=>?_
   ·exact .some ⟨(⟨fzr,fkn 1⟩),om⟩
   ·have K:zFt 16384 1073741824 tq1 (x1.1,x1.2.1):=⟨k.u,h.2.z.1⟩;refine .bind (J89 K) λy3 a3=>.lt (λH=>?_) λH=>?_
    ·exact .some ⟨(⟨fzr,fkn 8⟩),om⟩
    ·have L:zFt 16384 1073741824 tq1 (x1.1,x1.2.1):=⟨k.u,h.2.z.1⟩;refine .bind (J89 L) λy4 a4=>.gt (λJ=>?_) λJ=>?_
     ·exact .some ⟨(⟨fzr,fkn 9⟩),om⟩
     ·have R:zFt 16384 S JEw (x1.1.2.2.2.1,x1.2):=⟨k.d.1.u,h.2.z.u⟩;refine .bind (Jyf R) λj o=>?_;have:J0 j.2.2.2<=65:=o.1.d.1;have:=J4 (l:=j.2.2.2);have:J0 j.2.2.2=_:=Jk o.1.d;have:j.2.2.1=0->J0 j.2.2.2=J0 x1.1.2.2.2.1.2.1+1:=o.2;refine .ne (λT=>?_) λT=>?_
      ·exact .some ⟨(⟨fzr,o.1.c.1⟩),om⟩
      ·refine .bind (J9p (B:=4096) (S:=8192) (⟨k,h.2.z.1⟩)) λG U=>.ite (λQ=>?_) λQ=>?_
       ·have:=J0o (J0 j.2.2.2) 1;refine .bind (J6j (l:=j.2.2.2)) λ_ _=>.bind (Jcb o.1.d) λn v=>?_;have:J0 (J0B j.2.2.2 (Int.toNat (JH .i64 (J0 j.2.2.2) 1)) (n.1,true,n.2.2))<=65:=(J4I (t:=J08) (i:=Int.toNat (JH .i64 (J0 j.2.2.2) 1)) (x:=(n.1,true,n.2.2)) o.1.d (⟨v.1.z.1.u,trivial,v.1.z.2.2⟩)).1;have:=J4 (l:=J0B j.2.2.2 (Int.toNat (JH .i64 (J0 j.2.2.2) 1)) (n.1,true,n.2.2));have:J0 (J0B j.2.2.2 (Int.toNat (JH .i64 (J0 j.2.2.2) 1)) (n.1,true,n.2.2))=_:=Jk (J4I (t:=J08) (i:=Int.toNat (JH .i64 (J0 j.2.2.2) 1)) (x:=(n.1,true,n.2.2)) o.1.d (⟨v.1.z.1.u,trivial,v.1.z.2.2⟩));have:J0 (J0B j.2.2.2 (Int.toNat (JH .i64 (J0 j.2.2.2) 1)) (n.1,true,n.2.2))=J0 j.2.2.2:=J6x;have:=J0o (J0 (J0B j.2.2.2 (Int.toNat (JH .i64 (J0 j.2.2.2) 1)) (n.1,true,n.2.2))) 1;refine .bind (J6j (l:=J0B j.2.2.2 (Int.toNat (JH .i64 (J0 j.2.2.2) 1)) (n.1,true,n.2.2))) λ_ _=>.bind (Jcb (J4I (t:=J08) (i:=Int.toNat (JH .i64 (J0 j.2.2.2) 1)) (x:=(n.1,true,n.2.2)) o.1.d (⟨v.1.z.1.u,trivial,v.1.z.2.2⟩))) λA N=>?_;have:J0 x1.1.2.2.2.2.2.2.2<=4096:=k.i.1;have:=J4 (l:=x1.1.2.2.2.2.2.2.2);have:J0 x1.1.2.2.2.2.2.2.2=_:=Jk k.i;refine Jf (τ:=Jeu) (λq=>(q.1,x1.1,x1.2,(0,0,(0,[],0),(0,[],0),([],[]),[],[],[]),J0B (J0B j.2.2.2 (Int.toNat (JH .i64 (J0 j.2.2.2) 1)) (n.1,true,n.2.2)) (Int.toNat (JH .i64 (J0 (J0B j.2.2.2 (Int.toNat (JH .i64 (J0 j.2.2.2) 1)) (n.1,true,n.2.2))) 1)) (A.1,A.2.1,G.1.2.1,A.2.2.2),j.1,j.2.1,G.1,q.2)) (λq=>(zFt 0 0 zI q.1/\0<=q.1/\(q.1<=J0 x1.1.2.2.2.2.2.2.2\/q.1<=0))/\(zFt 4096 0 (.l Jd) q.2/\J0 q.2<=1*q.1+0)) (λq=>J0 x1.1.2.2.2.2.2.2.2-q.1) ?_ (0,[]) rfl ?_
        ·rintro⟨w,r⟩ F;dsimp only at F;obtain⟨⟨W,a1,a2⟩,C,a7⟩:=F;unfold J7g
         try dsimp only
         have:=J3.1 W;refine .lt (λO=>?_) λO=>?_
         ·refine .bind (Jh k.i) λa5 a6=>.ne (λV=>?_) λV=>?_
          ·refine .bind (Jh k.i) λa0 Y=>?_;have:J0 r<=4096:=C.1;have:=J4 (l:=r);have:J0 r=_:=Jk C;refine .bind (J0x (B:=4096) (Bl:=4096) (Bm:=1) (S:=0) (J0 r) 1 C (J0j (B:=1) (S:=0) (t:=Jd) oo Y.1)) λE D=>?_;have:=Jb w 1;have:J0 E=_:=Jk D.1;exact .some ⟨(J1 .i64 w 1,E),rfl,⟨⟨J8,om,om⟩,D.1,om⟩,om,om⟩
          ·have:=Jb w 1;have:J0 r=_:=Jk C;exact .some ⟨(J1 .i64 w 1,r),rfl,⟨⟨J8,om,om⟩,C,om⟩,om,om⟩
         ·exact .some ⟨(⟨⟨k.1,k.2.1,k.c.1,⟨o.1.1,(J4I (t:=J08) (i:=Int.toNat (JH .i64 (J0 (J0B j.2.2.2 (Int.toNat (JH .i64 (J0 j.2.2.2) 1)) (n.1,true,n.2.2))) 1)) (x:=(A.1,A.2.1,G.1.2.1,A.2.2.2)) (J4I (t:=J08) (i:=Int.toNat (JH .i64 (J0 j.2.2.2) 1)) (x:=(n.1,true,n.2.2)) o.1.d (⟨v.1.z.1.u,trivial,v.1.z.2.2⟩)) (⟨N.1.z.1.u,trivial,U.1.2.1,trivial⟩)).u,o.1.2.1⟩,k.e.1,k.g.1,k.h.1,C.u⟩,fk0⟩),om⟩
        ·have:J0 ([]:List T_api_Row)=0:=rfl
         try dsimp only
         exact⟨⟨fk0,oo,oo⟩,Jc,oo⟩
       ·exact .some ⟨(⟨⟨k.1,k.2.1,k.c.1,⟨o.1.1,o.1.d.u,o.1.2.1⟩,k.e⟩,fk0⟩),om⟩
  ·exact .some ⟨(⟨fzr,fkn 1⟩),om⟩
theorem Jsf{B S:Int}{x1:JG1}(h:zFt B S (.pr Ju J5) x1)(E:BS B S 0 0:=by omega):Tot (J4K x1) λy=>zFt 0 8192 tq5 y:=by
 unfold J4K;have s0:zFt 0 S (.pr Ju J5) x1:=h;refine .bind ((J2Y (B:=0) (S:=S) (x1:=x1.2) s0.2).eqn) λH h1=>.nof (λr=>?_) λr=>?_
 ·have v3:=J2v (x:=x1.2) s0.2 h1.2 r;have g:zFt 0 8192 J5 x1.2:=v3.2;refine .bind (J1U g) λF D=>.not (λA=>?_) λA=>?_
  ·exact .some (⟨⟨fk0,fk0,J0i oo oo (.ar 16 JJ)⟩,fkn 12⟩)
  ·refine .bind ((J7p (B:=0) (S:=S) (x1:=x1.1) s0.1).eqn) λG j=>.ne (λk=>?_) λk=>?_
   ·exact .some (⟨⟨fk0,fk0,J0i oo oo (.ar 16 JJ)⟩,j.1⟩)
   ·have v:=J7v (x:=x1.1) s0.1 j.2 k;have q:zFt 0 12 Ju x1.1:=v.2;refine .ne (λn=>?_) λn=>?_
    ·exact .some (⟨⟨fk0,fk0,J0i oo oo (.ar 16 JJ)⟩,fkn 6⟩)
    ·refine .ne (λo=>?_) λo=>?_
     ·exact .some (⟨⟨fk0,fk0,J0i oo oo (.ar 16 JJ)⟩,fkn 13⟩)
     ·refine .bind (Jh4 (B:=0) (S:=8192) (⟨q.u,g.h.1⟩)) λC z=>?_;have e:zFt 0 8192 tq5 C:=z.u;refine .ne (λw=>?_) λw=>?_
      ·exact .some (⟨⟨fk0,fk0,J0i oo oo (.ar 16 JJ)⟩,e.2⟩)
      ·exact .some (⟨⟨e.1.1,g.1,e.1.c⟩,fk0⟩)
 ·exact .some (⟨⟨fk0,fk0,J0i oo oo (.ar 16 JJ)⟩,fkn 12⟩)
section
variable {B S:Int}
theorem JuQ{x1:JO×T_api_Row}(h:zFt B S (.pr JU Jd) x1)(C:BC B S 0 0:=by omega):Tot (Jaf x1) λy=>zFt 4096 8192 JEh y:=by
 obtain⟨l,n,last,e⟩:=x1;obtain⟨hl,hp,j,r⟩:=h;unfold Jaf;dsimp only;dsimp only at hl hp j r;have z0: ∀k:Int,zFt 0 0 zI k->zFt 4096 8192 JEh (([]:List J2),k):=λk hk=>⟨Jc,hk⟩;refine .bind ((J2y hl).eqn) λI h2=>.not (λ_=>.some (z0 _ (fkn 26))) λc=>.ltf (λE=>.gef (λG=>.ltf (λc3=>.lt (λ_=>.some (z0 _ (fkn 1))) λz=>?_) λ_=>.some (z0 _ (fkn 1))) λ_=>.some (z0 _ (fkn 1))) λ_=>.some (z0 _ (fkn 1));subst c;obtain⟨q,w⟩:=JgZ hl h2.2;have v:=(J27 hl h2.2 rfl).2;refine Jf (τ:=Jwz) (λq=>(n,e,q.1,q.2,l)) (λq=>zFt 4096 8192 (.l J5) q.1/\zFt 0 0 zI q.2/\(J0 q.1=0\/J0 q.1+q.2<=l.1+J0 l.2.1-1)) (λq=>q.2) ?_ ([],last) rfl ⟨Jc,j,.inl rfl⟩;rintro⟨out,at_⟩ ⟨g1,g2,A⟩;dsimp only at g1 g2 A;unfold JfA;dsimp only;refine .gt (λc=>?_) λc=>.inr (.lt (λ_=>.some (z0 _ (fkn 13))) λ_=>.some ⟨g1,fk0⟩);refine .bind ((J4q (x1:=(l,at_)) ⟨v,g2⟩).eqn) λo f4=>.ne (λ_=>.some (z0 _ (fkn 14))) λz=>.bind (J1U f4.1.1) λF H=>.nof (λ_=>.ne (λ_=>.some (z0 _ (fkn 13))) λ_=>?_) λ_=>.some (z0 _ (fkn 13));rcases JjF f4.2 with⟨_,_,a1,a2,a3⟩|⟨_,b⟩
 ·obtain⟨e1,e2⟩:=w _ _ a3;have J:=(J2v f4.1.1 e2 rfl).1;have:=J4 (l:=out);have K:J0 out+1<=4096:=by omega
  unfold JbQ;dsimp only;refine .bind (.bind (J0x (B:=4096) (Bl:=4096) (Bm:=4096) (S:=8192) (t:=J5) 1 (J0 out) (J0j (B:=4096) (S:=8192) oo f4.1.1) g1 rfl rfl (J0F _) (J0F _) oo oo (by decide)) λy h=>.some h) λg x=>.some ⟨(g,o.1.2.2.2.2.1),rfl,⟨x.1,f4.1.1.2.2.2.2.1,?_⟩,?_,?_⟩
  ·have D:J0 g=1+J0 out:=x.2.1;show J0 g=0\/J0 g+o.1.2.2.2.2.1<=l.1+J0 l.2.1-1;omega
  ·show o.1.2.2.2.2.1<at_;omega
  ·show 0<=at_;omega
 ·exact absurd z b
end
theorem JqO{B S:Int}{x1:Jk6}(h:zFt B S (.pr JU tq5) x1)(v:BC B S 0 0:=by omega):Tot (J9o x1) λy=>zFt 4096 8192 JEh y:=by
 unfold J9o;refine .bind ((J2y h.1).eqn) λC h1=>.not (λn=>?_) λn=>?_
 ·exact .some (⟨Jc,fkn 26⟩)
 ·have v3:=J27 h.1 h1.2 n;have h10:zFt 4096 8192 JU x1.1:=v3.2;refine .bind ((J7p (B:=0) (S:=S) (x1:=x1.2.1) h.2.z.1).eqn) λw g=>.ne (λe=>?_) λe=>?_
  ·exact .some (⟨Jc,g.1⟩)
  ·have r:=J7v (x:=x1.2.1) h.2.z.1 g.2 e;have j:zFt 0 12 Ju x1.2.1:=r.2;refine .lt (λo=>?_) λo=>?_
   ·exact .some (⟨Jc,fkn 1⟩)
   ·refine .ge (λq=>?_) λq=>?_
    ·exact .some (fzr)
    ·refine .bind (JuQ (B:=4096) (S:=8192) (⟨h10,j.1,h.2.z.2,j.2.1⟩)) λA k=>.some (k)
theorem JvK{B S:Int}{x1:Jk6}(h:zFt B S (.pr JU tq5) x1)(D:BC B S 0 0:=by omega):Tot (J5N x1) λy=>zFt 0 (S+8192) (.pr Ju J0d) y:=by
 unfold J5N;refine .bind (JqO (B:=B) (S:=S) (⟨h.1,h.2.z.1.u,h.2.z.2⟩)) λe h1=>.ne (λC=>?_) λC=>?_
 ·exact .some (⟨⟨fk0,fk0,J0i oo oo (.ar 16 JJ)⟩,fk0,h1.2⟩)
 ·have:J0 e.1<=4096:=h1.1.1;have:=J4 (l:=e.1);have:J0 e.1=_:=Jk h1.1;refine Jf (τ:=Jt5) (λq=>(e.1,q.1,x1.1,q.2,0,0,Vector.replicate 16 (false,[]))) (λq=>(zFt 0 0 zI q.1/\0<=q.1/\(q.1<=J0 e.1\/q.1<=0))/\zFt 0 (S+8192) Ju q.2) (λq=>J0 e.1-q.1) ?_ (0,x1.2.1) rfl ?_
  ·rintro⟨g,w⟩ j;dsimp only at j;obtain⟨⟨x,G,E⟩,o⟩:=j;unfold Jbd
   try dsimp only
   have:=J3.1 x;refine .lt (λn=>?_) λn=>?_
   ·refine .bind (Jh h1.1) λF r=>.bind (Jsf (B:=0) (S:=(S+8192)) (⟨o,r.1.z.u⟩)) λA k=>.ne (λv=>?_) λv=>?_
    ·exact .some (⟨⟨fk0,fk0,J0i oo oo (.ar 16 JJ)⟩,fk0,k.2⟩)
    ·have:=Jb g 1;exact .some ⟨(J1 .i64 g 1,A.1),rfl,⟨⟨J8,om,om⟩,k.1.u⟩,om,om⟩
   ·exact .some (⟨o,J4y h1.1.1 oo,fk0⟩)
  ·try dsimp only
   exact⟨⟨fk0,oo,oo⟩,h.2.z.1.u⟩
theorem Jx8{B S:Int}{x1:Jk6}(h:zFt B S (.pr JU tq5) x1)(e:BC B S 0 0:=by omega):Tot (J5D x1) λy=>zFt 0 (S+8192) tq5 y:=by unfold J5D;refine .bind (JvK (B:=B) (S:=S) (⟨h.1,h.2.z.1.u,h.2.z.2⟩)) λg h1=>.some (⟨h1.1,h1.c⟩)
end Go.Am
end
