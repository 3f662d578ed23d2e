/-
  Parts of a proof.
-/
import Derived.Test.YthnapahopkopbaaGreatM3
import Derived.Test.YthnapahopkopbaaGreatM5
set_option linter.unusedSimpArgs false
set_option linter.unusedVariables false
section
namespace Go.Am
set_option linter.unusedVariables false
set_option maxRecDepth 20000
set_option maxHeartbeats 1000000
section
variable {l E F:List J2} {p:Int}
theorem ltE.irr{a:J2}: ¬ltE a a:=by simp[ltE]
theorem ltE.asym{a b:J2}(h:ltE a b): ¬ltE b a:=by grind [ltE]
theorem JpI: ∀{a b:List J2},a.Pairwise ltE->b.Pairwise ltE->(∀x,x∈a↔x∈b)->a=b
 |[],[],_,_,_=>rfl
 |[],y::b,_,_,h=>absurd ((h y).2 List.mem_cons_self) (by simp)
 |x::a,[],_,_,h=>absurd ((h x).1 List.mem_cons_self) (by simp)
 |x::a,y::b,ha,hb,h=>by
  obtain⟨a1,a2⟩:=List.pairwise_cons.1 ha;obtain⟨b1,b2⟩:=List.pairwise_cons.1 hb;have e:x=y:=by
   rcases J40.1 ((h x).1 List.mem_cons_self)with q|q
   ·exact q
   ·rcases J40.1 ((h y).2 List.mem_cons_self)with q2|q2
    ·exact q2.symm
    ·exact absurd (b1 x q) (a1 y q2).asym
  subst e;refine congrArg (x:: ·) (JpI a2 b2 λz=>⟨λhz=>?_,λhz=>?_⟩)
  all_goals grind [ltE.irr]
theorem Jgd{e:J2}(hd: ∀x∈l,x.1≠e.1): ∀x,x∈J2t l e↔x∈l\/x=e:=by
 induction l with
 |nil=>simp[J2t]
 |cons y l ih=>
  grind [Je4,J2t]
theorem JjP{e:J2}(hs:l.Pairwise ltE)(hd: ∀x∈l,x.1≠e.1):(J2t l e).Pairwise ltE:=by
 induction l with
 |nil=>exact List.pairwise_singleton _ _
 |cons y l ih=>
  obtain⟨h1,h2⟩:=List.pairwise_cons.1 hs;have hy:=hd y List.mem_cons_self;have j: ¬J73 y e=0:=λh=>hy (Je4.1 h).2;have g: ∀x∈l,x.1≠e.1:=λz hz=>hd z (JwG _ hz)
  grind [J2t,List.pairwise_cons,Jgd,J9H,ltE]
theorem Juf{e:J2}(hd: ∀x∈l,x.1≠e.1):(J2t l e).length=l.length+1:=by
 induction l with
 |nil=>simp[J2t]
 |cons y k ih=>
  grind [Je4,J2t]
def srt(l:List J2):List J2:=l.foldl J2t []
theorem JzS(l:List J2)(e:J2):srt (l++[e])=J2t (srt l) e:=by simp[srt]
def Inc(l:List J2):Prop:=l.Pairwise λa b=>a.1<b.1
theorem JtN: ∀{n:Nat} {l:List J2},l.length=n->Inc l->(srt l).Pairwise ltE/\(∀x,x∈srt l↔x∈l)/\(srt l).length=l.length
 |0,l,h,_=>by simp_all [srt]
 |n+1,l,h,hi=>by
  obtain⟨m,e,rfl⟩: ∃m e,l=m++[e]:=⟨l.dropLast,l.getLast (by grind),(List.dropLast_concat_getLast _).symm⟩;have hm:m.length=n:=by simpa using h
  obtain⟨g,q,k⟩:=List.pairwise_append.1 hi;obtain⟨s1,j,o⟩:=JtN hm g;have hd: ∀x∈srt m,x.1≠e.1:=λx hx=>by have:=k x ((j x).1 hx) e (by simp);omega
  grind [JzS,JjP,Jgd,Juf]
theorem J2N.inc(h:J2N l):Inc l:=by
 unfold Inc;rw[List.pairwise_iff_getElem];intro i j hi hj e;have a:=(h i _ (zQ9 hi)).1;have b:=(h j _ (zQ9 hj)).1
 grind [J0]
theorem J2N.at(h:J2N l){i:Nat}{e:J2}(he:l[i]?=some e):e.1=(i:Int)+1:=by
 have a:=(h i e he).1
 grind [J0]
theorem Jys(h:J2N l)(p:Int):(J0G l p=0\/ ∃x∈l,(x.2.1=1\/x.2.1=2)/\pgE x=p/\x.1=J0G l p)/\ ∀x∈l,(x.2.1=1\/x.2.1=2)->pgE x=p->x.1<=J0G l p:=by
 have g: ∀n:Nat,n<=l.length->(J0G (l.take n) p=0\/ ∃x∈l.take n,(x.2.1=1\/x.2.1=2)/\pgE x=p/\x.1=J0G (l.take n) p)/\ ∀x∈l.take n,(x.2.1=1\/x.2.1=2)->pgE x=p->x.1<=J0G (l.take n) p:=by
  intro n
  induction n with
  |zero=>intro _;exact⟨.inl rfl,by simp⟩
  |succ n ih=>
   intro hn;obtain⟨h1,h2⟩:=ih (by omega);have he:=zQ9 (l:=l) (i:=n) (by omega);have e:l.take (n+1)=l.take n++[l[n]]:=by simp[List.take_add_one]
   have en:=h.at he;rw[e,J7c];split
   ·rename_i c;refine⟨.inr ⟨l[n],List.mem_append_right _ (JaO.2 rfl),c.1,c.2,rfl⟩,λx hx a b=>?_⟩;rcases J2h.1 hx with hx|hx
    ·obtain⟨j,hj⟩:=J5w.1 hx;rw[Jus]at hj;split at hj
     ·have:=h.at hj;omega
     ·cases hj
    grind
   grind
 grind [List.take_length]
theorem JuK(h:J2N l){e:J2}(he:e∈l)(hc:e.2.1=1\/e.2.1=2):e.2.2.2.2.1<e.1/\(e.2.2.2.2.1=0\/ ∃x∈l,(x.2.1=1\/x.2.1=2)/\pgE x=pgE e/\x.1=e.2.2.2.2.1)/\ ∀x∈l,(x.2.1=1\/x.2.1=2)->pgE x=pgE e->x.1<e.1->x.1<=e.2.2.2.2.1:=by
 obtain⟨i,hi⟩:=J5w.1 he;obtain⟨q1,q2,q3,_⟩:=h i e hi;have k:=h.at hi;rw[q3 hc];obtain⟨s1,g⟩:=Jys (h.take i) (pgE e);have n: ∀x∈l.take i,x.1<e.1:=λx hx=>by
  obtain⟨j,hj⟩:=J5w.1 hx;rw[Jus]at hj;split at hj
  ·have:=h.at hj;omega
  ·cases hj
 refine⟨?_,?_,λx hx a b c=>?_⟩
 ·grind
 ·grind
 ·refine g x ?_ a b;obtain⟨j,hj⟩:=J5w.1 hx;have:=h.at hj;refine zQ5 (i:=j) ?_
  grind
def inB(f t lo hi:Int)(e:J2):Bool:=decide ((e.2.1=1\/e.2.1=2)/\(lo<=pgE e/\pgE e<=hi)/\f<=e.1/\e.1<=t)
theorem J8u{f t lo hi:Int}{e:J2}:inB f t lo hi e=true↔(e.2.1=1\/e.2.1=2)/\(lo<=pgE e/\pgE e<=hi)/\f<=e.1/\e.1<=t:=by simp[inB]
def sel(l:List J2)(f t lo hi:Int):List J2:=srt (l.filter (inB f t lo hi))
theorem Inc.filter(h:Inc l)(q:J2->Bool):Inc (l.filter q):=h.sublist (List.filter_sublist)
theorem Jmt(h:J2N l)(f t lo hi:Int):(sel l f t lo hi).Pairwise ltE/\(∀x,x∈sel l f t lo hi↔x∈l/\inB f t lo hi x=true)/\(sel l f t lo hi).length<=l.length:=by
 obtain⟨s1,g,e⟩:=JtN rfl (h.inc.filter (inB f t lo hi))
 grind [sel]
theorem adj(hs:E.Pairwise ltE){j:Nat}{a b x:J2}(ha:E[j]?=some a)(hb:E[j+1]?=some b)(hx:x∈E)(h1:ltE a x)(h2:ltE x b):False:=by
 obtain⟨i,hi⟩:=J5w.1 hx;rw[List.pairwise_iff_getElem]at hs;obtain⟨la,rfl⟩:=J3Z.1 ha;obtain⟨g,rfl⟩:=J3Z.1 hb;obtain⟨e,rfl⟩:=J3Z.1 hi;by_cases c:i<=j
 ·rcases Nat.lt_or_eq_of_le c with c|c
  ·exact h1.asym (hs i j e la c)
  grind [ltE.irr]
 ·by_cases h:i=j+1
  ·grind [ltE.irr]
  ·exact h2.asym (hs (j+1) i g e (by omega))
theorem Jfk(h:J2N l)(hl:J0 l<=4096){f t lo hi lv:Int}(hn:J7M (f,t,lo,hi,lv,[])):J4r (f,t,lo,hi,lv,sel l f t lo hi):=by
 obtain⟨s1,o,V⟩:=Jmt h f t lo hi;obtain⟨a1,a2,a3,a4,B,F,v,r⟩:=hn
 (try dsimp only at a1 a2 a3 a4 B F v r)
 have val: ∀x∈l,Jx x=some true:=λx hx=>by obtain⟨i,hi⟩:=J5w.1 hx;exact(h i x hi).2.1
 refine⟨⟨a1,a2,a3,a4,B,F,v,r⟩,?_,λj e he=>?_,λe he=>?_,λj a b ha hb=>?_⟩
 ·grind [J0]
 ·obtain⟨q1,q2⟩:=(o e).1 (zQ5 he);obtain⟨b1,b2,w,E⟩:=J8u.1 q2;exact⟨val e q1,b1,w,E,b2.1,b2.2⟩
 ·have hm:=zQ5 he;obtain⟨q1,q2⟩:=(o e).1 hm;obtain⟨b1,b2,w,E⟩:=J8u.1 q2;obtain⟨M,g,c3⟩:=JuK h q1 b1;dsimp only;rcases g with g|⟨x,x1,k,n,q⟩
  ·omega
  ·rcases Int.lt_or_le e.2.2.2.2.1 f with c|c
   ·exact c
   ·have hx:x∈sel l f t lo hi:=(o x).2 ⟨x1,J8u.2 ⟨k,by omega,by omega,by omega⟩⟩
    grind [List.mem_iff_getElem?,ltE,Nat.eq_zero_or_pos,List.pairwise_iff_getElem]
 ·(try dsimp only at ha hb)
  have y:=zQ5 ha;have C:=zQ5 hb;obtain⟨G,K⟩:=(o a).1 y;obtain⟨z,I⟩:=(o b).1 C;obtain⟨L,R,S,T⟩:=J8u.1 K;obtain⟨H,Q,P,O⟩:=J8u.1 I;obtain⟨M,g,c3⟩:=JuK h z H;have A:ltE a b:=by
   grind [List.pairwise_iff_getElem]
  have D: ∀x∈l,(x.2.1=1\/x.2.1=2)->pgE x=pgE b->x.1=b.2.2.2.2.1->f<=x.1->ltE a x->False:=λx x1 k n q U N=>
   adj s1 ha hb ((o x).2 ⟨x1,J8u.2 ⟨k,by omega,by omega,by omega⟩⟩) N (.inr ⟨n,by omega⟩)
  rcases A with lp|⟨lp,J⟩
  ·refine .inl ⟨lp,?_⟩;rcases g with g|⟨x,x1,k,n,q⟩
   ·grind
   ·show b.2.2.2.2.1<f;rcases Int.lt_or_le b.2.2.2.2.1 f with c|c
    ·exact c
    ·exact(D x x1 k n q (by omega) (.inl (by omega))).elim
  ·refine .inr ⟨lp,J,?_⟩;have ge:=c3 a G L lp J;rcases g with g|⟨x,x1,k,n,q⟩
   ·omega
   ·rcases Int.lt_or_eq_of_le ge with c|c
    ·exact(D x x1 k n q (by omega) (.inr ⟨by omega,by omega⟩)).elim
    ·exact c.symm
end
end Go.Am
end
section
namespace Go.Am
set_option linter.unusedVariables false
set_option maxRecDepth 20000
set_option maxHeartbeats 1000000
section
variable {B S:Int} {l l':List J2} {n:Int} {fr:List T_api_Frame} {lk lk' rows rows':List T_api_Row} {f f':T_api_Frame} {i:Int} {k k':J6}
theorem Rel.note{e:J2}{p:Int}(h:Rel l n fr lk rows)(he: ¬(e.2.1=1\/e.2.1=2))(j:e.2.2.2.2.2.1<=J0G l p)(h1: ∀q,q≠p->idx rows' q=idx rows q)(h2: ∀r,idx rows' p=some r-> ∃r0,idx rows p=some r0/\r.1=J1m r0.1 e.2.2.2.2.2.1):Rel (l++[e]) n fr lk rows':=by
 have g: ∀p,J0G (l++[e]) p=J0G l p:=λp=>J6q λh=>he h.1;refine⟨h.rng,h.one,h.apt,λx hx=>?_,by simpa only[g]using h.lak,λq r hr=>?_⟩
 ·rw[g];refine⟨(h.hot x hx).1,λc r hr=>?_⟩;by_cases hq:x.1.1=p
  ·rw[hq]at hr⊢;obtain⟨r0,e0,e1⟩:=h2 r hr;have:=(h.hot x hx).2 c r0 (by rw[hq];exact e0);rw[hq]at this;have:=J6I r0.1 e.2.2.2.2.2.1;omega
  ·rw[h1 _ hq]at hr;exact(h.hot x hx).2 c r hr
 ·rw[g];by_cases hq:q=p
  ·subst hq;obtain⟨r0,e0,e1⟩:=h2 r hr;obtain⟨q1,q2⟩:=h.row q r0 e0;have:=J6I r0.1 e.2.2.2.2.2.1;exact⟨by omega,λa b=>by have:=q2 a b;omega⟩
  ·rw[h1 _ hq]at hr;exact h.row q r hr
theorem Joh.inv{e:J2}{y:J7b}(h:Joh k e y)(hi:JC k)(he: ¬(e.2.1=1\/e.2.1=2))(x:e.2.1=7->e.2.2.2.2.2.1<=J0G k.2.2.1.2.1 (pgE e)):JC y.1:=by
 obtain⟨hv,e',a1,a2,a3,a4,A,q,w,v,r,a9,j,n⟩:=h;obtain⟨C,B,o⟩:=hi;have g: ¬(e'.2.1=1\/e'.2.1=2):=by rw[a1];exact he
 refine⟨w,by rw[q];exact a9,?_⟩;rw[A,q,v,r];by_cases c:e.2.1=7
 ·obtain⟨b1,b2⟩:=n c;have hr:e'.2.2.2.2.2.1=e.2.2.2.2.2.1:=congrArg (λz:Int×T_api_Change×List UInt8=>z.1) a2;exact o.note g (by rw[hr];exact x c) b1 (by rw[hr];exact b2)
 ·rw[j c];exact o.ent g
theorem Jnr{m:Int}(e:J1x (k,m)=some k'):k'.1=k.1/\(J72 k.2.2.1->J72 k'.2.2.1)/\k'.2.2.1.2.1=k.2.2.1.2.1/\k'.2.2.2=k.2.2.2:=by
 have g:Par (J1x (k,m)) λk'=>k'.1=k.1/\(J72 k.2.2.1->J72 k'.2.2.1)/\k'.2.2.1.2.1=k.2.2.1.2.1/\k'.2.2.2=k.2.2.2:=by unfold J1x;refine .bind λ_ _=>.bind λh h3=>.eq (λc=>.some ?_) λ_=>.some ⟨rfl,id,rfl,rfl⟩;obtain⟨q1,q2⟩:=Jec h3 c;exact⟨rfl,q2,q1,rfl⟩
 exact g _ e
theorem JC.same(h:JC k)(e1:k'.1=k.1)(e2:J72 k.2.2.1->J72 k'.2.2.1)(g:k'.2.2.1.2.1=k.2.2.1.2.1)(n:k'.2.2.2.1.2.1=k.2.2.2.1.2.1)(e:k'.2.2.2.2.2.2.2=k.2.2.2.2.2.2.2)(j:k'.2.2.2.2.2.2.1=k.2.2.2.2.2.2.1):JC k':=by unfold JC;rw[e1,g,n,e,j];exact⟨e2 h.1,h.2⟩
theorem JC.force{m:Int}(h:JC k)(e:J1x (k,m)=some k'):JC k':=by obtain⟨e1,e2,j,g⟩:=Jnr e;exact h.same e1 e2 j (by rw[g]) (by rw[g]) (by rw[g])
theorem JEA{p:JG}{x:JT}{y:J6i}(e:J4j (p,x)=some y)(c:y.2=0): ∃i f r,idx p.2.1 i=some f/\f.1.1=x.1/\y.1=(p.1,p.2.1.set i.toNat (x,true,r,true),p.2.2):=by
 have j:Par (J4j (p,x)) λy=>y.2=0-> ∃i f r,idx p.2.1 i=some f/\f.1.1=x.1/\y.1=(p.1,p.2.1.set i.toNat (x,true,r,true),p.2.2):=by
  unfold J4j;refine .bind λ_ _=>.not (λ_=>.some nofun) λ_=>.bind λk _=>.ne (λc=>.some λh=>absurd h c) λ_=>.bind λi hi=>.lt (λ_=>.some nofun) λn=>.bind λf hf=>.le (λ_=>.some nofun) λ_=>.not (λ_=>.bind λq hq=>.some λ_=>?_) λ_=>.bind λq hq=>.some λ_=>?_
  all_goals
   obtain⟨g,g1,g2⟩:=(J84 hi).2.1 (by omega);have:g=f:=by rw[show idx p.2.1 i=some f from hf]at g1;injection g1 with g1;exact g1.symm
   subst this;exact⟨i,g,_,g1,g2,JiU hq⟩
 exact j _ e c
theorem JBI{e:J2}{y:J1G}(h:J4n (k,e)=some y)(hi:JC k)(hk:e.2.1=1\/e.2.1=2)(hf: ∃f∈k.2.2.2.1.2.1,f.1.1=pgE e):JC y.1:=by
 have C:Par (J4n (k,e)) λy=>JC y.1:=by
  unfold J4n;dsimp only;have L:e.2.1≠7:=by omega
  have K:e.2.1≠6:=by omega
  refine .bind λj h2=>.ne (λ_=>.some hi) λI=>.bind λo h3=>.bind λ_ _=>.bind λ_ _=>.bind λJ N=>.ne (λ_=>.some hi) λO=>.some ?_;obtain⟨f,hf,v⟩:=hf;have D:=hi.2.2.rng f hf;rw[v]at D;obtain⟨hv,e',a1,a2,a3,a4,H,E,G,S,F,a9,A,R⟩:=Jt6 h2 I hi (λ_=>D) (λc=>absurd c L) (λc=>absurd c K);obtain⟨i,g,r,g1,g2,P⟩:=JEA N O;have hx: ∃g∈k.2.2.2.1.2.1,g.1=o.1/\g.1.1=pgE e:=by
   cases c3:o.2 with
   |true=>exact(Jbb h3).1 c3
   |false=>exact absurd v ((Jbb h3).2 c3 (Jby hv) f hf)
  obtain⟨g',Q,B,x⟩:=hx;have w:o.1.1=pgE e:=by rw[<-B];exact x
  have n:pgE e'=pgE e:=congrArg (λz:Int×T_api_Change×List UInt8=>z.2.1.1) a2;have hc:e'.2.1=1\/e'.2.1=2:=by rw[a1];exact hk
  have g2:g.1.1=pgE e:=g2.trans w;have M:=hi.2.2.upd (l':=k.2.2.1.2.1++[e']) (rows':=k.2.2.2.2.2.2.1) (f':=((o.1.1,j.2.1,JgI o.1.2.2 (Int.toNat e.2.2.2.2.2.2.1.2.1) e.2.2.2.2.2.2.1.2.2.2),true,r,true)) g1 (w.trans g2.symm)
   (λq hq=>J6q λh=>hq (by rw[<-h.2,n,g2])) (λ_ _=>rfl) (by
    rw[J7c,if_pos ⟨hc,by rw[n,g2]⟩];exact a4) nofun (λr hr=>by
    rw[J7c,if_pos ⟨hc,by rw[n,g2]⟩];have q:=(hi.2.2.row _ r hr).1;have b:=JpH hi.2.1 (g.1.1);omega)
  refine⟨G,by show J2N j.1.2.2.1.2.1;rw[E];exact a9,?_⟩;show Rel j.1.2.2.1.2.1 j.1.1 J.1.2.1 j.1.2.2.2.2.2.2.2 j.1.2.2.2.2.2.2.1;rw[E,H,P,F,A (by omega)];exact M
 exact C _ h
end
end Go.Am
end
section
namespace Go.Am
set_option linter.unusedVariables false
set_option maxRecDepth 20000
set_option maxHeartbeats 1000000
section
variable {B S:Int} {l l':List J2} {n:Int} {fr:List T_api_Frame} {lk lk' rows rows':List T_api_Row} {f f':T_api_Frame} {i:Int} {k k':J6}
theorem JKV{p:JG}{x:JT}{y:Int×Int×Int×List T_api_Frame}(e:J3F (p,x)=some y)(c:y.2.2.1=0):y.2.2.2=p.2.1++[(x,false,0,true)]/\ ∀f∈p.2.1,f.1.1≠x.1:=by
 have g:Par (J3F (p,x)) λy=>y.2.2.1=0->y.2.2.2=p.2.1++[(x,false,0,true)]/\ ∀f∈p.2.1,f.1.1≠x.1:=by unfold J3F;refine .bind λ_ _=>.not (λ_=>.some nofun) λ_=>.bind λn _=>.ne (λc=>.some λh=>absurd h c) λ_=>.bind λi hi=>.ge (λ_=>.some nofun) λo=>.eq (λ_=>.some nofun) λ_=>.bind λq h5=>.bind λk j=>.some λ_=>⟨?_,(J84 hi).2.2 (by omega)⟩;rw[J3w j,Ji9 h5]
 exact g _ e c
theorem JGT{p:JG}{id j:Int}{y:J6i}(e:J4U (p,id,j)=some y)(c:y.2=0): ∃i f,idx p.2.1 i=some f/\f.1.1=id/\j<=f.1.2.1/\(y.1.2.1=p.2.1\/ ∃f',f'.1=f.1/\(f'.2.1=false->f.2.1=false\/f.1.2.1=j)/\y.1.2.1=p.2.1.set i.toNat f'):=by
 have n:Par (J4U (p,id,j)) λy=>y.2=0-> ∃i f,idx p.2.1 i=some f/\f.1.1=id/\j<=f.1.2.1/\(y.1.2.1=p.2.1\/ ∃f',f'.1=f.1/\(f'.2.1=false->f.2.1=false\/f.1.2.1=j)/\y.1.2.1=p.2.1.set i.toNat f'):=by
  unfold J4U;refine .bind λ_ _=>.not (λ_=>.some nofun) λ_=>.bind λi hi=>.lt (λ_=>.some nofun) λr=>.bind λf hf=>.gt (λ_=>.some nofun) λk=>?_;obtain⟨g,g1,g2⟩:=(J84 hi).2.1 (by omega);have:g=f:=by rw[show idx p.2.1 i=some f from hf]at g1;injection g1 with g1;exact g1.symm
  subst this;have k:j<=g.1.2.1:=Int.not_lt.1 k;have go: ∀{f':T_api_Frame} {q:JG},f'.1=g.1->(f'.2.1=false->g.2.1=false\/g.1.2.1=j)->J1u (p,i,f')=some q-> ∃i f,idx p.2.1 i=some f/\f.1.1=id/\j<=f.1.2.1/\(q.2.1=p.2.1\/ ∃f',f'.1=f.1/\(f'.2.1=false->f.2.1=false\/f.1.2.1=j)/\q.2.1=p.2.1.set i.toNat f'):=fun{f' q} h1 h2 hq=>⟨i,g,g1,g2,k,.inr ⟨f',h1,h2,by rw[JiU hq]⟩⟩;refine .not (λ_=>.some λ_=>⟨i,g,g1,g2,k,.inl rfl⟩) λ_=>.eq (λo=>.bind λq hq=>.some λ_=>go (f':=(g.1,false,0,g.2.2.2)) rfl (λ_=>.inr o) hq) λ_=>.le (λ_=>.bind λq hq=>.some λ_=>go (f':=(g.1,g.2.1,J1 .i64 j 1,g.2.2.2)) rfl (λh=>.inl h) hq) λ_=>.bind λq hq=>.some λ_=>go (f':=(g.1,g.2)) rfl (λh=>.inl h) hq
 exact n _ e c
theorem JDL{p:JG}(e:JR p=some true):J0 p.2.1<=64:=by
 have g:Par (JR p) λy=>y=true->J0 p.2.1<=64:=by unfold JR;exact .ltf (λ_=>.gtf (λ_=>.gtf (λ_=>λ_ _ _=>by omega) λ_=>.some nofun) λ_=>.some nofun) λ_=>.some nofun
 exact g _ e rfl
theorem JEy{x:JT}{y:J1G}(e:J2G (k,x)=some y)(c:y.2=0)(hi:JC k):JC y.1:=by
 have K:Par (J2G (k,x)) λy=>y.2=0->JC y.1:=by
  unfold J2G;dsimp only;refine .bind λv hv=>.not (λ_=>.some nofun) λP=>.ltf (λc0=>.ge (λ_=>.some nofun) λc1=>.bind λZ h3=>.lt (λ_=>.some nofun) λc3=>.bind λy4 h4=>.gt (λ_=>.some nofun) λc4=>.bind λS h5=>.ne (λc=>.some λh=>absurd h c) λT=>.bind λJ V=>?_) λ_=>.some nofun;subst P;obtain⟨O,I,F⟩:=id hi;have hx:x.2.1=J0G k.2.2.1.2.1 x.1:=by have q1:=JmD h3 hv hi (by omega) (by omega);have q2:=JmD h4 hv hi (by omega) (by omega);omega
  have L:0<=x.1/\x.1<k.1:=⟨by omega,by omega⟩;obtain⟨D,C⟩:=JKV h5 T;have B:=Jcw V;refine .ite (λG=>.bind λ_ _=>.bind λy8 A=>.bind λ_ _=>.bind λW h10=>?_) λG=>.some λ_=>⟨O,I,?_⟩
  ·have hlen: ∀z:T_api_Frame,(JH .i64 (J0 (k.2.2.2.1.2.1++[z])) 1).toNat=k.2.2.2.1.2.1.length:=λz=>by
    have o:=J0o (J0 (k.2.2.2.1.2.1++[z])) 1;have q:=JDL (Jby hv);have R:=J4 (l:=k.2.2.2.1.2.1);rw[J76,J5G]at*;unfold J0 at*;omega
   have st: ∀a b:T_api_Frame,(k.2.2.2.1.2.1++[a]).set k.2.2.2.1.2.1.length b=k.2.2.2.1.2.1++[b]:=λa b=>by simp
   have N: ∀a:T_api_Frame,(k.2.2.2.1.2.1++[a])[k.2.2.2.1.2.1.length]?=some a:=λa=>by simp
   unfold J0B lat at*;rw[D,hlen,N]at A;injection A with A;subst A;simp only[D,hlen,st,N]at h10⊢;injection h10 with h10;subst h10;refine .while (λz=>z.2.1=k/\z.2.2.1=x/\z.2.2.2.2.1=k.2.2.2.1.2.1++[(x,true,J.1.2.1,true)]/\z.1<=9223372036854775807/\(0<=z.1->z.2.2.2.2.2.2.2.2=(k.2.2.2.2.2.2.2.take z.1.toNat).filter λd=>d.1≠x.1)) ⟨rfl,rfl,rfl,show(0:Int)<=9223372036854775807 by decide,λ_=>rfl⟩ ?_;rintro⟨i,k2,U,k3,fr,u1,u2,u3,out⟩ ⟨rfl,rfl,n,Q,w⟩
   (try dsimp only at n Q w)
   unfold J7g;dsimp only;have o:=Jb i 1;have step: ∀{d:T_api_Row},idx k2.2.2.2.2.2.2.2 i=some d->0<=i/\(0<=J1 .i64 i 1->k2.2.2.2.2.2.2.2.take (J1 .i64 i 1).toNat=k2.2.2.2.2.2.2.2.take i.toNat++[d]):=fun{d} hd=>by obtain⟨j,q1⟩:=J0H hd;exact⟨j,λh=>by rw[show(J1 .i64 i 1).toNat=i.toNat+1 by omega,List.take_add_one,q1];rfl⟩
   refine .lt (λc=>.bind λd hd=>.ne (λE=>.bind λY g=>.bind λM H=>.some ⟨rfl,rfl,n,by dsimp only;omega,λh=>?_⟩) λE=>.some ⟨rfl,rfl,n,by dsimp only;omega,λh=>?_⟩) λc=>.some λ_=>⟨O,I,?_⟩
   ·obtain⟨j,q1⟩:=step hd;rw[hd]at g;injection g with g;subst g
    show M=_;rw[J3w H,w j,q1 h,List.filter_append];simp[E]
   ·obtain⟨j,q1⟩:=step hd;show out=_;rw[w j,q1 h,List.filter_append];simp[E]
   ·show Rel k2.2.2.1.2.1 k2.1 fr out k2.2.2.2.2.2.2.1;have R:=J4 (l:=k2.2.2.2.2.2.2.2);rw[n,w (by omega),List.take_of_length_le (by unfold J0 at*;omega)];exact F.add (f:=(U,true,J.1.2.1,true)) C L hx nofun λd=>by simp
  ·show Rel _ _ S.2.2.2 _ _;rw[D];refine F.add (f:=(x,false,0,true)) C L hx (λ_ r hr=>?_) λd=>⟨λh=>⟨h,B.2 G d h⟩,λh=>h.1⟩;exact(F.row x.1 r hr).2 C (B.2 G)
 exact K _ e c
end
end Go.Am
end
section
namespace Go.Am
set_option linter.unusedVariables false
set_option maxRecDepth 20000
set_option maxHeartbeats 1000000
section
variable {k k':J6}
theorem JIv{y:JG2}(e:J3i k=some y)(c:y.2.2.2=0)(hi:JC k):JC y.1/\(y.2.2.1=true-> ∃f∈y.1.2.2.2.1.2.1,f.1=y.2.1):=by
 have w:Par (J3i k) λy=>y.2.2.2=0->JC y.1/\(y.2.2.1=true-> ∃f∈y.1.2.2.2.1.2.1,f.1=y.2.1):=by
  unfold J3i;refine .bind λ_ _=>.not (λ_=>.some nofun) λ_=>.lt (λ_=>.some λ_=>⟨hi,nofun⟩) λ_=>.bind λn h3=>.bind λE h4=>.bind λf hf=>?_;have v0:n.2.2=0:=by
   have B:Par (J3c k.2.2.2.1) λy=>y.2.2=0\/y.1=(0,[],0):=by unfold J3c;refine .bind λ_ _=>.not (λ_=>.some (.inr rfl)) λ_=>.eq (λ_=>.some (.inr rfl)) λ_=>.while (λ_=>True) trivial λz _=>?_;unfold J7h;exact .bind λx hx=>.ite (λ_=>.bind λy hy=>.bind λq hq=>.bind λ_ _=>.some trivial) λ_=>.map (.bind λ_ _=>.some (.inl rfl))
   rcases B _ h3 with h|h
   all_goals grind [idx]
  have C:Rel k.2.2.1.2.1 k.1 n.1.2.1 k.2.2.2.2.2.2.2 k.2.2.2.2.2.2.1:=JEN h3 hi.2.2 v0;refine .not (λL=>.bind λA F=>.some λ_=>⟨⟨hi.1,hi.2.1,?_⟩,nofun⟩) λ_=>.bind λI r=>.some λ_=>⟨JC.force (k:=(k.1,k.2.1,k.2.2.1,n.1,k.2.2.2.2)) ⟨hi.1,hi.2.1,C⟩ r,λ_=>⟨f,?_,rfl⟩⟩
  ·show Rel _ _ A.1.2.1 _ _;by_cases G:A.2=0
   ·grind [JJ1]
   ·refine absurd ?_ G;have H:Par (J0U (n.1,n.2.1)) λi=>0<=i->JR n.1=some true/\J1d (n.1,n.2.1)=some i:=by unfold J0U;exact .bind λv hv=>.not (λ_=>.some λh=>absurd h (by decide)) λK=>.bind λi hi=>.some λ_=>⟨by simp_all,hi⟩
    obtain⟨o,_⟩:=J0H hf;obtain⟨v4,M⟩:=H _ h4 o;have D:Par (J3L (n.1,n.2.1)) λy=>y.2=0:=by
     unfold J3L;refine .bind λv hv=>.not (λc=>?_) λ_=>.bind λj hj=>?_
     ·simp_all
     ·have:j=E:=by simp_all
      subst this;refine .lt (λc=>absurd o (by omega)) λ_=>.bind λg J=>.ite (λc=>?_) λ_=>.bind λ_ _=>.bind λ_ _=>.bind λ_ _=>.bind λ_ _=>.lt (λ_=>.ge (λ_=>.some rfl) λ_=>.some rfl) λ_=>.ge (λ_=>.some rfl) λ_=>.some rfl;simp_all
    exact D _ F
  ·rw[(Jnr r).2.2.2];grind [J5f]
 exact w _ e c
theorem JDR{id:Int}{y:JFY}(e:J32 (k,id)=some y)(c:y.2.2=0)(hi:JC k):JC y.1/\ ∃f∈y.1.2.2.2.1.2.1,f.1=y.2.1:=by
 have g:Par (J32 (k,id)) λy=>y.2.2=0->JC y.1/\ ∃f∈y.1.2.2.2.1.2.1,f.1=y.2.1:=by
  unfold J32;refine .bind λ_ _=>.not (λ_=>.some nofun) λ_=>.bind λj h3=>.not (λ_=>.some nofun) λc3=>.bind λh h4=>.some λ_=>⟨hi.force h4,?_⟩;obtain⟨f,hf,e1,_⟩:=(Jbb h3).1 c3
  grind [Jnr]
 exact g _ e c
theorem JE2{id j:Int}{y:J1G}(e:J2l (k,id,j)=some y)(c:y.2=0)(hi:JC k)(hf: ∃f∈k.2.2.2.1.2.1,f.1.1=id/\f.1.2.1=j):JC y.1:=by
 have A:Par (J2l (k,id,j)) λy=>y.2=0->JC y.1:=by
  obtain⟨f,hf,e1,e2⟩:=hf;have hot:=(hi.2.2.hot f hf).1;rw[e1,e2]at hot;have H: ∀{g:J7b},J0S (k,0,7,0,0,0,j,(id,0,(false,[]),false,[]),[])=some g->g.2.2=0->JC g.1/\g.1.2.2.2.1=k.2.2.2.1/\g.1.1=k.1/\ ∀r,idx g.1.2.2.2.2.2.2.1 id=some r->r.1=J0G g.1.2.2.1.2.1 id:=by intro g w x;have q:=Jt6 w x hi (λh=>absurd h (by simp_all)) (λ_=>Int.le_of_eq hot) (λh=>absurd h (by simp_all));refine⟨q.inv hi (by simp_all) (λ_=>Int.le_of_eq hot),?_⟩;obtain⟨hv,e',a1,a2,a3,a4,F,J,Q,C,N,a9,M,z⟩:=q;refine⟨C,F,λr hr=>?_⟩;obtain⟨r0,b1,b2⟩:=(z rfl).2 r hr;have D:=(hi.2.2.row id r0 b1).1;have o:=J6I r0.1 j;have b2:r.1=J1m r0.1 j:=b2;rw[J];show r.1=J0G (k.2.2.1.2.1++[e']) id;rw[J6q (by simp_all)];omega
  unfold J2l;dsimp only;refine .bind λv hv=>.not (λ_=>.some nofun) λP=>.ltf (λ_=>.gef (λ_=>.ltf (λ_=>.bind λ_ _=>.gt (λ_=>.some nofun) λ_=>.bind λT h4=>.ge (λL=>.bind λG h5=>.ne (λc=>.some λh=>absurd h c) λI=>.bind λg w=>.ne (λc=>.some λh=>absurd h c) λx=>.some λ_=>?_) λL=>?_) λ_=>.some nofun) λ_=>.some nofun) λ_=>.some nofun
  ·obtain⟨g1,g2,U,R⟩:=H w x;obtain⟨i,K,b1,b2,D,o⟩:=JGT h5 I;refine⟨g1.1,g1.2.1,?_⟩;show Rel g.1.2.2.1.2.1 g.1.1 G.1.2.1 g.1.2.2.2.2.2.2.2 g.1.2.2.2.2.2.2.1;have n:=g1.2.2;rw[g2]at n;rcases o with o|⟨f',E,O,B⟩
   ·grind
   ·rw[B];have S:=n.hot K (J5f b1);refine n.upd b1 (by rw[E]) (λ_ _=>rfl) (λ_ _=>rfl) (by grind) (λ_ r hr=>?_) λr hr=>(n.row _ r hr).1
    grind
  ·refine absurd e1 ((Jl0 h4).2 (by omega) (Jby ?_) f hf)
   grind
 exact A _ e c
theorem JCy{y:J7b}(e:J4T k=some y)(c:y.2.2=0)(hi:JC k):JC y.1:=by
 have g:Par (J4T k) λy=>y.2.2=0->JC y.1:=by unfold J4T;exact .bind λ_ _=>.not (λ_=>.some nofun) λ_=>.gt (λ_=>.some nofun) λ_=>.bind λ_ _=>.ne (λc=>.some λh=>absurd h c) λ_=>.some λ_=>hi
 exact g _ e c
theorem JF5{j:Int}{a:J2b}{y:J41}(e:J2E (k,j,a)=some y)(hi:JC k):JC y.1:=by
 have h:Par (J2E (k,j,a)) λy=>JC y.1:=by unfold J2E;dsimp only;refine .bind λv h2=>.not (λ_=>.some hi) λn=>.eq (λ_=>.bind λr h3=>.bind λ_ _=>.bind λ_ _=>.some ⟨hi.1,hi.2.1,JKm h3 hi.2.2⟩) λ_=>.bind λ_ _=>.bind λq _=>?_;obtain⟨f,hf,_,e2⟩:=(Jbb h2).1 n;exact .eq (λ_=>.bind λo g=>.ne (λ_=>.bind λ_ _=>.some hi) λ_=>.some (JBI g hi (.inl rfl) ⟨f,hf,e2⟩)) λ_=>.bind λo g=>.ne (λ_=>.bind λ_ _=>.some hi) λ_=>.some (JBI g hi (.inl rfl) ⟨f,hf,e2⟩)
 exact h _ e
theorem Jls{t m:Int}{y:J7b}(e:J0S (k,0,m,t,0,0,0,(0,0,(false,[]),false,[]),[])=some y)(c:y.2.2=0)(hi:JC k)(hm:m=3\/m=4\/m=5):JC y.1:=by have q:=Jt6 e c hi (λh=>by grind) (λh=>by simp_all) (λh=>by simp_all);exact q.inv hi (λh=>by grind) (λh=>by simp_all)
theorem JFC{h:Int}{y:J41}(e:J2I (k,h)=some y)(hi:JC k):JC y.1:=by
 have g:Par (J2I (k,h)) λy=>JC y.1:=by unfold J2I;exact .bind λ_ _=>.bind λ_ _=>.eq (λ_=>.bind λ_ _=>.bind λ_ _=>.some hi) λ_=>.bind λr j=>.ne (λ_=>.bind λ_ _=>.some hi) λo=>.bind λq n=>.bind λ_ _=>.some (show JC q from(Jls j o hi (.inl rfl)).force n)
 exact g _ e
theorem JzM{h st:Int}{y:J41}(e:J2z (k,h,st)=some y)(hi:JC k):JC y.1:=by
 have g:Par (J2z (k,h,st)) λy=>JC y.1:=by unfold J2z;refine .bind λ_ _=>.bind λ_ _=>.bind λ_ _=>.eq (λ_=>.bind λ_ _=>.bind λ_ _=>.some hi) λ_=>.bind λo n=>.ne (λ_=>.bind λ_ _=>.some hi) λj=>.while (λz=>JC z.2.2.2.2.2.2.2) (Jls (k:=(k.1,k.2.1,k.2.2.1,k.2.2.2.1,_,k.2.2.2.2.2)) n j hi (.inr (.inl rfl))) λz hz=>?_;unfold J7Y;exact .lt (λ_=>.bind λ_ _=>.eq (λ_=>.bind λ_ _=>.bind λ_ _=>.not (λ_=>.bind λ_ _=>.bind λ_ _=>.some hz) λ_=>.some hz) λ_=>.some hz) λ_=>.some hz
 exact g _ e
theorem JJf{v:Int}{a:J2b}{y:J41}(e:J4o (k,v,a)=some y)(hi:JC k):JC y.1:=by
 have r:Par (J4o (k,v,a)) λy=>JC y.1:=by unfold J4o;have g: ∀{o:Option (J2C)},Par (o.bind λj=>if neI j.2 0 then(Js j.2).bind λw=>some (k,w)else some ((k.1,k.2.1,k.2.2.1,k.2.2.2.1,k.2.2.2.2.1,j.1,k.2.2.2.2.2.2),1,0,0,(false,[]),0)) λy=>JC y.1:=.bind λ_ _=>.ne (λ_=>.bind λ_ _=>.some hi) λ_=>.some hi;refine .bind λ_ _=>.ne (λ_=>.bind λ_ _=>.some hi) λ_=>.eq (λ_=>.bind λB h4=>.some (JFC h4 hi)) λ_=>.eq (λ_=>.bind λA h5=>.some (JzM h5 hi)) λ_=>.eq (λ_=>.bind λ_ _=>.eq (λ_=>g) λ_=>.ne (λ_=>.bind λ_ _=>.some hi) λ_=>.some hi) λ_=>.eq (λ_=>.bind λ_ _=>.eq (λ_=>g) λ_=>.ne (λ_=>.bind λ_ _=>.some hi) λ_=>.some hi) λ_=>.bind λ_ _=>.bind λh _=>.ne (λ_=>.bind λ_ _=>.some hi) λ_=>.ite (λ_=>.bind λx q=>.eq (λ_=>.some hi) λ_=>.some (JF5 (k:=(k.1,k.2.1,k.2.2.1,k.2.2.2.1,h.1,k.2.2.2.2.2)) q hi)) λ_=>.bind λ_ _=>.gt (λ_=>.bind λz n=>.eq (λ_=>.some hi) λ_=>.some (JzM (k:=(k.1,k.2.1,k.2.2.1,k.2.2.2.1,h.1,k.2.2.2.2.2)) n hi)) λ_=>.bind λ_ _=>.some hi
 exact r _ e
theorem JD6{x:Jo}{e:J2}{y:J41}(h:J0W (k,x,e)=some y)(hi:JC k):JC y.1:=by
 have j:Par (J0W (k,x,e)) λy=>JC y.1:=by
  unfold J0W;dsimp only;refine .bind λw h2=>.not (λ_=>.some hi) λo=>.bind λn h3=>.bind λ_ _=>.ne (λ_=>.bind λ_ _=>.some hi) λ_=>.bind λv q=>.ne (λ_=>.bind λ_ _=>.some hi) λ_=>?_;obtain⟨f,hf,_,e2⟩:=(Jbb h2).1 o;have r:n.1=e.2.2.2.2.2.2.1.1:=by
   grind [J6c]
  have g:=JBI q hi (.inr rfl) ⟨f,hf,e2.trans r.symm⟩;exact .eq (λ_=>.bind λ_ _=>.not (λ_=>.bind λ_ _=>.some g) λ_=>.some g) λ_=>.some g
 exact j _ h
end
section
variable {k k':J6}
theorem JG8{g:Int}{c:JI}{y:J41}(h:J1X (k,g,c)=some y)(hi:JC k):JC y.1:=by
 have e:Par (J1X (k,g,c)) λy=>JC y.1:=by unfold J1X;exact .bind λ_ _=>.ne (λ_=>.bind λ_ _=>.some hi) λ_=>.ne (λ_=>.bind λ_ _=>.some hi) λ_=>.bind λ_ _=>.not (λ_=>.some hi) λ_=>.bind λn j=>.some (JD6 j hi)
 exact e _ h
theorem JtY{j:Int}{y:J41}(h:J0M (k,j)=some y)(hi:JC k):JC y.1:=by
 have n:Par (J0M (k,j)) λy=>JC y.1:=by unfold J0M;have q: ∀x:Jo,Par ((J2V (k,j)).bind λe=>if Jr e.2 then(Js 14).bind λo=>some (k,o)else(J0W (k,x,e.1)).bind λg=>some (g.1,g.2)) λy=>JC y.1:=λx=>.bind λ_ _=>.not (λ_=>.bind λ_ _=>.some hi) λ_=>.bind λz r=>.some (JD6 r hi);exact .bind λ_ _=>.ne (λ_=>.bind λ_ _=>.some hi) λ_=>.eq (λ_=>.eq (λ_=>.bind λv h4=>.ne (λ_=>.bind λ_ _=>.some hi) λw=>.bind λ_ _=>.some (show JC v.1 from Jls h4 w hi (.inr (.inr rfl)))) λ_=>q _) λ_=>q _
 exact n _ h
end
section
variable {k k':J6}
def Fl(r:J0f):Prop:=r.1=5->r.2.2.2.2≠0
theorem JBV{r:J0f}(h:r.1≠5):Fl r:=λe=>absurd e h
theorem JiD{n:Int}{r:J0f}(h:Js n=some r)(hn: ¬n=0):Fl r:=by unfold Js at h;injection h with h;subst h;exact λ_=>hn
theorem JJ8{x:Jo}{e:J2}{y:J41}(h:J0W (k,x,e)=some y):Fl y.2:=by
 have g:Par (J0W (k,x,e)) λy=>Fl y.2:=by unfold J0W;have d:Fl (1,x.1,0,(false,[]),0):=JBV (show(1:Int)≠5 by decide);exact .bind λr h2=>.not (λ_=>.some (JBV (show(3:Int)≠5 by decide))) λj=>.bind λq h3=>.bind λ_ _=>.ne (λc=>.bind λ_ h=>.some (JiD h c)) λ_=>.bind λn o=>.ne (λc=>.bind λ_ h=>.some (JiD h c)) λ_=>.eq (λ_=>.bind λ_ _=>.not (λ_=>.bind λ_ _=>.some d) λ_=>.some d) λ_=>.some d
 exact g _ h
theorem Jvk{j:Int}{y:J41}(h:J0M (k,j)=some y):Fl y.2:=by
 have n:Par (J0M (k,j)) λy=>Fl y.2:=by unfold J0M;have q: ∀x:Jo,Par ((J2V (k,j)).bind λe=>if Jr e.2 then(Js 14).bind λo=>some (k,o)else(J0W (k,x,e.1)).bind λg=>some (g.1,g.2)) λy=>Fl y.2:=λx=>.bind λ_ _=>.not (λ_=>.bind λ_ h=>.some (JiD h (by decide))) λ_=>.bind λv r=>.some (JJ8 r);exact .bind λ_ _=>.ne (λc=>.bind λ_ h=>.some (JiD h c)) λ_=>.eq (λ_=>.eq (λ_=>.bind λw h4=>.ne (λc=>.bind λ_ h=>.some (JiD h c)) λz=>.bind λ_ _=>.some (JBV (show(1:Int)≠5 by decide))) λ_=>q _) λ_=>q _
 exact n _ h
end
end Go.Am
end
section
namespace Go.Am
set_option linter.unusedVariables false
set_option maxRecDepth 20000
set_option maxHeartbeats 1000000
section
variable {s:Jt}
theorem Jzi{k:J6}{x:JT}{y:J2O}(e:J2w (s,k,x)=some y)(c:y.2=0)(hi:JC k)(hf: ∃f∈k.2.2.2.1.2.1,f.1=x):JC y.1.1:=by
 have g:Par (J2w (s,k,x)) λy=>y.2=0->JC y.1.1:=by unfold J2w;refine .bind λ_ _=>.bind λ_ _=>.ne (λc=>.some λh=>absurd h c) λ_=>.bind λn h4=>.ne (λc=>.some λh=>absurd h c) λj=>.some λ_=>JE2 h4 j hi ?_;obtain⟨f,hf,e1⟩:=hf;exact⟨f,hf,by rw[e1],by rw[e1]⟩
 exact g _ e c
theorem JDV{id:Int}{y:J2O}(e:J4L (s,id)=some y)(c:y.2=0)(hi:JC s.1):JC y.1.1:=by
 have g:Par (J4L (s,id)) λy=>y.2=0->JC y.1.1:=by unfold J4L;refine .bind λn h2=>.ne (λc=>.some λh=>absurd h c) λj=>.bind λ_ _=>.bind λ_ _=>.not (λ_=>.some λ_=>hi) λ_=>.bind λo h5=>.some λk=>?_;obtain⟨g1,g2⟩:=JDR h2 j hi;exact Jzi h5 k g1 g2
 exact g _ e c
theorem JIJ{y:J2O}(e:J3j s=some y)(c:y.2=0)(hi:JC s.1):JC y.1.1:=by
 have g:Par (J3j s) λy=>y.2=0->JC y.1.1:=by unfold J3j;refine .while (λz=>JC z.1.1) hi λz hz=>?_;unfold J8L;refine .bind λk h3=>.ne (λc=>.some λh=>absurd h c) λc3=>?_;obtain⟨g1,g2⟩:=JIv h3 c3 hz;exact .not (λ_=>.some λ_=>g1) λc=>.bind λn h4=>.ne (λc=>.some λh=>absurd h c) λj=>.some (Jzi h4 j g1 (g2 c))
 exact g _ e c
theorem Jfn{id:Int}{y:J2O}(e:J1A (s,id)=some y)(c:y.2=0)(hi:JC s.1):JC y.1.1:=by
 have g:Par (J1A (s,id)) λy=>y.2=0->JC y.1.1:=by unfold J1A;exact .bind λ_ _=>.not (λ_=>.some nofun) λ_=>.ltf (λ_=>.ge (λ_=>.some nofun) λ_=>.bind λ_ _=>.ge (λ_=>.some λ_=>hi) λ_=>.bind λo h4=>.ne (λc=>.some λh=>absurd h c) λn=>.bind λ_ _=>.ne (λc=>.some λh=>absurd h c) λ_=>.bind λ_ _=>.bind λ_ _=>.ne (λc=>.some λh=>absurd h c) λ_=>.bind λ_ _=>.ne (λc=>.some λh=>absurd h c) λ_=>.bind λq k=>.ne (λc=>.some λh=>absurd h c) λj=>.some λ_=>JEy k j (JIJ h4 n hi)) λ_=>.some nofun
 exact g _ e c
theorem JBy{j:Int}{y:J2O}(e:J1E (s,j)=some y)(c:y.2=0)(hi:JC s.1):JC y.1.1:=by
 have g:Par (J1E (s,j)) λy=>y.2=0->JC y.1.1:=by unfold J1E;refine .bind λ_ _=>.not (λ_=>.some nofun) λ_=>.bind λ_ _=>.lt (λ_=>.some nofun) λ_=>.while (λz=>JC z.2.1.1) hi λz hz=>?_;unfold J8r;exact .bind λ_ _=>.ite (λ_=>.bind λq k=>.eq (λc=>.some λh=>absurd h (Jvk (by assumption) c)) λ_=>.eq (λ_=>.bind λr o=>.ne (λc=>.some λh=>absurd h c) λn=>.some (Jfn o n hz)) λ_=>.some (JtY k hz)) λ_=>.some λ_=>hz
 exact g _ e c
theorem JK5{q:Int}{a:J2b}{y:TQ79}(e:J6X (s,q,a)=some y)(hi:JC s.1):JC y.1.1:=by
 have n:Par (J6X (s,q,a)) λy=>JC y.1.1:=by
  unfold J6X;refine .while (λz=>JC z.2.1.1) hi λz hz=>?_;unfold JcJ;refine .bind λj h3=>?_;have g:=JJf h3 hz;have rb: ∀{Q:(TQ25)⊕(TQ79)->Prop},(∀y,JC y.1.1->Q (.inr y))->Par ((J2Q ((j.1,z.2.1.2),z.1)).bind λw=>if w then(J1E ((j.1,z.2.1.2),z.1)).bind λk=>if neI k.2 0 then(Js k.2).bind λo=>some (.inr ((j.1,z.2.1.2),o))else some (.inr (k.1,j.2))else some (.inr ((j.1,z.2.1.2),j.2))) Q:=
   λh=>.bind λ_ _=>.ite (λ_=>.bind λA v=>.ne (λ_=>.bind λ_ _=>.some (h _ g)) λr=>.some (h _ (JBy (s:=(j.1,z.2.1.2)) v r g))) λ_=>.some (h _ g)
  exact .eq (λ_=>.bind λB h4=>.ne (λ_=>.bind λ_ _=>.some g) λx=>.some (Jfn (s:=(j.1,z.2.1.2)) h4 x g)) λ_=>.eqf (λ_=>.eq (λ_=>.eqf (λ_=>.eq (λ_=>rb λ_ h=>h) λ_=>.some g) λ_=>rb λ_ h=>h) λ_=>.some g) λ_=>rb λ_ h=>h
 exact n _ e
theorem JpM{y:JeS}(e:J4H s=some y)(c:y.2.2=0)(hi:JC s.1):JC y.1.1:=by
 have g:Par (J4H s) λy=>y.2.2=0->JC y.1.1:=by unfold J4H;exact .bind λk h2=>.ne (λc=>.some λh=>absurd h c) λj=>.some λ_=>JCy h2 j hi
 exact g _ e c
theorem Jkb{h:Int}{l:JI}{y:JeS}(e:J5M (s,h,l)=some y)(hi:JC s.1):JC y.1.1:=by
 have g:Par (J5M (s,h,l)) λy=>JC y.1.1:=by unfold J5M;refine .while (λz=>JC z.2.2.1.1) hi λz hz=>?_;unfold Jbe;exact .bind λn h3=>.eq (λ_=>.some hz) λ_=>.eq (λ_=>.bind λk h4=>.ne (λ_=>.some hz) λj=>.some (Jfn h4 j hz)) λ_=>.eq (λ_=>.some hz) λ_=>.some (JG8 h3 hz)
 exact g _ e
theorem Jva{j:Int}{a:J2b}{y:TQ79}(e:J7m (s,j,a)=some y)(hi:JC s.1):JC y.1.1:=by
 have h:Par (J7m (s,j,a)) λy=>JC y.1.1:=by unfold J7m;refine .while (λz=>JC z.2.1.1) hi λz hz=>?_;unfold JcO;refine .bind λk h3=>?_;have g:=JK5 h3 hz;exact .ne (λ_=>.some g) λ_=>.bind λ_ _=>.not (λ_=>.some g) λ_=>.bind λn h5=>.ne (λ_=>.bind λ_ _=>.some (Jkb h5 g)) λ_=>.eq (λ_=>.some (Jkb h5 g)) λ_=>.some (Jkb h5 g)
 exact h _ e
theorem JJm{y:JEd}(e:J5I s=some y)(c:y.2.2=0)(hi:JC s.1):JC y.1.1:=by
 have g:Par (J5I s) λy=>y.2.2=0->JC y.1.1:=by unfold J5I;refine .bind λ_ _=>.not (λ_=>.some nofun) λ_=>.gt (λ_=>.bind λ_ _=>.bind λq h4=>.some λo=>Jfn h4 o hi) λ_=>.bind λ_ _=>.eq (λ_=>.some λ_=>hi) λ_=>.while (λz=>JC z.2.1.1) hi λz hz=>?_;unfold JaU;exact .bind λ_ _=>.bind λv n=>.eq (λc=>.some λh=>absurd h (Jvk (by assumption) c)) λ_=>.ne (λ_=>.some λ_=>JtY n hz) λ_=>.bind λr k=>.ne (λc=>.some λh=>absurd h c) λj=>.some (Jfn k j hz)
 exact g _ e c
end
end Go.Am
end
section
namespace Go.Am
set_option linter.unusedVariables false
set_option maxRecDepth 20000
set_option maxHeartbeats 1000000
section
theorem JnP{n:Int}(h1:0<=n)(h2:n<18446744073709551616):IntKind.u64.wrap n=n:=by simp[IntKind.wrap,IntKind.bits,IntKind.signed];omega
theorem JJg{n:Int}(h1: -9223372036854775808<=n)(h2:n<=9223372036854775807):IntKind.i64.wrap n=n:=by simp[IntKind.wrap,IntKind.bits,IntKind.signed];omega
theorem JKL{l:List UInt8}{k:Nat}(h:k<l.length):JeT l (k:Int)=some ((l[k]).toNat:Int):=by simp[JeT,h]
theorem JJA{x b j:Nat}(hj:j<=7)(hx:x<2^(8*j))(hb:b<256):
  orI .u64 (x:Int) (IntKind.wrap .u64 (((b:Nat):Int)*2^(8*j)))=((x+b*2^(8*j):Nat):Int):=by
 have g:(2:Nat)^(8*j)*256<=2^64:=by rw[show(256:Nat)=2^8 by rfl,<-Nat.pow_add];exact Jp6 (by omega) (by omega)
 have h:b*2^(8*j)+2^(8*j)<=2^64:=by have:(b+1)*2^(8*j)<=256*2^(8*j):=zQ4 _ (by omega);rw[zQ8,Nat.one_mul]at this;omega
 have w:IntKind.wrap .u64 (((b:Nat):Int)*2^(8*j))=((b*2^(8*j):Nat):Int):=by
  have e:(((b:Nat):Int)*2^(8*j))=((b*2^(8*j):Nat):Int):=by simp
  rw[e,JnP (by omega) (by omega)]
 rw[w];have e1: ∀y:Nat,y<2^64->(BitVec.ofInt 64 (y:Int)).toNat=y:=by intro y hy;rw[BitVec.toNat_ofInt];omega
 show IntKind.wrap .u64 (((BitVec.ofInt 64 (x:Int)|||BitVec.ofInt 64 ((b*2^(8*j):Nat):Int)).toNat:Nat):Int)=_;rw[BitVec.toNat_or,e1 x (by omega),e1 _ (by omega)];have e2:x|||b*2^(8*j)=x+b*2^(8*j):=by rw[Nat.or_comm,Nat.mul_comm b,<-Nat.two_pow_add_eq_or_of_lt hx,Nat.add_comm]
 rw[e2,JnP (by omega) (by omega)]
theorem JAg{n i:Nat}(hn:n<2^64):J9c (n:Int) i=((n/2^(8*i)%256:Nat):Int):=by show((IntKind.wrap .u64 (n:Int)).fdiv (2^(8*i)))%256=_;rw[Int.fdiv_eq_ediv_of_nonneg _ (Int.le_of_lt (Int.pow_pos (by decide))),JnP (by omega) (by omega)];simp
theorem JEH{n:Int}{k i:Nat}(h:i<k):(J0Y n k)[i]?=some (UInt8.ofNat (J9c n i).toNat):=by simp[J0Y,toStr,h]
theorem J3f{s r:List UInt8}{n:Int}{k:Nat}(h1:1<=k)(C:k<=8)(h:JN (s,n,(k:Int))=some r):r=s++J0Y n k:=by
 have g:Par (JN (s,n,(k:Int))) λr=>r=s++J0Y n k:=by
  unfold JN;refine .ltf (λ_=>.gt (λc=>by(try dsimp only at c);omega) λ_=>?_) λc=>by(try dsimp only at c);omega
  refine .while (λz=>z.2.1=n/\z.2.2.1=(k:Int)/\ ∃j:Nat,z.2.2.2=(j:Int)/\j<=k/\z.1=s++J0Y n j) ⟨rfl,rfl,0,rfl,zQ2 _,by simp[J0Y,toStr]⟩ ?_;rintro⟨o,q,k',y⟩ ⟨rfl,rfl,j,rfl,hj,e⟩
  (try dsimp only at e)
  subst e;unfold JbJ;dsimp only;have B:=Jb (j:Int) 1;have A:=Jlo 8 (j:Int);refine .lt (λc=>.bind λv h3=>.bind λD h4=>.some ⟨rfl,rfl,j+1,by dsimp only;omega,by omega,?_⟩) λc=>.some (by rw[show j=k by omega]);have x:cvI .u8 v=J9c q j:=by
   have w:cvI .u64 (J2u .i64 8 (j:Int))=((8*j:Nat):Int):=by unfold cvI;rw[JnP (by omega) (by omega)];omega
   rw[w]at h3;simp only[Jg8]at h3;rw[if_neg (by omega)]at h3;injection h3 with h3;rw[<-h3];have:min (((8*j:Nat):Int)).toNat IntKind.u64.bits=8*j:=by simp only[Int.toNat_natCast];exact Nat.min_eq_left (by show 8*j<=64;omega)
   rw[this];rfl
  rw[x]at h4;dsimp only;unfold J5B at h4;split at h4
  ·injection h4 with h4;rw[<-h4,JDH,J8U];rfl
  ·cases h4
 exact g _ h
def At(s w:List UInt8)(p:Int):Prop:= ∃pre e,s=pre++(w++e)/\(pre.length:Int)=p
theorem At.left{s a b:List UInt8}{p:Int}(h:At s (a++b) p):At s a p:=by obtain⟨pre,g,e,h⟩:=h;exact⟨pre,b++g,by rw[e];simp,h⟩
theorem At.right{s a b:List UInt8}{p:Int}(h:At s (a++b) p):At s b (p+a.length):=by obtain⟨pre,g,e,h⟩:=h;exact⟨pre++a,g,by rw[e];simp,by rw[J57];omega⟩
theorem At.bnd{s w:List UInt8}{p:Int}(h:At s w p):0<=p/\p+w.length<=s.length:=by obtain⟨pre,g,e,h⟩:=h;subst e;simp only[J57];omega
theorem At.slc{s w r:List UInt8}{p q:Int}(h:At s w p)(hq:q=p+w.length)(e:J0s s (some p) (some q)=some r):r=w:=by
 obtain⟨pre,g,rfl,rfl⟩:=h;obtain⟨r',e',d,_⟩:=Ji1 (l:=pre++(w++g)) (j:=pre.length) (k:=q) (by omega) (by omega) (by unfold J0;simp only[J57];omega);rw[e']at e;injection e with e;subst e
 rw[d,show(q-(pre.length:Int)).toNat=w.length by omega];simp
theorem At.all{s:List UInt8}:At s s 0:=⟨[],[],by simp,rfl⟩
theorem Jj6{s:List UInt8}{p:Int}{n k:Nat}(h:At s (J0Y n k) p)(h1:1<=k)(I:k<=8)(hn:n<2^(8*k))(D:n<2^63)(hl:s.length<=4611686018427387904):
  J09 (s,p,(k:Int))=some ((n:Int),0):=by
 have hb:=h.bnd;rw[JS]at hb;obtain⟨pre,B,hs,rfl⟩:=h;have r:Tot (J09 (s,(pre.length:Int),(k:Int))) λy=>y=((n:Int),0):=by
  unfold J09;have o:=J0o (J0 s) (pre.length:Int);have E:J0 s=(s.length:Int):=rfl;refine .ltf (λ_=>.gtf (λ_=>.lt (λc=>by(try dsimp only at c);omega) λ_=>.gtf (λ_=>.lt (λc=>by(try dsimp only at c);omega) λ_=>?_) λc=>by(try dsimp only at c);omega) λc=>by(try dsimp only at c);omega) λc=>by(try dsimp only at c);omega
  refine Jf (τ:=Nat) (λj=>(s,(pre.length:Int),(k:Int),((n%2^(8*j):Nat):Int),(j:Int))) (λj=>j<=k) (λj=>(k:Int)-j) ?_ 0 (by simp[Nat.mod_one]) (zQ2 _);intro j hj;unfold J9k;dsimp only;have G:=Jb (j:Int) 1;have F:=Jlo 8 (j:Int);have H:=Jb (pre.length:Int) (j:Int);refine .lt (λc=>?_) λc=>.some ?_
  ·have e2:J1 .i64 (pre.length:Int) (j:Int)=((pre.length+j:Nat):Int):=by omega
   have g:pre.length+j<s.length:=by omega
   have hb:(s[pre.length+j]'g).toNat=n/2^(8*j)%256:=by
    have h5:s[pre.length+j]?=some (UInt8.ofNat (J9c (n:Int) j).toNat):=by rw[hs,JeV (by omega),Nat.add_sub_cancel_left,JkM (by rw[JS];omega),JEH (by omega)]
    rw[zQ9 g]at h5;injection h5 with h5;have A:=JC1 (n:Int) j;rw[<-h5,JAg (by omega)]at A;omega
   have v:n/2^(8*j)%256<256:=Nat.mod_lt _ (by omega);have z:cvI .u64 (J2u .i64 8 (j:Int))=((8*j:Nat):Int):=by unfold cvI;rw[JnP (by omega) (by omega)];omega
   have C:JgL .u64 (cvI .u64 (((s[pre.length+j]'g).toNat:Nat):Int)) ((8*j:Nat):Int)=some (IntKind.wrap .u64 (((n/2^(8*j)%256:Nat):Int)*2^(8*j))):=by
    unfold cvI;rw[hb,JnP (by omega) (by omega)];simp only[JgL];rw[if_neg (by omega)];have:min (((8*j:Nat):Int)).toNat IntKind.u64.bits=8*j:=by simp only[Int.toNat_natCast];exact Nat.min_eq_left (by show 8*j<=64;omega)
    rw[this]
   have q:=JJA (x:=n%2^(8*j)) (b:=n/2^(8*j)%256) (j:=j) (by omega) (Nat.mod_lt _ (Nat.two_pow_pos _)) v;have w:n%2^(8*j)+n/2^(8*j)%256*2^(8*j)=n%2^(8*(j+1)):=by rw[Nat.mul_add,Nat.pow_add,Nat.mod_mul,Nat.mul_comm (n/2^(8*j)%256)]
   rw[w]at q;rw[e2,JKL g,J07,z,C,J07,q];exact .some ⟨j+1,by rw[show J1 .i64 (j:Int) 1=((j+1:Nat):Int) by omega],by omega,by omega,by omega⟩
  ·rw[show j=k by omega,Nat.mod_eq_of_lt hn];unfold cvI;rw[JJg (by omega) (by omega)]
 obtain⟨y,e,d⟩:=r;rw[e,d]
end
end Go.Am
end
section
namespace Go.Am
set_option linter.unusedVariables false
set_option maxRecDepth 20000
set_option maxHeartbeats 1000000
section
def J7O(c:J1l):Prop:=J0 c.2<=12/\(c.1=false->c.2=[])
def EV(e:J2):Prop:=(1<=e.1/\e.1<=1099511627776)/\(0<=e.2.2.2.1/\e.2.2.2.1<e.1)/\(0<=e.2.2.2.2.1/\e.2.2.2.2.1<e.1)/\(0<=e.2.2.2.2.2.1/\e.2.2.2.2.2.1<e.1)/\(1<=e.2.1/\e.2.1<=8)/\(0<=e.2.2.1/\e.2.2.1<=1073741824)/\(0<=pgE e/\pgE e<64)/\(0<=e.2.2.2.2.2.2.1.2.1/\e.2.2.2.2.2.2.1.2.1<16)/\J7O e.2.2.2.2.2.2.1.2.2.1/\J7O e.2.2.2.2.2.2.1.2.2.2/\J0 e.2.2.2.2.2.2.2<=8192
theorem JwU{c:J1l}(h:J0m c=some true):J7O c:=by
 have e:Par (J0m c) λy=>y=true->J7O c:=by
  unfold J0m;refine .ite (λj=>.itf (λg=>.some ?_) λg=>.some ?_) λj=>.some ?_
  all_goals grind [J7O,eqS,leI,J0]
 exact e _ h rfl
theorem EV.of{e:J2}(h:Jx e=some true):EV e:=by
 obtain⟨q1,q2,q3,B,A,x,⟨q,r,o,k⟩,g⟩:=e;have c3: ∀{c:T_api_Change} {b:Bool},J1f c=some b->b=true->(0<=c.1/\c.1<64)/\(0<=c.2.1/\c.2.1<16)/\J7O c.2.2.1/\J7O c.2.2.2:=fun{c b} hb F=>by
  have w:Par (J1f c) λy=>y=true->(0<=c.1/\c.1<64)/\(0<=c.2.1/\c.2.1<16)/\J7O c.2.2.1/\J7O c.2.2.2:=by unfold J1f;refine .ge (λE=>.lt (λG=>.ge (λc3=>.lt (λI=>.bind λa ha=>.ite (λD=>.bind λb hb=>.some λC=>?_) λ_=>.some nofun) λ_=>.some nofun) λ_=>.some nofun) λ_=>.some nofun) λ_=>.some nofun;subst D;subst C;exact⟨⟨E,G⟩,⟨c3,I⟩,JwU ha,JwU hb⟩
  exact w _ hb F
 have z:J7O (false,[]):=⟨show(0:Int)<=12 by decide,λ_=>rfl⟩;have k1:Par (J28 (q1,q2,q3,B,A,x,(q,r,o,k),g)) λy=>y.2=true->y.1=(q1,q2,q3,B,A,x,(q,r,o,k),g)->(1<=q2/\q2<=8)/\(0<=q3/\q3<=1073741824)/\(0<=q/\q<64)/\(0<=r/\r<16)/\J7O o/\J7O k/\J0 g<=8192:=by
  unfold J28;dsimp only
  repeat' first
   |refine .eq (λ_=>?_) λ_=>?_
   |refine .ge (λ_=>?_) λ_=>?_
   |refine .le (λ_=>?_) λ_=>?_
   |refine .gt (λ_=>?_) λ_=>?_
   |exact .some λh=>absurd h Bool.false_ne_true
   |refine .bind λv hv=>.ite (λj=>?_) λ_=>.some nofun
   |refine .bind λv hv=>.eq (λ_=>.ite (λj=>?_) λ_=>.some nofun) λ_=>.ite (λj=>?_) λ_=>.some nofun
  all_goals refine .some λc he=>?_
  all_goals simp only[Prod.mk.injEq,true_and,and_true]at he
  all_goals simp only[J1R,J4G,J8s]at c
  all_goals first
   |exact⟨by omega,by omega,(c3 hv j).1,(c3 hv j).2.1,(c3 hv j).2.2.1,(c3 hv j).2.2.2,by rw[<-he];exact(by decide:(0:Int)<=8192)⟩
   |exact⟨by omega,by omega,(c3 hv j).1,(c3 hv j).2.1,(c3 hv j).2.2.1,(c3 hv j).2.2.2,by rw[<-he.2];exact(by decide:(0:Int)<=8192)⟩
   |(have P:o=(false,[]):=by grind
     have K:k=(false,[]):=by grind
     have J:J0 g<=8192:=by
      first
       |exact c
       |(have:g=[]:=by grind
         rw[this];exact(by decide:(0:Int)<=8192))
     rw[P,K];exact⟨by omega,by omega,by omega,by omega,z,z,J⟩)
 have H: ∀{n l:Int} {b:Bool},J1Q (n,l)=some b->b=true->0<=n/\n<l:=fun{n l b} hb F=>JdN (by rw[<-F];exact hb);have w:Par (Jx (q1,q2,q3,B,A,x,(q,r,o,k),g)) λy=>y=true->EV (q1,q2,q3,B,A,x,(q,r,o,k),g):=by unfold Jx;exact .bind λa ha=>.ite (λE=>.ite (λG=>.ge (λc3=>.le (λI=>.bind λb1 M=>.ite (λD=>.bind λb2 L=>.ite (λC=>.bind λQ N=>.some λO=>⟨⟨c3,I⟩,H M D,H L C,H N O,k1 _ ha E (J1I.1 G)⟩) λ_=>.some nofun) λ_=>.some nofun) λ_=>.some nofun) λ_=>.some nofun) λ_=>.some nofun) λ_=>.some nofun
 exact w _ h rfl
end
end Go.Am
end
section
namespace Go.Am
set_option linter.unusedVariables false
set_option maxRecDepth 20000
set_option maxHeartbeats 1000000
section
def J9i(c:J1l):List UInt8:=if c.1=false then J0Y 255 1 else J0Y (J0 c.2) 1++c.2
def Jat(e:J2):List UInt8:=J0Y e.1 8++(J0Y e.2.1 1++(J0Y e.2.2.1 4++(J0Y e.2.2.2.1 8++(J0Y e.2.2.2.2.1 8++(J0Y e.2.2.2.2.2.1 8++(J0Y (pgE e) 4++(J0Y e.2.2.2.2.2.2.1.2.1 1++(J9i e.2.2.2.2.2.2.1.2.2.1++(J9i e.2.2.2.2.2.2.1.2.2.2++(J0Y (J0 e.2.2.2.2.2.2.2) 4++e.2.2.2.2.2.2.2))))))))))
theorem J9h{a b r:List UInt8}(h:J5B a b=some r):r=a++b:=by
 unfold J5B at h;split at h
 ·injection h with h;exact h.symm
 ·cases h
theorem JDt{s r:List UInt8}{c:J1l}(h:J4v (s,c)=some r):r=s++J9i c:=by
 have e:Par (J4v (s,c)) λr=>r=s++J9i c:=by
  unfold J4v J9i;refine .not (λd=>.bind λj h2=>.some ?_) λd=>.bind λg h3=>.bind λn h4=>.some ?_
  ·rw[J3f (k:=1) (by decide) (by decide) h2,if_pos d]
  ·rw[J9h h4,J3f (k:=1) (by decide) (by decide) h3,if_neg (by rw[show c.1=true from d];decide),J8U]
 exact e _ h
theorem JKP{e:J2}{y:List UInt8×Int}(h:J4g e=some y)(hv:Jx e=some true):y=(Jat e,0):=by
 have r:Par (J4g e) λy=>y=(Jat e,0):=by
  unfold J4g;refine .bind λv g=>.not (λc=>?_) λ_=>.bind λH h3=>.bind λM h4=>.bind λJ h5=>.bind λK z=>.bind λG w=>.bind λI x=>.bind λL A=>.bind λB h10=>.bind λF q=>.bind λE o=>.bind λC j=>.bind λD n=>.some ?_
  ·rw[hv]at g;injection g with g;subst g;cases c
  ·rw[J9h n,J3f (k:=4) (by decide) (by decide) j,JDt o,JDt q,J3f (k:=1) (by decide) (by decide) h10,J3f (k:=4) (by decide) (by decide) A,J3f (k:=8) (by decide) (by decide) x,J3f (k:=8) (by decide) (by decide) w,J3f (k:=8) (by decide) (by decide) z,J3f (k:=4) (by decide) (by decide) h5,J3f (k:=1) (by decide) (by decide) h4,J3f (k:=8) (by decide) (by decide) h3];unfold Jat;simp only[J8U,JhY];rfl
 exact r _ h
variable {s:List UInt8} {p:Int}
theorem Jay{n:Int}{k:Nat}(b:Nat)(h:At s (J0Y n k) p)(hl:s.length<=1000000)(q:0<=n)(hn:n<b)(hb:b=2^(8*k):=by rfl)(h1:1<=k:=by decide)(j:k<=8:=by decide)(r:n<9223372036854775808:=by omega):JE ((k:Int),s,p,0)=some (n,s,p+k,0):=by have e:=h.bnd;rw[JS]at e;obtain⟨m,rfl⟩:=Int.eq_ofNat_of_zero_le q;have g:=Jj6 h h1 j (by omega) (by omega) (by omega);have o:=Jb p (k:Int);unfold JE;dsimp only;rw[if_neg (by decide),g];dsimp only[Option.bind_some];rw[if_neg (by decide),show J1 .i64 p (k:Int)=p+k by omega]
theorem JGH{w:List UInt8}(h:At s w p)(hl:s.length<=1000000):J1W (J0 w,s,p,0)=some (w,s,p+w.length,0):=by
 have hb:=h.bnd;have o:=Jb p (J0 w);have k:=J0o (J0 s) p;have j:=J0o (J1 .i64 p (J0 w)) (J0 w);have hw:J0 w=w.length:=rfl;have hs:J0 s=s.length:=rfl;have g:Tot (J1W (J0 w,s,p,0)) λy=>y=(w,s,p+w.length,0):=by unfold J1W;dsimp only;refine .ne (λc=>absurd rfl c) λ_=>.gt (λc=>by omega) λ_=>?_;rw[show JH .i64 (J1 .i64 p (J0 w)) (J0 w)=p by omega,show J1 .i64 p (J0 w)=p+w.length by omega];refine .bind (Ji1 (l:=s) hb.1 (by omega) (by omega)).eqn λr hr=>.some ?_;rw[h.slc rfl hr.2]
 obtain⟨y,e,d⟩:=g;rw[e,d]
theorem JGM{c:J1l}(h:At s (J9i c) p)(hc:J7O c)(hl:s.length<=1000000):J2M (s,p,0)=some (c,s,p+(J9i c).length,0):=by
 unfold J9i at h⊢;unfold J2M;obtain⟨b,d⟩:=c;obtain⟨h1,h2⟩:=hc
 (try dsimp only at h h1 h2⊢)
 have e:=J4 (l:=d);cases b with
 |false=>rw[if_pos rfl]at h⊢;have g:=Jay (k:=1) 256 h hl (by decide) (by decide);rw[show JE (1,s,p,0)=_ from g,h2 rfl];rfl
 |true=>rw[if_neg (by decide)]at h⊢;have g:=Jay (k:=1) 256 h.left hl (by omega) (by omega);have g2:=JGH h.right hl;rw[show JE (1,s,p,0)=_ from g];dsimp only[Option.bind_some];rw[if_pos (by decide),if_neg (by rw[J5h];omega),if_neg (by rw[J8s];omega)];rw[JS]at g2;rw[g2];dsimp only[Option.bind_some];rw[J57,JS,Int.natCast_add,Int.add_assoc]
theorem JGO{e:J2}(hv:Jx e=some true):J5k (Jat e)=some (e,0)/\(Jat e).length<=8300:=by
 obtain⟨v1,v2,v3,v4,H,C,D,G,v9,g,B⟩:=EV.of hv;have h: ∀{c:J1l},J7O c->(J9i c).length<=13:=fun{c} hc=>by
  unfold J9i;have:=hc.1;unfold J0 at this;split
  ·rw[JS];decide
  ·rw[J57,JS];omega
 have E:=h v9;have F:=h g;have hl:(Jat e).length=46+(J9i e.2.2.2.2.2.2.1.2.2.1).length+(J9i e.2.2.2.2.2.2.1.2.2.2).length+e.2.2.2.2.2.2.2.length:=by unfold Jat;simp only[J57,JS];omega
 have A:J0 e.2.2.2.2.2.2.2=e.2.2.2.2.2.2.2.length:=rfl;refine⟨?_,by omega⟩;have hs:(Jat e).length<=1000000:=by omega
 generalize hx:Jat e=s at hl hs;have a0:At s (Jat e) 0:=by rw[hx];exact .all
 unfold Jat at a0;have g1:=Jay (k:=8) 18446744073709551616 a0.left hs (by omega) (by omega);replace a0:=a0.right;simp only[JS]at a0;have g2:=Jay (k:=1) 256 a0.left hs (by omega) (by omega);replace a0:=a0.right;simp only[JS]at a0;have z:=Jay (k:=4) 4294967296 a0.left hs (by omega) (by omega);replace a0:=a0.right;simp only[JS]at a0;have x:=Jay (k:=8) 18446744073709551616 a0.left hs (by omega) (by omega);replace a0:=a0.right;simp only[JS]at a0;have y:=Jay (k:=8) 18446744073709551616 a0.left hs (by omega) (by omega);replace a0:=a0.right;simp only[JS]at a0;have q:=Jay (k:=8) 18446744073709551616 a0.left hs (by omega) (by omega);replace a0:=a0.right;simp only[JS]at a0;have v:=Jay (k:=4) 4294967296 a0.left hs (by omega) (by omega);replace a0:=a0.right;simp only[JS]at a0;have w:=Jay (k:=1) 256 a0.left hs (by omega) (by omega);replace a0:=a0.right;simp only[JS]at a0;have r:=JGM a0.left v9 hs;replace a0:=a0.right;have o:=JGM a0.left g hs;replace a0:=a0.right;have j:=Jay (k:=4) 4294967296 a0.left hs (by omega) (by omega);replace a0:=a0.right;simp only[JS]at a0;have n:=JGH a0 hs;unfold J5k;rw[show JE (8,s,0,0)=_ from g1,J07];rw[show JE (1,s,_,0)=_ from g2,J07];rw[show JE (4,s,_,0)=_ from z,J07];rw[show JE (8,s,_,0)=_ from x,J07];rw[show JE (8,s,_,0)=_ from y,J07];rw[show JE (8,s,_,0)=_ from q,J07];rw[show JE (4,s,_,0)=_ from v,J07];rw[show JE (1,s,_,0)=_ from w,J07];rw[r,J07];rw[o,J07];rw[show JE (4,s,_,0)=_ from j,J07];rw[n,J07];dsimp only;rw[if_neg (by decide),if_neg (by rw[Jb5,Decidable.not_not];unfold J0;omega)];rw[show Jx (e.1,e.2.1,e.2.2.1,e.2.2.2.1,e.2.2.2.2.1,e.2.2.2.2.2.1,(pgE e,e.2.2.2.2.2.2.1.2.1,e.2.2.2.2.2.2.1.2.2.1,e.2.2.2.2.2.2.1.2.2.2),e.2.2.2.2.2.2.2)=some true from hv];rfl
end
end Go.Am
end
section
namespace Go.Am
set_option linter.unusedVariables false
set_option maxRecDepth 20000
set_option maxHeartbeats 1000000
section
variable {s r w:List UInt8} {p:Int}
theorem JGC{c:Int}(h:J3o s=some c):0<=c/\c<4294967296:=by
 have e:Par (J3o s) λc=>0<=c/\c<4294967296:=by
  unfold J3o;refine .while (λ_=>True) trivial λz _=>?_;unfold Jc1;refine .lt (λ_=>.bind λ_ _=>.while (λ_=>True) trivial λz _=>?_) λ_=>.some ?_
  ·unfold JbT;exact .lt (λ_=>.eq (λ_=>.bind λ_ _=>.some trivial) λ_=>.bind λ_ _=>.some trivial) λ_=>.some trivial
  ·exact⟨(J6G .u32 _).1,Int.lt_of_le_of_lt (J6G .u32 _).2 (by decide)⟩
 exact e _ h
def FrB(w r:List UInt8):Prop:=J0 w<=8392/\ ∃c,J3o (J0Y (J0 w) 4++w)=some c/\r=(J0Y (J0 w) 4++w)++J0Y c 4
theorem JGz(h:J3Y w=some r)(hl:J0 w<=8392):FrB w r:=by
 have e:Par (J3Y w) λr=>FrB w r:=by
  unfold J3Y;refine .gt (λc=>by omega) λ_=>.bind λo h2=>.bind λg h3=>.bind λc hc=>.bind λj h5=>.some ⟨hl,c,?_,?_⟩
  ·rw[J9h h3,J3f (k:=4) (by decide) (by decide) h2]at hc;exact hc
  ·obtain⟨n,q⟩:=JGC hc;rw[J3f (k:=4) (by decide) (by decide) h5,J9h h3,J3f (k:=4) (by decide) (by decide) h2];unfold cvI;rw[JJg (by omega) (by omega)];rfl
 exact e _ h
theorem FrB.len(h:FrB w r):(r.length:Int)=J0 w+8:=by obtain⟨_,c,_,rfl⟩:=h;simp only[J57,JS];unfold J0;omega
theorem JGx(h:FrB w r)(ha:At s r p)(hl:s.length<=4611686018427387904):J1z (s,p)=some (w,p+r.length,0):=by
 have hb:=ha.bnd;have hr:=h.len;obtain⟨h1,c,hc,rfl⟩:=h;have v:=J4 (l:=w);obtain⟨m,hm⟩:=Int.eq_ofNat_of_zero_le v;obtain⟨x,G⟩:=JGC hc;obtain⟨j,rfl⟩:=Int.eq_ofNat_of_zero_le x;have g1:=Jj6 (n:=m) (by rw[<-hm];exact ha.left.left) (by decide:1<=4) (by decide) (by omega) (by omega) hl;have g2:=Jj6 ha.right (by decide:1<=4) (by decide) (by omega) (by omega) hl;rw[<-hm]at g1;have C:J0 s=s.length:=rfl;have B:J0 w=w.length:=rfl;simp only[J57,JS]at hr g2;have e1:=Jb p 4;have e2:=Jb (J1 .i64 p 4) (J0 w);have K:=Jb p 8;have L:=Jb (J1 .i64 p 8) (J0 w);have D:=J0o (J0 s) p;have F:=Jb (J0 w) 8;simp only[J57,JS]at hb;have q:J1 .i64 (J1 .i64 p 4) (J0 w)=p+((4+w.length:Nat):Int):=by omega
 have g:Tot (J1z (s,p)) λy=>y=(w,p+((4+w.length+4:Nat):Int),0):=by
  unfold J1z;dsimp only;refine .ltf (λ_=>.gt (λc=>by omega) λ_=>.bind (J03 g1) λM k=>?_) λc=>by omega
  subst k;dsimp only;refine .ne (λc=>absurd rfl c) λ_=>.gt (λc=>by omega) λ_=>.lt (λc=>by omega) λ_=>?_;rw[q];refine .bind (J03 g2) λE o=>.bind (Ji1 (l:=s) hb.1 (by omega) (by omega)).eqn λJ h4=>?_;subst o;rw[ha.left.slc (by simp only[J57,JS]) h4.2];refine .bind (J03 hc) λH z=>?_;subst z;refine .ne (λc=>absurd (by unfold cvI;rw[show IntKind.u32.wrap (j:Int)=(j:Int) by simp[IntKind.wrap,IntKind.bits,IntKind.signed];omega]) c) λ_=>?_;rw[show J1 .i64 p 4=p+((4:Nat):Int) by omega];refine .bind (Ji1 (l:=s) (by omega) (by omega) (by omega)).eqn λI A=>.some ?_;have a1:=ha.left.right;rw[JS]at a1;rw[a1.slc (by omega) A.2,show J1 .i64 (J1 .i64 p 8) (J0 w)=p+((4+w.length+4:Nat):Int) by omega]
 obtain⟨y,e,d⟩:=g;rw[e,d];simp only[J57,JS]
theorem JHW{m:Nat}(h:FrB w r)(ha:At s (r.take m) p)(hm:m<r.length)(he:p+m=s.length)(hl:s.length<=4611686018427387904):Par (J1z (s,p)) λy=>y.2.2≠0:=by
 have hb:=ha.bnd;have hr:=h.len;obtain⟨h1,c,hc,rfl⟩:=h;have q:J0 s=s.length:=rfl;have v:=J0o (J0 s) p;have x:=Jb (J0 w) 8;have k:=J4 (l:=w);unfold J1z;dsimp only;refine .ltf (λ_=>.gt (λ_=>.some (by decide)) λ_=>.bind λz h2=>.ne (λ_=>.some (by decide)) λo=>.gt (λ_=>.some (by decide)) λ_=>.lt (λ_=>.some (by decide)) λc3=>?_) λ_=>.some (by decide);exfalso;by_cases h4:m<4
 ·have g:Par (J09 (s,p,4)) λy=>y.2≠0:=by
   unfold J09;dsimp only;exact .ltf (λ_=>.gtf (λ_=>.lt (λ_=>.some (by decide)) λ_=>.gtf (λ_=>.lt (λ_=>.some (by decide)) λc=>by omega) λ_=>.some (by decide)) λ_=>.some (by decide)) λ_=>.some (by decide)
  exact g _ h2 o
 ·obtain⟨n,hn⟩:=Int.eq_ofNat_of_zero_le k;have a1:At s (J0Y (J0 w) 4) p:=by obtain⟨pre,j,e,hp⟩:=ha;refine⟨pre,((w++J0Y c 4).take (m-4))++j,?_,hp⟩;rw[e,J8U,List.take_append,JS,List.take_of_length_le (by rw[JS];omega),J8U]
  have g1:=Jj6 (n:=n) (by rw[<-hn];exact a1) (by decide:1<=4) (by decide) (by omega) (by omega) hl;have g1:=h2.symm.trans g1;injection g1 with g1;rw[g1]at c3
  (try dsimp only at c3)
  have:(m:Int)<J0 w+8:=by omega
  rw[<-hn]at c3;omega
end
end Go.Am
end
section
namespace Go.Am
set_option linter.unusedVariables false
set_option maxRecDepth 20000
set_option maxHeartbeats 1000000
section
variable {s:List UInt8} {l:JO}
noncomputable def JcQ(e:J2):List UInt8:=(J31 e).getD []
noncomputable def frs(l:List J2):List UInt8:=(l.map JcQ).flatten
theorem JzO(a b:List J2):frs (a++b)=frs a++frs b:=by simp[frs]
theorem JnM{e:J2}{r:List UInt8}(h:J31 e=some r)(hv:Jx e=some true):FrB (Jat e) r/\JcQ e=r:=by
 refine⟨?_,by unfold JcQ;rw[h];rfl⟩;have g:Par (J31 e) λr=>FrB (Jat e) r:=by unfold J31;refine .bind λk h2=>.bind λj h3=>.some ?_;rw[JKP h2 hv]at h3;refine JGz h3 ?_;have:=(JGO hv).2;unfold J0;omega
 exact g _ h
def hdB(h:List UInt8):Prop:=FrB ([80,77,76,71]++J0Y 1 8) h
theorem JL7{r:List UInt8}(h:J5x 1=some r):hdB r:=by
 have e:Par (J5x 1) λr=>hdB r:=by unfold J5x;refine .bind λj h2=>.bind λg h3=>.some ?_;rw[J3f (k:=8) (by decide) (by decide) h2]at h3;refine JGz h3 ?_;unfold J0;rw[J57,JS];decide
 exact e _ h
def JvN(l:List J2):Prop:= ∀e∈l,FrB (Jat e) (JcQ e)/\Jx e=some true
theorem JI3{v:Int}(h:J1P (l,v)=some s)(hi:J72 l)(hc:J2N l.2.1):s=[]\/(JvN l.2.1/\s.length<=4611686018427387904/\ ∃hd rest,hdB hd/\s=hd++rest/\rest<+:frs l.2.1):=by
 have I:Par (J1P (l,v)) λs=>s=[]\/(JvN l.2.1/\s.length<=4611686018427387904/\ ∃hd rest,hdB hd/\s=hd++rest/\rest<+:frs l.2.1):=by
  obtain⟨P,R,S,T⟩:=hi;unfold J1P;refine .bind λ_ _=>.not (λ_=>.some (.inl rfl)) λ_=>.bind λhd w=>?_
  (try dsimp only at w)
  rw[P]at w;refine .while (λz=>z.2.2.2.2=l/\ ∃i:Nat,z.2.2.2.1=(i:Int)/\i<=l.2.1.length/\JvN (l.2.1.take i)/\hd<+:z.2.1/\z.2.1++z.2.2.1=hd++frs (l.2.1.take i)/\((i:Int)<=l.2.2->z.2.2.1=[])) ⟨rfl,0,rfl,zQ2 _,λe h=>by simp at h,List.prefix_refl _,by simp[frs],λ_=>rfl⟩ ?_;rintro⟨t,a,b,U,l'⟩ ⟨C,i,B,hi,hf,hp,he,hb⟩
  (try dsimp only at C B hi hf hp he hb)
  subst C;subst B;unfold Ja4;dsimp only;have o:=Jb (i:Int) 1;have M: ∀{e:J2},idx l'.2.1 (i:Int)=some e->l'.2.1.take (i+1)=l'.2.1.take i++[e]/\e.1=(i:Int)+1/\Jx e=some true/\i+1<=l'.2.1.length:=fun{e} he=>by obtain⟨_,q⟩:=J0H he;rw[Int.toNat_natCast]at q;have E:=(J3Z.1 q).1;obtain⟨q1,q2,_⟩:=hc i e q;refine⟨by rw[List.take_add_one,q];rfl,?_,q2,E⟩;rw[q1];unfold J0;rw[Jgo];omega
  have H: ∀{e:J2} {r:List UInt8},J31 e=some r->Jx e=some true->JvN (l'.2.1.take i++[e]):=fun{e r} hr hv x hx=>by
   rcases J2h.1 hx with hx|hx
   ·exact hf x hx
   ·simp at hx;subst hx;obtain⟨q1,q2⟩:=JnM hr hv;exact⟨by rw[q2];exact q1,hv⟩
  refine .lt (λc=>.bind λe k=>.le (λO=>.bind λe2 g=>.bind λN n=>.bind λy A=>.some ⟨rfl,i+1,?_⟩) λO=>.bind λe2 g=>.bind λN n=>.bind λy A=>.some ⟨rfl,i+1,?_⟩) λc=>.map (.bind λK F=>.bind λQ j=>.some (.inr ?_))
  ·rw[k]at g;injection g with g;subst g
   obtain⟨q1,q2,q3,D⟩:=M k;have J:=hb (by omega);subst J;refine⟨by dsimp only;omega,D,by rw[q1];exact H n q3,?_,?_,λ_=>rfl⟩
   ·show hd<+:y;rw[J9h A];exact hp.trans (List.prefix_append _ _)
   ·show y++[]=_;rw[J9h A,q1,JzO,<-J8U,<-he];simp[frs,(JnM n q3).2]
  ·rw[k]at g;injection g with g;subst g
   obtain⟨q1,q2,q3,D⟩:=M k;refine⟨by dsimp only;omega,D,by rw[q1];exact H n q3,hp,?_,λh=>by exfalso;omega⟩;show a++y=_;rw[J9h A,q1,JzO,<-J8U (as:=hd),<-he];simp[frs,(JnM n q3).2]
  ·have L:i=l'.2.1.length:=by unfold J0 at c;omega
   rw[L,List.take_length]at hf he;refine⟨hf,?_,hd,?_⟩
   ·unfold J5B at j;split at j
    ·injection j with j;rw[<-j,J57];omega
    ·cases j
   ·obtain⟨G,rfl⟩:=hp;refine⟨G++K,JL7 w,by rw[J9h j,J8U],?_⟩;rw[J8U]at he;have he:=List.append_cancel_left he;rw[<-he,(JDy F).2.2];exact List.prefix_append_right_inj G|>.2 (List.take_prefix _ _)
 exact I _ h
theorem JJK{E:List J2}{hd rest:List UInt8}{y:J6z}(h:J4x s=some y)(hf:JvN E)(O:J2N E)(hl:s.length<=4611686018427387904)(P:hdB hd)(hs:s=hd++rest)(hr:rest<+:frs E):y.2=0-> ∃m,y.1=(1,E.take m,(m:Int))/\m<=E.length/\m<=4096:=by
 have q:Par (J4x s) λy=>y.2=0-> ∃m,y.1=(1,E.take m,(m:Int))/\m<=E.length/\m<=4096:=by
  have a0:At s hd 0:=⟨[],rest,by rw[hs];rfl,rfl⟩;have U:=JGx P a0 hl;unfold J4x;refine .bind λW h2=>.nef (λ_=>.nef (λ_=>.bind λy3 h3=>.ite (λ_=>.some nofun) λ_=>.bind λy4 h4=>.ltf (λ_=>.gt (λ_=>.some nofun) λ_=>?_) λ_=>.some nofun) λ_=>.some nofun) λ_=>.some nofun;rw[U]at h2;injection h2 with h2;subst h2
  (try dsimp only at h3 h4⊢)
  have S:At ([80,77,76,71]++J0Y 1 8) (J0Y ((1:Nat):Int) 8) 4:=⟨[80,77,76,71],[],by simp,rfl⟩;have Q:=Jj6 S (by decide) (by decide) (by decide) (by decide) (by rw[J57,JS];decide);have h4:=h4.symm.trans Q;injection h4 with h4;subst h4;refine .while (λz=>z.1=s/\z.2.2.2.2.2.2.2.1=1/\ ∃m:Nat,m<=E.length/\m<=4096/\z.2.2.2.2.2.1=E.take m/\z.2.2.2.2.2.2.2.2=(m:Int)/\ ∃e,At s e z.2.1/\z.2.1+(e.length:Int)=(s.length:Int)/\e<+:frs (E.drop m)) ⟨rfl,rfl,0,zQ2 _,by decide,rfl,rfl,rest,⟨hd,[],by rw[hs];simp,by simp⟩,by rw[hs,J57];show(0:Int)+hd.length+rest.length=((hd.length+rest.length:Nat):Int);omega,hr⟩ ?_;rintro⟨s',k,z1,z2,z3,es,z4,f,Z⟩ ⟨rfl,rfl,m,hm,F,rfl,rfl,e,ha,he,hp⟩
  (try dsimp only at ha he hp)
  unfold JaP;dsimp only;have fin: ∃r,((1,E.take m,(m:Int)):JO)=(1,E.take r,(r:Int))/\r<=E.length/\r<=4096:=⟨m,rfl,hm,F⟩;refine .lt (λc=>.bind λy6 B=>.ne (λ_=>.some λ_=>fin) λG=>.bind λy7 T=>.nef (λc7=>.ne (λ_=>.some λ_=>fin) λc8=>.bind λy8 R=>.some ⟨rfl,rfl,?_⟩) λ_=>.some λ_=>fin) λ_=>.some λ_=>fin;have hn:=ha.bnd;by_cases j:m<E.length
  ·have J:E.drop m=E[m]::E.drop (m+1):=List.drop_eq_getElem_cons j;have C:E[m]∈E:=Jam j;obtain⟨H,M⟩:=hf _ C;rw[J]at hp;have e2:frs (E[m]::E.drop (m+1))=JcQ E[m]++frs (E.drop (m+1)):=by unfold frs;rw[J1q,JeB]
   rw[e2]at hp;by_cases n:e.length<(JcQ E[m]).length
   ·have V:e=(JcQ E[m]).take e.length:=by
     obtain⟨t,v⟩:=hp;have:=congrArg (List.take e.length) v;rw[List.take_left',List.take_append_of_le_length (Nat.le_of_lt n)]at this
     ·exact this
     ·rfl
    exact absurd G (JHW H (by rw[<-V];exact ha) n he hl _ B)
   ·obtain⟨A,rfl⟩: ∃A,e=JcQ E[m]++A:=by
     obtain⟨t,v⟩:=hp;refine⟨e.drop (JcQ E[m]).length,?_⟩;have:=congrArg (List.take (JcQ E[m]).length) v;rw[List.take_append_of_le_length (by omega),List.take_left']at this
     ·conv=>lhs;rw[<-JBM (JcQ E[m]).length e,this]
     ·rfl
    have N:=JGx H ha.left hl;have x:=B.symm.trans N;injection x with x;subst x;have w:=T.symm.trans (JGO M).1;injection w with w;subst w;have D:J0 (E.take m)=m:=by unfold J0;rw[Jgo];omega
    rw[D]at c;obtain⟨q1,_⟩:=O m _ (zQ9 j);rw[D]at q1;have K:E.take (m+1)=E.take m++[E[m]]:=by rw[List.take_add_one,zQ9 j];rfl
    rw[J57]at he;exact⟨m+1,j,by omega,by rw[K];exact J3w R,by dsimp only;omega,A,ha.right,by dsimp only;omega,(List.prefix_append_right_inj _).1 hp⟩
  ·have e0:E.drop m=[]:=List.drop_eq_nil_of_le (by omega);rw[e0]at hp;have I:e=[]:=by simpa[frs]using hp
   subst I;exfalso;have Y:J0 s'=s'.length:=rfl;have o:=J0o (J0 s') k;simp only[List.length_nil]at he hn;have q:Par (J1z (s',k)) λy=>y.2.2≠0:=by
    unfold J1z;dsimp only;refine .ltf (λ_=>.gt (λ_=>.some (by decide)) λ_=>.bind λW h2=>.ne (λ_=>.some (by decide)) λL=>?_) λ_=>.some (by decide);have g:Par (J09 (s',k,4)) λy=>y.2≠0:=by unfold J09;dsimp only;exact .ltf (λ_=>.gtf (λ_=>.lt (λ_=>.some (by decide)) λ_=>.gtf (λ_=>.lt (λ_=>.some (by decide)) λc=>by omega) λ_=>.some (by decide)) λ_=>.some (by decide)) λ_=>.some (by decide)
    exact absurd L (g _ h2)
   exact q _ B G
 exact q _ h
end
end Go.Am
end
section
namespace Go.Am
set_option linter.unusedVariables false
set_option maxRecDepth 20000
set_option maxHeartbeats 1000000
section
variable {lk lk' rows rows' out:List T_api_Row} {e:J2} {m:List J2} {n:Int}
def Chg(e:J2):Prop:=e.2.1=1\/e.2.1=2
theorem J82{b:Bool}(h:Jz e=some b):(b=true->Chg e)/\(b=false-> ¬Chg e):=by
 have k1:Par (Jz e) λb=>(b=true->Chg e)/\(b=false-> ¬Chg e):=by unfold Jz;exact .eqf (λg=>.some ⟨λd=>.inr (J5h.1 d),λd h=>by rcases h with h|h;exact g h;rw[J5h.2 h]at d;cases d⟩) λc=>.some ⟨λ_=>.inl c,nofun⟩
 exact k1 _ h
def DG(lk:List T_api_Row)(e:J2)(d:T_api_Row):Prop:=(d.1=pgE e->(Chg e->d.2.2=e.1)/\(¬Chg e-> ∃g∈lk,g.1=pgE e/\d.2.2=g.2.2))/\(d.1≠pgE e->d∈lk)
def DQ(e:J2)(out:List T_api_Row)(d:T_api_Row):Prop:=(d.1≠pgE e->d∈out)/\(d.1=pgE e-> ¬Chg e->e.2.2.2.2.2.1<d.2.2-> ∃g∈out,g.1=pgE e)
def DI(lk:List T_api_Row)(e:J2)(i:Int)(dn:Bool)(out:List T_api_Row):Prop:=(∀d∈out,DG lk e d)/\upw (DQ e out) lk i/\(Chg e->dn=true-> ∃d∈out,d.1=pgE e)
def DF(lk:List T_api_Row)(e:J2)(out:List T_api_Row):Prop:=(∀d∈out,DG lk e d)/\(∀d∈lk,DQ e out d)/\(Chg e-> ∃d∈out,d.1=pgE e)
theorem DQ.app{d x:T_api_Row}(h:DQ e out d):DQ e (out++[x]) d:=by refine⟨λa=>by simp[h.1 a],λa b c=>?_⟩;obtain⟨g,h1,h2⟩:=h.2 a b c;exact⟨g,by simp[h1],h2⟩
theorem upw.mono{α:Type}{P Q:α->Prop}{l:List α}{i:Int}(h:upw P l i)(e: ∀x,P x->Q x):upw Q l i:=⟨h.1,λa=>⟨(h.2 a).1,λx hx=>e x ((h.2 a).2 x hx)⟩⟩
theorem DI.app{i:Int}{dn:Bool}{x:T_api_Row}(h:DI lk e i dn out)(hx:DG lk e x):DI lk e i dn (out++[x]):=by
 refine⟨λd hd=>?_,h.2.1.mono λ_ q=>q.app,λa b=>?_⟩
 ·rcases J2h.1 hd with hd|hd
  ·exact h.1 d hd
  ·simp at hd;subst hd;exact hx
 ·obtain⟨d,h1,h2⟩:=h.2.2 a b;exact⟨d,by simp[h1],h2⟩
theorem DI.new{i:Int}{dn:Bool}{t:Int}(h:DI lk e i dn out)(hc:Chg e):DI lk e i true (out++[(pgE e,t,e.1)]):=by have q:=h.app (x:=(pgE e,t,e.1)) ⟨λ_=>⟨λ_=>rfl,λh=>absurd hc h⟩,λh=>absurd rfl h⟩;exact⟨q.1,q.2.1,λ_ _=>⟨_,List.mem_append_right _ (JaO.2 rfl),rfl⟩⟩
theorem DI.next{i:Int}{dn g:Bool}{d:T_api_Row}(h:DI lk e i dn out)(hd:idx lk i=some d)(hq:DQ e out d)(j:g=true->Chg e-> ∃d∈out,d.1=pgE e):DI lk e (J1 .i64 i 1) g out:=
 ⟨h.1,J9J h.2.1 hd hq,λa b=>j b a⟩
theorem JIb{y:List T_api_Row}(h:J1n (lk,e)=some y):(Chg e\/e.2.1=7->DF lk e y)/\(¬(Chg e\/e.2.1=7)->y=lk):=by
 have lp:Par (Jg Jao (lk,false,0,e,[])) λy=>DF lk e y:=by
  refine .while (λz=>z.1=lk/\z.2.2.2.1=e/\DI lk e z.2.2.1 z.2.1 z.2.2.2.2) ⟨rfl,rfl,λd h=>by simp at h,Jjg,nofun⟩ ?_;rintro⟨l,dn,i,e',out⟩ ⟨h1,h2,hi⟩
  (try dsimp only at h1 h2 hi)
  subst h1 h2;unfold Jao;dsimp only
  have same: ∀{d:T_api_Row} {dn:Bool} {out:List T_api_Row},DI l e' i dn out->idx l i=some d->
    Par (if eqI d.1 e'.2.2.2.2.2.2.1.1 then
      (Jz e').bind λJ=>
      if J then
       (JA 24 out [(d.1,d.2.1,e'.1)]).bind λE=>
       some (.inl (l,true,J1 .i64 i 1,e',E))
      else
       if geI e'.2.2.2.2.2.1 d.2.2 then
        some (.inl (l,true,J1 .i64 i 1,e',out))
       else
        if geI e'.2.2.2.2.2.1 d.2.1 then
         (JA 24 out [(d.1,J1 .i64 e'.2.2.2.2.2.1 1,d.2.2)]).bind λk=>
         some (.inl (l,true,J1 .i64 i 1,e',k))
        else
         (JA 24 out [d]).bind λD=>
         some (.inl (l,true,J1 .i64 i 1,e',D))
     else
      (JA 24 out [d]).bind λw=>
      some (.inl (l,dn,J1 .i64 i 1,e',w))) λr:(TQ29)⊕(List T_api_Row)=> ∃z,r=.inl z/\z.1=l/\z.2.2.2.1=e'/\DI l e' z.2.2.1 z.2.1 z.2.2.2.2:=by
   intro d dn out hi hd;have hm:=J5f hd;have keep: ∀{t:Int} {k:List T_api_Row},d.1=pgE e'-> ¬Chg e'->JA 24 out [(d.1,t,d.2.2)]=some k->DI l e' (J1 .i64 i 1) true k:=fun{t k} v H n=>by rw[J3w n];refine(hi.app (x:=(d.1,t,d.2.2)) ⟨λ_=>⟨λa=>absurd a H,λ_=>⟨d,hm,v,rfl⟩⟩,λa=>absurd v a⟩).next hd ⟨λa=>absurd v a,λ_ _ _=>⟨(d.1,t,d.2.2),List.mem_append_right _ (JaO.2 rfl),v⟩⟩ λ_ a=>absurd a H
   refine .eq (λc=>.bind λb hb=>.ite (λg=>.bind λE M=>.some ⟨_,rfl,rfl,rfl,?_⟩) λg=>.ge (λG=>.some ⟨_,rfl,rfl,rfl,?_⟩) λG=>.ge (λ_=>.bind λk n=>.some ⟨_,rfl,rfl,rfl,keep c ((J82 hb).2 g) n⟩) λ_=>.bind λk n=>.some ⟨_,rfl,rfl,rfl,keep c ((J82 hb).2 g) n⟩) λc=>.bind λw F=>.some ⟨_,rfl,rfl,rfl,?_⟩
   ·have hc:=(J82 hb).1 g;dsimp only;rw[J3w M,show d.1=pgE e' from c];have q:=hi.new (t:=d.2.1) hc;exact q.next hd ⟨λa=>absurd c a,λ_ b=>absurd hc b⟩ λ_ a=>q.2.2 a rfl
   ·exact hi.next hd ⟨λa=>absurd c a,λ_ _ a=>absurd G (by omega)⟩ λ_ a=>absurd a ((J82 hb).2 g)
   ·dsimp only;rw[J3w F];have q:=hi.app (x:=d) ⟨λa=>absurd a c,λ_=>hm⟩;exact q.next hd ⟨λ_=>by simp,λa=>absurd a c⟩ λa b=>q.2.2 b a
  have j: ∀{d:T_api_Row} {dn:Bool} {out:List T_api_Row} {o:Option ((TQ29)⊕(List T_api_Row))} {Q:((TQ29)⊕(List T_api_Row))->Prop},(∀z,z.1=l/\z.2.2.2.1=e'/\DI l e' z.2.2.1 z.2.1 z.2.2.2.2->Q (.inl z))->Par o (λr=> ∃z,r=.inl z/\z.1=l/\z.2.2.2.1=e'/\DI l e' z.2.2.1 z.2.1 z.2.2.2.2)->Par o Q:=fun{d dn out o Q} h1 h2=>h2.mono λr ⟨z,hz,h⟩=>by rw[hz];exact h1 z h
  refine .lt (λ_=>.bind λd hd=>.gt (λ_=>.not (λ_=>.bind λb hb=>.ite (λg=>.bind λK C=>j (d:=d) (dn:=dn) (out:=out) (λz h=>h) (same (dn:=true) ?_ hd)) λ_=>j (d:=d) (dn:=dn) (out:=out) (λz h=>h) (same hi hd)) λ_=>j (d:=d) (dn:=dn) (out:=out) (λz h=>h) (same hi hd)) λ_=>j (d:=d) (dn:=dn) (out:=out) (λz h=>h) (same hi hd)) λc=>.map ?_
  ·rw[J3w C];exact hi.new ((J82 hb).1 g)
  ·have B:=Jcz hi.2.1 c;refine .not (λ_=>.bind λb hb=>.ite (λg=>.bind λK C=>.some ?_) λg=>.some ⟨hi.1,B,λa=>absurd a ((J82 hb).2 g)⟩) λL=>.some ⟨hi.1,B,λa=>hi.2.2 a L⟩;dsimp only;rw[J3w C];have q:=hi.new (t:=e'.1) ((J82 hb).1 g);exact⟨q.1,λd hd=>(B d hd).app,λa=>q.2.2 a rfl⟩
 have I:Par (J1n (lk,e)) λy=>(Chg e\/e.2.1=7->DF lk e y)/\(¬(Chg e\/e.2.1=7)->y=lk):=by
  unfold J1n;refine .bind λb hb=>.not (λg=>.ne (λA=>.some ⟨λh=>?_,λ_=>rfl⟩) λA=>Par.mono (P:=λy=>DF lk e y) lp λy hy=>⟨λ_=>hy,λh=>absurd (.inr A) h⟩) λg=>lp.mono λy hy=>⟨λ_=>hy,λh=>absurd (.inl ((J82 hb).1 g)) h⟩;rcases h with h|h
  ·exact absurd h ((J82 hb).2 g)
  ·exact absurd h A
 exact I _ h
end
end Go.Am
end
section
namespace Go.Am
set_option linter.unusedVariables false
set_option maxRecDepth 20000
set_option maxHeartbeats 1000000
section
variable {lk lk' rows rows' out:List T_api_Row} {e:J2} {m:List J2} {n:Int}
theorem Rel.noted(h:Rel m n [] lk rows)(hm:J2N m)(he:Jti m e)(hd:(Chg e\/e.2.1=7->DF lk e lk')/\(¬(Chg e\/e.2.1=7)->lk'=lk))(hr:(e.2.1≠7->rows'=rows)/\(e.2.1=7->(∀q,q≠pgE e->idx rows' q=idx rows q)/\ ∀r,idx rows' (pgE e)=some r-> ∃r0,idx rows (pgE e)=some r0/\r.1=J1m r0.1 e.2.2.2.2.2.1)):Rel (m++[e]) n [] lk' rows':=by
 obtain⟨e1,_,_,v,_⟩:=he;by_cases hc:Chg e
 ·have B:e.2.1≠7:=by rcases hc with h|h<;>omega
  obtain⟨g,j,D⟩:=hd.1 (.inl hc);rw[hr.1 B];refine⟨nofun,.nil,nofun,nofun,λd hd=>?_,λq r hq=>?_⟩
  ·by_cases c:d.1=pgE e
   ·rw[J7c,if_pos ⟨hc,c.symm⟩];exact((g d hd).1 c).1 hc
   ·rw[J6q λh=>c h.2.symm];exact h.lak d ((g d hd).2 c)
  ·obtain⟨q1,q2⟩:=h.row q r hq;by_cases c:q=pgE e
   ·subst c;rw[J7c,if_pos ⟨hc,rfl⟩];have:=JpH hm (pgE e)
    grind
   ·rw[J6q λh=>c h.2.symm];exact⟨q1,λa b=>q2 a λd hd hp=>b d ((j d hd).1 (by simp_all)) hp⟩
 ·have w: ∀p,J0G (m++[e]) p=J0G m p:=λp=>J6q λh=>hc h.1;by_cases k:e.2.1=7
  ·obtain⟨g,j,_⟩:=hd.1 (.inr k);obtain⟨x,C⟩:=hr.2 k;have v:=v k;refine⟨nofun,.nil,nofun,nofun,λd hd=>?_,λq r hq=>?_⟩
   ·rw[w];by_cases c:d.1=pgE e
    ·obtain⟨A,o,h1,h2⟩:=((g d hd).1 c).2 hc;rw[h2,h.lak A o,h1,c]
    ·exact h.lak d ((g d hd).2 c)
   ·rw[w];by_cases c:q=pgE e
    ·subst c;obtain⟨r0,o,h1⟩:=C r hq;obtain⟨q1,q2⟩:=h.row _ r0 o;have mx:=J6I r0.1 e.2.2.2.2.2.1;refine⟨by omega,λ_ b=>?_⟩;by_cases y: ∀d∈lk,d.1≠pgE e
     ·grind
     ·obtain⟨d,hd,hp⟩: ∃d,d∈lk/\d.1=pgE e:=by simpa using y
      have hl:=h.lak d hd;rw[hp]at hl;by_cases z:e.2.2.2.2.2.1<d.2.2
      ·obtain⟨E,h1,h2⟩:=(j d hd).2 hp hc z
       grind
      ·omega
    ·rw[x _ c]at hq;obtain⟨q1,q2⟩:=h.row q r hq;exact⟨q1,λa b=>q2 a λd hd hp=>b d ((j d hd).1 (by simp_all)) hp⟩
  ·rw[hd.2 (λh=>by simp_all),hr.1 k];exact h.ent hc
theorem JIE{a:J1v}{y:Je3}(h:J5t (a,e)=some y)(c:y.2=0)(hr:Rel m a.1 [] a.2.2.2.2.2.1 a.2.2.2.2.2.2)(hm:J2N m)(he:Jti m e):y.1.1=a.1/\y.1.2.2.1=a.2.2.1/\Rel (m++[e]) y.1.1 [] y.1.2.2.2.2.2.1 y.1.2.2.2.2.2.2:=by
 have o:Par (J5t (a,e)) λy=>y.2=0->y.1.1=a.1/\y.1.2.2.1=a.2.2.1/\Rel (m++[e]) y.1.1 [] y.1.2.2.2.2.2.1 y.1.2.2.2.2.2.2:=by
  unfold J5t;have n: ∀{t:Int} {j l2:List Jo},Par ((J1s (a.2.2.2.2.2.2,e)).bind λg=>
   if neI g.2 0 then
    some ((a.1,t,a.2.2.1,j,a.2.2.2.2),g.2)
   else
    (Jz e).bind λv=>
    if v then
     if geI e.2.2.2.2.2.2.1.1 a.1 then
      some ((a.1,t,a.2.2.1,j,a.2.2.2.2.1,a.2.2.2.2.2.1,g.1),1)
     else
      (J1n (a.2.2.2.2.2.1,e)).bind λk=>
      some ((a.1,t,a.2.2.1,j,a.2.2.2.2.1,k,g.1),0)
    else
     (J1n (a.2.2.2.2.2.1,e)).bind λr=>
     some ((a.1,t,a.2.2.1,j,a.2.2.2.2.1,r,g.1),0)) λy=>y.2=0->y.1.1=a.1/\y.1.2.2.1=a.2.2.1/\Rel (m++[e]) y.1.1 [] y.1.2.2.2.2.2.1 y.1.2.2.2.2.2.2:=fun{t j l2}=>by
    refine .bind λg h5=>.ne (λc=>.some λh=>absurd h c) λw=>?_;have dn:Par ((J1n (a.2.2.2.2.2.1,e)).bind λk=>some ((a.1,t,a.2.2.1,j,a.2.2.2.2.1,k,g.1),(0:Int))) λy=>y.2=0->y.1.1=a.1/\y.1.2.2.1=a.2.2.1/\Rel (m++[e]) y.1.1 [] y.1.2.2.2.2.2.1 y.1.2.2.2.2.2.2:=.bind λk q=>.some λ_=>⟨rfl,rfl,hr.noted hm he (JIb q) (JtU h5 w).2⟩;exact .bind λ_ _=>.ite (λ_=>.ge (λ_=>.some nofun) λ_=>dn) λ_=>dn
  refine .gt (λ_=>.bind λ_ _=>.lt (λ_=>.bind λ_ _=>.ne (λc=>.some λh=>absurd h c) λ_=>.bind λ_ _=>.ne (λc=>.some λh=>absurd h c) λ_=>n (l2:=[])) λ_=>.bind λ_ _=>.ne (λc=>.some λh=>absurd h c) λ_=>n (l2:=[])) λ_=>.bind λ_ _=>.ne (λc=>.some λh=>absurd h c) λ_=>n (l2:=[])
 exact o _ h c
variable {l:JO}
theorem JF3{y:JGo}(h:J49 l=some y)(hc:J2N l.2.1):y.2.2=true-> ∃(j:Nat),y.2.1=(j:Int)+1/\j+1<=l.2.1.length/\Rel (l.2.1.take (j+1)) y.1.1 [] y.1.2.2.2.1 y.1.2.2.2.2:=by
 have o:Par (J49 l) λy=>y.2.2=true-> ∃(j:Nat),y.2.1=(j:Int)+1/\j+1<=l.2.1.length/\Rel (l.2.1.take (j+1)) y.1.1 [] y.1.2.2.2.1 y.1.2.2.2.2:=by
  unfold J49;refine .bind λ_ _=>.not (λ_=>.some nofun) λ_=>.while (λz=>z.2.1=l) rfl ?_;rintro⟨i,l',z⟩ n
  (try dsimp only at n)
  subst n;unfold J9O;refine .ge (λ_=>.bind λD h4=>.ne (λ_=>.some rfl) λx=>.bind λB h5=>.bind λw E=>.eq (λF=>.bind λA e=>.some λ_=>?_) λ_=>.some rfl) λ_=>.some nofun;rw[h4]at h5 e;injection h5 with h5;injection e with e;subst h5;subst e
  obtain⟨v,q⟩:=J0H h4
  (try dsimp only at v q)
  obtain⟨C,_,_,_,r⟩:=hc _ _ q;have k:=(J3Z.1 q).1;have hl:J0 (l'.2.1.take i.toNat)=i:=by grind [J0]
  refine⟨i.toNat,by grind,k,?_⟩;have g:=r x w.1 (by grind);rw[List.take_add_one,q];exact g.ent (by omega)
 exact o _ h
theorem JzF{n:Int}{y:Jca}(h:J6t n=some y): ∀r∈y.1,r.1=0:=by
 grind [J6t,mkS]
theorem JH4{e:Int}{y:Je3}(h:J4J (l,e)=some y)(c:y.2=0)(hc:J2N l.2.1):y.1.1=e/\ ∃j:Nat,y.1.2.2.1=(j:Int)/\j<=l.2.1.length/\Rel (l.2.1.take j) y.1.1 [] y.1.2.2.2.2.2.1 y.1.2.2.2.2.2.2:=by
 have g:Par (J4J (l,e)) λy=>y.2=0->y.1.1=e/\ ∃j:Nat,y.1.2.2.1=(j:Int)/\j<=l.2.1.length/\Rel (l.2.1.take j) y.1.1 [] y.1.2.2.2.2.2.1 y.1.2.2.2.2.2.2:=by
  unfold J4J;refine .bind λo h2=>.not (λ_=>.gt (λ_=>.some nofun) λ_=>.bind λn h3=>.some λ_=>⟨rfl,0,rfl,zQ2 _,?_⟩) λk=>.ne (λ_=>.some nofun) λcp=>.some λ_=>?_
  ·refine⟨nofun,.nil,nofun,nofun,nofun,λp r hr=>?_⟩;have z:r.1=0:=JzF h3 r (J5f hr);rw[z];exact⟨J0F _,λ_ _=>rfl⟩
  grind [JF3]
 exact g _ h c
theorem JDr{k:Int}{y:Je3}(h:J3G (l,k)=some y)(c:y.2=0)(hc:J2N l.2.1):y.1.1=k/\Rel l.2.1 k [] y.1.2.2.2.2.2.1 y.1.2.2.2.2.2.2:=by
 have x:Par (J3G (l,k)) λy=>y.2=0->y.1.1=k/\Rel l.2.1 k [] y.1.2.2.2.2.2.1 y.1.2.2.2.2.2.2:=by
  unfold J3G;refine .bind λ_ _=>.not (λ_=>.some nofun) λ_=>.ltf (λ_=>.gt (λ_=>.some nofun) λ_=>.bind λK h3=>.ne (λc=>.some λh=>absurd h c) λc3=>?_) λ_=>.some nofun;obtain⟨b1,j,b2,J,M⟩:=JH4 h3 c3 hc;refine .while (λz=>z.2.1=l/\z.2.2.2.1=k/\z.2.2.2.2.2.1=(j:Int)/\z.1<=9223372036854775807/\(0<=z.1->Rel (l.2.1.take (max j z.1.toNat)) k [] z.2.2.2.2.2.2.2.2.1 z.2.2.2.2.2.2.2.2.2)) ⟨rfl,b1,b2,show(0:Int)<=9223372036854775807 by decide,λ_=>by simp_all⟩ ?_;rintro⟨i,l',a0,a⟩ ⟨h1,h2,h4,h5,A⟩
  (try dsimp only at h1 h2 h4 h5 A)
  subst h1;unfold J91;dsimp only;have o:=Jb i 1;refine .lt (λ_=>.bind λe he=>.le (λE=>.some ⟨rfl,h2,h4,by grind,λhp=>?_⟩) λE=>.bind λe2 n=>.bind λH D=>.ne (λc=>.some λh=>absurd h c) λC=>.some ?_) λL=>.map (.while (λz=>z.2.2.2.1=a) rfl ?_)
  ·obtain⟨w,q⟩:=J0H he;have e1:=(hc _ _ q).1;have r:=(J3Z.1 q).1;have hl:J0 (l'.2.1.take i.toNat)=i:=by grind [J0]
   grind
  ·rw[he]at n;injection n with n;subst n
   obtain⟨w,q⟩:=J0H he;have r:=(J3Z.1 q).1;have B:=hc _ _ q;have hl:J0 (l'.2.1.take i.toNat)=i:=by grind [J0]
   have e1:=B.1;have g:=A w;rw[show max j i.toNat=i.toNat by omega]at g;obtain⟨g1,g2,F⟩:=JIE D C (by simp_all) (hc.take _) B;refine⟨rfl,g1.trans h2,g2.trans h4,by grind,λhp=>?_⟩
   (try dsimp only at hp⊢)
   rw[show max j (J1 .i64 i 1).toNat=i.toNat+1 by omega,List.take_add_one,q,<-h2,<-g1];exact F
  ·rintro⟨I,l2,G,a2,out⟩ v
   (try dsimp only at v)
   subst v;unfold J92;refine .lt (λ_=>.bind λ_ _=>.gt (λ_=>.bind λ_ _=>.bind λ_ _=>.some rfl) λ_=>.some rfl) λ_=>.map (.bind λ_ _=>.ne (λc=>.some λh=>absurd h c) λ_=>.some λ_=>⟨h2,?_⟩)
   grind [List.take_of_length_le,J0]
 exact x _ h c
theorem JHf{a:J1v}{g:Int}{y:J1G}(h:J4Q (l,a,g)=some y)(c:y.2=0)(hl:J72 l)(hc:J2N l.2.1)(hr:Rel l.2.1 a.1 [] a.2.2.2.2.2.1 a.2.2.2.2.2.2):JC y.1:=by
 have e:Par (J4Q (l,a,g)) λy=>y.2=0->JC y.1:=by
  unfold J4Q;refine .bind λq h2=>.ne (λc=>.some λh=>absurd h (by decide)) λn=>.bind λ_ _=>.not (λ_=>.some nofun) λ_=>.while (λz=>JC z.2.2.2.2.2) ⟨hl,hc,?_⟩ ?_
  ·grind [J5d]
  ·intro z hz;unfold JaD;exact .lt (λ_=>.bind λ_ _=>.eq (λ_=>.some hz) λ_=>.bind λ_ _=>.bind λo k=>.ne (λc=>.some λh=>absurd h c) λj=>.some (Jls k j hz (.inr (.inl rfl)))) λ_=>.some λ_=>hz
 exact e _ h c
end
end Go.Am
end
section
namespace Go.Am
set_option linter.unusedVariables false
set_option maxRecDepth 20000
set_option maxHeartbeats 1000000
section
variable {s:List UInt8} {p:Int}
theorem J97{n:Int}{k:Nat}(b:Nat)(h:At s (J0Y n k) p)(hl:s.length<=4611686018427387904)(j:0<=n)(hn:n<b)(hb:b=2^(8*k):=by rfl)(h1:1<=k:=by decide)(g:k<=8:=by decide)(e:n<9223372036854775808:=by omega):J09 (s,p,(k:Int))=some (n,0):=by
 grind [Int.eq_ofNat_of_zero_le,Jj6]
def Ji2(r:T_api_Row):List UInt8:=J0Y r.1 8++(J0Y r.2.1 8++J0Y r.2.2 8)
def J5a(l:List T_api_Row):List UInt8:=(l.map Ji2).flatten
def Jwt(r:T_api_Row):Prop:=(0<=r.1/\r.1<=1099511627776)/\(0<=r.2.1/\r.2.1<=1099511627776)/\0<=r.2.2/\r.2.2<=1099511627776
def Jib(r:T_api_Row):List UInt8:=J0Y r.1 1++(J0Y r.2.1 8++J0Y r.2.2 8)
def JaI(l:List T_api_Row):List UInt8:=(l.map Jib).flatten
def Jv1(r:T_api_Row):Prop:=(0<=r.1/\r.1<64)/\(0<=r.2.1/\r.2.1<=1099511627776)/\0<=r.2.2/\r.2.2<=1099511627776
theorem JI7{l:List T_api_Row}(h:J0Q l=some true):J0 l<=64/\ ∀r∈l,Jwt r:=by
 have j: ∀{n:Int} {b:Bool},J34 n=some b->b=true->0<=n/\n<=1099511627776:=fun{n b} hb q=>by
  have k:Par (J34 n) λb=>b=true->0<=n/\n<=1099511627776:=by unfold J34;exact .ge (λc=>.some λd=>⟨c,J1R.1 d⟩) λ_=>.some nofun
  exact k _ hb q
 have o:Par (J0Q l) λy=>y=true->J0 l<=64/\ ∀r∈l,Jwt r:=by
  unfold J0Q;refine .ltf (λ_=>.gt (λ_=>.some nofun) λc=>.while (λz=>z.2=l/\upw Jwt l z.1) ⟨rfl,Jjg⟩ ?_) λ_=>.some nofun;rintro⟨i,l'⟩ ⟨h1,hu⟩
  (try dsimp only at h1 hu)
  subst h1;unfold J9Z;have go: ∀{r:T_api_Row} {a1 a2 a3:Bool},idx l' i=some r->J34 r.1=some a1->a1=true->J34 r.2.1=some a2->a2=true->J34 r.2.2=some a3->a3=true->upw Jwt l' (J1 .i64 i 1):=λhr h1 e h2 g h3 c3=>J9J hu hr ⟨j h1 e,j h2 g,j h3 c3⟩;exact .lt (λ_=>.bind λr hr=>.bind λa1 h1=>.nof (λe=>.bind λa2 h2=>.nof (λg=>.bind λa3 h3=>.nof (λc3=>.eq (λ_=>.ne (λ_=>.some nofun) λ_=>.some ⟨rfl,go hr h1 e h2 g h3 c3⟩) λ_=>.some ⟨rfl,go hr h1 e h2 g h3 c3⟩) λ_=>.some nofun) λ_=>.some nofun) λ_=>.some nofun) λv=>.some λ_=>⟨Int.not_lt.1 c,Jcz hu v⟩
 exact o _ h rfl
theorem JK8{l:List T_api_Row}{n:Int}(h:J0P (l,n)=some true)(hn:n<=64):J0 l<=64/\ ∀r∈l,Jv1 r:=by
 have j:Par (J0P (l,n)) λy=>y=true->J0 l<=64/\ ∀r∈l,Jv1 r:=by
  unfold J0P;refine .while (λz=>z.1=l/\z.2.1=n/\upw Jv1 l z.2.2/\(0<=z.2.2->z.2.2<=J0 l/\z.2.2<=64/\ ∀r,idx l (z.2.2-1)=some r->z.2.2-1<=r.1)) ⟨rfl,rfl,Jjg,λ_=>⟨J4,show(0:Int)<=64 by decide,λr hr=>absurd (J0H hr).1 (show¬(0:Int)<=0-1 by decide)⟩⟩ ?_;rintro⟨l',e,i⟩ ⟨h1,h2,hu,hi⟩
  (try dsimp only at h1 h2 hu hi)
  subst h1 h2;unfold J59;dsimp only;have o:=Jb i 1;have F:=J0o i 1;refine .lt (λJ=>.bind λr hr=>.ltf (λG=>.gef (λH=>.ltf (λc3=>.gtf (λK=>.gtf (λI=>?_) λ_=>.some nofun) λ_=>.some nofun) λ_=>.some nofun) λ_=>.some nofun) λ_=>.some nofun) λx=>.some λ_=>⟨?_,Jcz hu x⟩
  ·obtain⟨w,q⟩:=J0H hr;obtain⟨C,L,D⟩:=hi w;have v:Jv1 r:=⟨⟨by omega,by omega⟩,⟨by omega,by omega⟩,by omega,by omega⟩;have k:i<=r.1->(l'=l'/\e=e/\upw Jv1 l' (J1 .i64 i 1)/\(0<=J1 .i64 i 1->J1 .i64 i 1<=J0 l'/\J1 .i64 i 1<=64/\ ∀r,idx l' (J1 .i64 i 1-1)=some r->J1 .i64 i 1-1<=r.1)):=λB=>⟨rfl,rfl,J9J hu hr v,λhp=>⟨by omega,by omega,λr' g=>by
    grind⟩⟩
   refine .gt (λA=>.bind λr' g=>.ge (λ_=>.some nofun) λE=>.some (k ?_)) λA=>.some (k (by omega))
   grind
  grind
 exact j _ h rfl
theorem JKQ{l:List T_api_Row}{y:List UInt8×Int}(h:J4h l=some y)(hv:J0Q l=some true):y.1=J0Y (J0 l) 2++J5a l:=by
 have j:Par (J4h l) λy=>y.1=J0Y (J0 l) 2++J5a l:=by
  unfold J4h;refine .bind λv B=>.not (λc=>by simp_all) λ_=>.bind λD h3=>.while (λz=>z.2.2=l/\z.2.1<=9223372036854775807/\(0<=z.2.1->z.1=J0Y (J0 l) 2++J5a (l.take z.2.1.toNat))) ⟨rfl,show(0:Int)<=9223372036854775807 by decide,λ_=>by rw[J3f (k:=2) (by decide) (by decide) h3];simp[J5a]⟩ ?_;rintro⟨o,i,l'⟩ ⟨h1,h2,hi⟩
  (try dsimp only at h1 h2 hi)
  subst h1;unfold J9F;dsimp only;have oo:=Jb i 1;refine .lt (λ_=>.bind λr hr=>.bind λF x=>.bind λH e=>.bind λE w=>.bind λC g=>.bind λA h10=>.some ⟨rfl,by grind,λhp=>?_⟩) λG=>.some ?_
  ·rw[hr]at e g;injection e with e;injection g with g;subst e;subst g
   obtain⟨n,q⟩:=J0H hr
   (try dsimp only at hp⊢)
   rw[J3f (k:=8) (by decide) (by decide) h10,J3f (k:=8) (by decide) (by decide) w,J3f (k:=8) (by decide) (by decide) x,hi n,show(J1 .i64 i 1).toNat=i.toNat+1 by omega,List.take_add_one,q];simp[J5a,Ji2]
  grind [List.take_of_length_le,J0]
 exact j _ h
theorem At.rows{l:List T_api_Row}(h:At s (J5a l) p): ∀{i:Nat} {r:T_api_Row},l[i]?=some r->At s (Ji2 r) (p+24*i):=by
 induction l generalizing p with
 |nil=>simp_all
 |cons x l ih=>
  intro i r hr;have e:J5a (x::l)=Ji2 x++J5a l:=by simp[J5a]
  rw[e]at h;cases i with
  |zero=>simp at hr;subst hr;simpa using h.left
  |succ i=>
   have q:=ih h.right (i:=i) (r:=r) (by simpa using hr);have g:(Ji2 x).length=24:=by simp[Ji2,JS]
   grind
theorem At.dirs{l:List T_api_Row}(h:At s (JaI l) p): ∀{i:Nat} {r:T_api_Row},l[i]?=some r->At s (Jib r) (p+17*i):=by
 induction l generalizing p with
 |nil=>simp_all
 |cons x l ih=>
  intro i r hr;have e:JaI (x::l)=Jib x++JaI l:=by simp[JaI]
  rw[e]at h;cases i with
  |zero=>simp at hr;subst hr;simpa using h.left
  |succ i=>
   have q:=ih h.right (i:=i) (r:=r) (by simpa using hr);have g:(Jib x).length=17:=by simp[Jib,JS]
   grind
theorem JKS{l:List T_api_Row}{y:Jca}(h:J4a (J0Y (J0 l) 2++J5a l)=some y)(hl:J0 l<=64)(q: ∀r∈l,Jwt r)(c:y.2=0):y.1=l:=by
 have len:(J5a l).length=24*l.length:=by
  clear h hl q
  induction l with
  |nil=>rfl
  |cons x l ih=>grind [J5a,Ji2,JS]
 have A:=J4 (l:=l);have D:J0 l=l.length:=rfl;have v:Par (J4a (J0Y (J0 l) 2++J5a l)) λy=>y.2=0->y.1=l:=by
  generalize hx:J0Y (J0 l) 2++J5a l=s;have a0:At s (J0Y (J0 l) 2++J5a l) 0:=by rw[hx];exact .all
  have hs:s.length<=4611686018427387904:=by grind [JS]
  have g:=J97 (k:=2) 65536 a0.left hs A (by omega);have a1:=a0.right;rw[JS]at a1;unfold J4a;refine .bind λP h2=>.nef (λ_=>.lt (λ_=>.some nofun) λ_=>.gt (λ_=>.some nofun) λ_=>?_) λ_=>.some nofun;have e2:=h2.symm.trans g;injection e2 with e2;subst e2;refine .while (λz=>z.1=s/\z.2.1=J0 l/\ ∃i:Nat,z.2.2.1=(i:Int)/\i<=l.length/\z.2.2.2.2=l.take i) ⟨rfl,rfl,0,rfl,zQ2 _,rfl⟩ ?_;rintro⟨s',n,O,z,o⟩ ⟨h1,h3,i,h4,h5,e⟩
  (try dsimp only at h1 h3 h4 h5 e)
  subst h1 h3 h4 e;unfold J9E;dsimp only;have oo:=Jb (i:Int) 1;have om:=Jlo 24 (i:Int);have G:=Jb 2 (J2u .i64 24 (i:Int));have K:=Jb 10 (J2u .i64 24 (i:Int));have M:=Jb 18 (J2u .i64 24 (i:Int));refine .lt (λL=>.bind λN h4=>.bind λH h5=>.bind λI e=>.bind λE F=>.some ⟨rfl,rfl,i+1,by grind,by omega,?_⟩) λJ=>.map (.bind λ_ _=>.not (λ_=>.some nofun) λ_=>.some λ_=>by grind);have j:i<l.length:=by omega
  have hr:=zQ9 j;obtain⟨w,B,C⟩:=q _ (Jam j);have ar:=a1.rows hr;unfold Ji2 at ar;have g1:=J97 (k:=8) 18446744073709551616 ar.left hs w.1 (by omega);have ar:=ar.right;rw[JS]at ar;have g2:=J97 (k:=8) 18446744073709551616 ar.left hs B.1 (by omega);have ar:=ar.right;rw[JS]at ar;have Q:=J97 (k:=8) 18446744073709551616 ar hs C.1 (by omega);rw[show J1 .i64 2 (J2u .i64 24 (i:Int))=0+((2:Nat):Int)+24*(i:Int) by omega]at h4;rw[show J1 .i64 10 (J2u .i64 24 (i:Int))=0+((2:Nat):Int)+24*(i:Int)+((8:Nat):Int) by omega]at h5;rw[show J1 .i64 18 (J2u .i64 24 (i:Int))=0+((2:Nat):Int)+24*(i:Int)+((8:Nat):Int)+((8:Nat):Int) by omega]at e
  grind [J3w,List.take_add_one]
 exact v _ h c
end
end Go.Am
end
section
namespace Go.Am
set_option linter.unusedVariables false
set_option maxRecDepth 20000
set_option maxHeartbeats 1000000
section
variable {s:List UInt8} {p:Int}
theorem Jzp{c:J0N}(h:J25 c=some true):(1<=c.1/\c.1<=64)/\J0P (c.2.2.2.1,c.1)=some true/\J0Q c.2.2.2.2=some true:=by
 have e:Par (J25 c) λy=>y=true->(1<=c.1/\c.1<=64)/\J0P (c.2.2.2.1,c.1)=some true/\J0Q c.2.2.2.2=some true:=by unfold J25;exact .ltf (λn=>.gtf (λk=>.ltf (λ_=>.gtf (λ_=>.bind λ_ _=>.nof (λ_=>.bind λa ha=>.nof (λj=>.bind λb hb=>.nof (λg=>.ne (λ_=>.some nofun) λ_=>λ_ _ _=>⟨⟨by omega,by omega⟩,by rw[<-j];exact ha,by rw[<-g];exact hb⟩) λ_=>.some nofun) λ_=>.some nofun) λ_=>.some nofun) λ_=>.some nofun) λ_=>.some nofun) λ_=>.some nofun) λ_=>.some nofun
 exact e _ h rfl
def ckB(c:J0N)(t:List UInt8):List UInt8:=J0Y c.1 2++(J0Y c.2.1 4++(J0Y (J0 t) 4++(t++(J0Y (J0 c.2.2.2.1) 1++(JaI c.2.2.2.1++(J0Y (J0 c.2.2.2.2) 2++J5a c.2.2.2.2))))))
theorem JKt{c:J0N}{y:List UInt8×Int}(h:J48 c=some y):y.1=[]\/(J25 c=some true/\ ∃t,y.1=ckB c t):=by
 have x:Par (J48 c) λy=>y.1=[]\/(J25 c=some true/\ ∃t,y.1=ckB c t):=by
  unfold J48;refine .bind λv hv=>.not (λ_=>.some (.inl rfl)) λB=>.bind λw h3=>.bind λN h4=>.bind λK h5=>.bind λL F=>.bind λG C=>.bind λJ E=>?_;have hv:J25 c=some true:=by rw[<-B];exact hv
  obtain⟨_,_,v3⟩:=Jzp hv;refine .while (λz=>z.2.2=c/\z.2.1<=9223372036854775807/\(0<=z.2.1->z.1=J0Y c.1 2++(J0Y c.2.1 4++(J0Y (J0 w.1) 4++(w.1++(J0Y (J0 c.2.2.2.1) 1++JaI (c.2.2.2.1.take z.2.1.toNat))))))) ⟨rfl,show(0:Int)<=9223372036854775807 by decide,λ_=>?_⟩ ?_
  ·dsimp only;rw[J3f (k:=1) (by decide) (by decide) E,J9h C,J3f (k:=4) (by decide) (by decide) F,J3f (k:=4) (by decide) (by decide) h5,J3f (k:=2) (by decide) (by decide) h4];simp[JaI]
  rintro⟨o,i,c'⟩ ⟨h1,h2,hi⟩
  (try dsimp only at h1 h2 hi)
  subst h1;unfold J9I;dsimp only;have oo:=Jb i 1;refine .lt (λ_=>.bind λr hr=>.bind λa ha=>.bind λO j=>.bind λb hb=>.bind λH n=>.bind λd hd=>.some ⟨rfl,by dsimp only;omega,λhp=>?_⟩) λM=>.map (.bind λe he=>.bind λg A=>.some (.inr ⟨hv,w.1,?_⟩))
  ·rw[hr]at j n;injection j with j;injection n with n;subst j;subst n
   obtain⟨D,q⟩:=J0H hr
   (try dsimp only at hp⊢)
   rw[J3f (k:=8) (by decide) (by decide) hd,J3f (k:=8) (by decide) (by decide) hb,J3f (k:=1) (by decide) (by decide) ha,hi D,show(J1 .i64 i 1).toNat=i.toNat+1 by omega,List.take_add_one,q];simp[JaI,Jib]
  ·have I:=J4 (l:=c'.2.2.2.1);show g=_;rw[J9h A,JKQ he v3,hi (by omega),List.take_of_length_le (by unfold J0 at*;omega)];unfold ckB;simp only[J8U]
 exact x _ h
theorem JpL(l:List T_api_Row):(JaI l).length=17*l.length:=by
 induction l with
 |nil=>rfl
 |cons x l ih=>simp[JaI,Jib,JS]at ih⊢;omega
theorem JKG{c c':J0N}{t:List UInt8}(hv:J25 c=some true)(hl:(ckB c t).length<=8192)(h:J35 (ckB c t)=some (c',0)):c'.1=c.1/\c'.2.2.2.1=c.2.2.2.1/\c'.2.2.2.2=c.2.2.2.2:=by
 obtain⟨v1,v2,v3⟩:=Jzp hv;obtain⟨d1,R⟩:=JK8 v2 v1.2;obtain⟨V,Z⟩:=JI7 v3;have O:Par (J35 (ckB c t)) λy=>y.2=0->y.1.1=c.1/\y.1.2.2.2.1=c.2.2.2.1/\y.1.2.2.2.2=c.2.2.2.2:=by
  generalize hx:ckB c t=s at hl;have a0:At s (ckB c t) 0:=by rw[hx];exact .all
  have hs:s.length<=4611686018427387904:=by omega
  unfold ckB at a0;have g1:=J97 (k:=2) 65536 a0.left hs (by omega) (by omega);have a1:=a0.right.right;simp only[JS]at a1;have b1:=a1.bnd;simp only[J57,JS]at b1;have lt:J0 t=t.length:=rfl;have ld:J0 c.2.2.2.1=c.2.2.2.1.length:=rfl;have ls:J0 s=s.length:=rfl;have B:=J97 (k:=4) 4294967296 a1.left hs (by omega) (by omega);have a2:=a1.right.right;simp only[JS]at a2;have U:=J97 (k:=1) 256 a2.left hs (by omega) (by omega);have a3:=a2.right;simp only[JS]at a3;have a4:=a3.right;rw[JpL]at a4;have o1:=Jb 10 (J0 t);have o2:=Jb (J1 .i64 10 (J0 t)) 1;unfold J35;refine .bind λy2 h2=>.bind λy3 h3=>.bind λy4 h4=>?_;have e2:=h2.symm.trans g1;have x:=h4.symm.trans B;injection e2 with e2;injection x with x;subst e2;subst x;dsimp only;refine .nef (λ_=>.gt (λ_=>.some nofun) λ_=>.bind λy5 h5=>.bind λy6 P=>?_) λ_=>.some nofun;rw[show J1 .i64 10 (J0 t)=0+((2:Nat):Int)+((4:Nat):Int)+((4:Nat):Int)+(t.length:Int) by omega]at P;have v:=P.symm.trans U;injection v with v;subst v;refine .nef (λ_=>.lt (λ_=>.some nofun) λ_=>?_) λ_=>.some nofun;refine .while (λz=>z.1=s/\z.2.2.2.1=J0 c.2.2.2.1/\z.2.2.2.2.2.2.2.2.2.2.2.1=c.1/\ ∃i:Nat,z.2.2.2.2.1=(i:Int)/\i<=c.2.2.2.1.length/\z.2.2.1=11+J0 t+17*(i:Int)/\z.2.2.2.2.2.2.2.2.2.2.1=c.2.2.2.1.take i) ⟨rfl,rfl,rfl,0,rfl,zQ2 _,by dsimp only;omega,rfl⟩ ?_;rintro⟨s',q1,a8,n,i',q2,q3,q4,q5,q6,D,pg,q7⟩ ⟨k1,I,K,i,H,W,M,r⟩
  (try dsimp only at k1 I K H W M r)
  subst k1 I K H M r;unfold J9P;dsimp only;have p1:=Jb (i:Int) 1;have p2:=Jb (11+J0 t+17*(i:Int)) 1;have p3:=Jb (11+J0 t+17*(i:Int)) 9;have p4:=Jb (11+J0 t+17*(i:Int)) 17;refine .lt (λci=>.bind λy8 J=>.bind λy9 Q=>.bind λa6 h10=>.bind λG N=>.some ⟨rfl,rfl,rfl,i+1,by dsimp only;omega,by omega,by dsimp only;omega,?_⟩) λcn=>.map (.bind λa7 _=>.ne (λc=>.some λh=>absurd h c) λ_=>.bind λL C=>.bind λa9 o=>.ne (λc=>.some λh=>absurd h c) λE=>.bind λ_ _=>.not (λ_=>.some nofun) λ_=>.some λ_=>⟨rfl,?_,?_⟩)
  ·have q:i<c.2.2.2.1.length:=by omega
   have hr:=zQ9 q;obtain⟨T,S,f3⟩:=R _ (Jam q);have ar:=a3.left.dirs hr;unfold Jib at ar;have g1:=J97 (k:=1) 256 ar.left hs T.1 (by omega);have ar:=ar.right;rw[JS]at ar;have g2:=J97 (k:=8) 18446744073709551616 ar.left hs S.1 (by omega);have ar:=ar.right;rw[JS]at ar;have B:=J97 (k:=8) 18446744073709551616 ar hs f3.1 (by omega);rw[show 11+J0 t+17*(i:Int)=0+((2:Nat):Int)+((4:Nat):Int)+((4:Nat):Int)+(t.length:Int)+((1:Nat):Int)+17*(i:Int) by omega]at J;rw[show J1 .i64 (11+J0 t+17*(i:Int)) 1=0+((2:Nat):Int)+((4:Nat):Int)+((4:Nat):Int)+(t.length:Int)+((1:Nat):Int)+17*(i:Int)+((1:Nat):Int) by omega]at Q;rw[show J1 .i64 (11+J0 t+17*(i:Int)) 9=0+((2:Nat):Int)+((4:Nat):Int)+((4:Nat):Int)+(t.length:Int)+((1:Nat):Int)+17*(i:Int)+((1:Nat):Int)+((8:Nat):Int) by omega]at h10;have A:=J.symm.trans g1;have w:=Q.symm.trans g2;have g:=h10.symm.trans B;injection A with A;injection w with w;injection g with g;subst A;subst w;subst g;show G=_;rw[J3w N,List.take_add_one,hr];rfl
  ·show c.2.2.2.1.take i=_;rw[List.take_of_length_le (by omega)]
  ·have hi:i=c.2.2.2.1.length:=by omega
   obtain⟨_,F⟩:=Juc C;have e:L=J0Y (J0 c.2.2.2.2) 2++J5a c.2.2.2.2:=by
    obtain⟨pre,j,q1,q2⟩:=a4;have Y:(pre++((J0Y (J0 c.2.2.2.2) 2++J5a c.2.2.2.2)++j)).length=(J0Y c.1 2++(J0Y c.2.1 4++(J0Y (J0 t) 4++(t++(J0Y (J0 c.2.2.2.1) 1++(JaI c.2.2.2.1++(J0Y (J0 c.2.2.2.2) 2++J5a c.2.2.2.2))))))).length:=by rw[<-q1,<-hx];rfl
    simp only[J57,JS,JpL]at Y;have hp:j=[]:=List.length_eq_zero_iff.1 (by omega);subst hp;rw[F,q1,JbW,show(11+J0 t+17*(i:Int)).toNat=pre.length by omega];simp
   rw[e]at o;exact JKS o V Z E
 exact O _ h rfl
end
end Go.Am
end
section
namespace Go.Am
set_option linter.unusedVariables false
set_option maxRecDepth 20000
set_option maxHeartbeats 1000000
section
variable {k:J6}
theorem JDc{p:JG}{y:List T_api_Row}(h:J3s p=some y)(hv:JR p=some true)(one:p.2.1.Pairwise λa b=>a.1.1≠b.1.1):(∀d∈y,∃f∈p.2.1,f.1.1=d.1/\d.2.2=f.1.2.1)/\ ∀f∈p.2.1,f.2.1=true->0<=f.1.1->f.1.1<64-> ∃d∈y,d.1=f.1.1:=by
 have n:Par (J3s p) λy=>(∀d∈y,∃f∈p.2.1,f.1.1=d.1/\d.2.2=f.1.2.1)/\ ∀f∈p.2.1,f.2.1=true->0<=f.1.1->f.1.1<64-> ∃d∈y,d.1=f.1.1:=by
  unfold J3s;refine .bind λv E=>.not (λc=>by simp_all) λ_=>.while (λz=>z.2.1=p/\(0<=z.1/\z.1<=64)/\(∀d∈z.2.2,∃f∈p.2.1,f.1.1=d.1/\d.2.2=f.1.2.1)/\ ∀f∈p.2.1,f.2.1=true->0<=f.1.1->f.1.1<z.1-> ∃d∈z.2.2,d.1=f.1.1) ⟨rfl,⟨J0F _,show(0:Int)<=64 by decide⟩,nofun,λf _ _ a b=>by grind⟩ ?_;rintro⟨i,C,o⟩ ⟨h1,⟨h2,h3⟩,h4,h5⟩
  (try dsimp only at h1 h2 h3 h4 h5)
  subst h1;unfold Jab;dsimp only;have oo:=Jb i 1;refine .lt (λB=>.bind λj hj=>.ge (λk=>.bind λf hf=>?_) λk=>.some ⟨rfl,by grind,h4,λg r a b c=>?_⟩) λB=>.some ⟨h4,λf hf a b c=>h5 f hf a b (by omega)⟩
  ·obtain⟨g,g1,g2⟩:=(J84 hj).2.1 k;rw[hf]at g1;injection g1 with g1;subst g1
   have A: ∀x∈C.2.1,x.1.1=i->x=f:=λx hx e=>by
    obtain⟨a,ha⟩:=J5w.1 hx;obtain⟨_,hb⟩:=J0H hf
    grind [JCB]
   refine .ite (λw=>.bind λH F=>.bind λI D=>.bind λG q=>.some ⟨rfl,by grind,λd hd=>?_,λx hx a b c=>?_⟩) λw=>.some ⟨rfl,by grind,h4,λx hx a b c=>?_⟩
   ·(try dsimp only at hd)
    rw[J3w q]at hd
    grind [J5f]
   ·(try dsimp only at c⊢)
    rw[J3w q];by_cases e:x.1.1=i
    ·exact⟨_,List.mem_append_right _ (JaO.2 rfl),e.symm⟩
    ·obtain⟨d,q1,q2⟩:=h5 x hx a b (by omega)
     grind
   grind
  ·(try dsimp only at c)
   by_cases e:g.1.1=i
   ·exact absurd e ((J84 hj).2.2 (by omega) g r)
   grind
 exact n _ h
def OfQ(k:J6)(n:Int)(D:List T_api_Row):Prop:=(∀d∈D,d.2.2=J0G k.2.2.1.2.1 d.1)/\ ∀q,0<=q->q<n->((∃d∈k.2.2.2.2.2.2.2,d.1=q)\/(∃f∈k.2.2.2.1.2.1,f.2.1=true/\f.1.1=q))-> ∃d∈D,d.1=q
theorem JLr{y:Jcn}(h:J78 k=some y)(c:y.2=0)(hi:JC k):y.1.1=k.1/\y.1.2.2.2.2=k.2.2.2.2.2.2.1/\OfQ k k.1 y.1.2.2.2.1/\Jq k=some true:=by
 have S:Par (J78 k) λy=>y.2=0->y.1.1=k.1/\y.1.2.2.2.2=k.2.2.2.2.2.2.1/\OfQ k k.1 y.1.2.2.2.1/\Jq k=some true:=by
  unfold J78;refine .bind λv hv=>.not (λ_=>.some nofun) λcv=>?_;have hv:Jq k=some true:=by simp_all
  have a9:k.1<=64:=by
   have k1:Par (J1T k) λy=>y=true->k.1<=64:=by unfold J1T;exact .ge (λ_=>.le (λc=>λ_ _ _=>c) λ_=>.some nofun) λ_=>.some nofun
   have k2:Par (Jq k) λy=>y=true->k.1<=64:=by unfold Jq;exact .bind λa ha=>.not (λ_=>.some nofun) λc=>λ_ _ _=>k1 _ ha c
   exact k2 _ hv rfl
  refine .while (λz=>z.2.1=k/\z.2.2.2.2.2.2.2.2.2.1=k.1/\z.2.2.2.2.2.2.2.2.2.2.2.2=k.2.2.2.2.2.2.1/\(0<=z.1/\z.1<=1000)/\OfQ k z.1 z.2.2.2.2.2.2.2.1) ⟨rfl,rfl,rfl,⟨J0F _,show(0:Int)<=1000 by decide⟩,nofun,λq a b=>by grind⟩ ?_;rintro⟨i,k',W,u2,u3,u4,u5,D,Y,pg,Z,u8,rw⟩ ⟨h1,h2,h3,⟨h4,B⟩,h5⟩
  (try dsimp only at h1 h2 h3 h4 B h5)
  subst h1 h2 h3;unfold JcN;have oo:=Jb i 1;have L:JcW=J8h:=rfl;rw[L]
  have lp: ∀{w g:List T_api_Row},i<k'.1->J3s k'.2.2.2.1=some g->(∀d∈w,d.2.2=J0G k'.2.2.1.2.1 d.1)->(∀d∈D,d∈w)->((∃d∈k'.2.2.2.2.2.2.2,d.1=i)-> ∃d∈w,d.1=i)->
    Par (Jg J8h (i,g,J0 g,0,k',W,u2,u3,u4,u5,w,Y,k'.1,Z,u8,k'.2.2.2.2.2.2.1)) λr=> ∃z,r=.inl z/\z.2.1=k'/\z.2.2.2.2.2.2.2.2.2.1=k'.1/\z.2.2.2.2.2.2.2.2.2.2.2.2=k'.2.2.2.2.2.2.1/\(0<=z.1/\z.1<=1000)/\OfQ k' z.1 z.2.2.2.2.2.2.2.1:=by
   intro w g F C hl a4 aa;obtain⟨d1,d2⟩:=JDc C (Jby hv) hi.2.2.one;refine .while (λz=>z.1=i/\z.2.1=g/\z.2.2.1=J0 g/\z.2.2.2.2.1=k'/\z.2.2.2.2.2.2.2.2.2.2.2.2.1=k'.1/\z.2.2.2.2.2.2.2.2.2.2.2.2.2.2.2=k'.2.2.2.2.2.2.1/\(∀d∈z.2.2.2.2.2.2.2.2.2.2.1,d.2.2=J0G k'.2.2.1.2.1 d.1)/\(∀d∈w,d∈z.2.2.2.2.2.2.2.2.2.2.1)/\upw (λd=>d.1=i->d∈z.2.2.2.2.2.2.2.2.2.2.1) g z.2.2.2.1) ⟨rfl,rfl,rfl,rfl,rfl,rfl,hl,λ_ h=>h,Jjg⟩ ?_;rintro⟨i',ab,n,j,k2,t1,t2,t3,t4,t5,D2,t6,pg,t7,t8,rw⟩ ⟨g1,g2,V,N,K,J,E,R,G⟩
   (try dsimp only at g1 g2 V N K J E R G)
   subst g1 g2 V N K J;unfold J8h;refine .lt (λP=>.bind λd hd=>.eq (λT=>.bind λy9 H=>.some ⟨rfl,rfl,rfl,rfl,rfl,rfl,λx hx=>?_,λx hx=>?_,?_⟩) λT=>.some ⟨rfl,rfl,rfl,rfl,rfl,rfl,E,R,J9J G hd λh=>absurd h T⟩) λP=>.some ⟨_,rfl,rfl,rfl,rfl,by grind,E,λq q1 q2 q3=>?_⟩
   ·(try dsimp only at hx)
    rw[J3w H]at hx;rcases J2h.1 hx with hx|hx
    ·exact E x hx
    ·simp at hx;subst hx;obtain⟨f,M,I,U⟩:=d1 _ (J5f hd);rw[U,(hi.2.2.hot f M).1,I]
   ·dsimp only;rw[J3w H]
    grind
   ·dsimp only;rw[J3w H];exact J9J (G.mono λx h e=>List.mem_append_left _ (h e)) hd λ_=>List.mem_append_right _ (JaO.2 rfl)
   ·(try dsimp only at q2)
    have al:=Jcz G P;by_cases e:q=i'
    ·subst e;rcases q3 with q3|⟨f,M,I,U⟩
     all_goals grind
    ·obtain⟨d,a,b⟩:=h5.2 q q1 (by omega) q3
     grind
  have fin: ∀{o:Option ((Jpe)⊕(Jcn))} {Q:((Jpe)⊕(Jcn))->Prop},Par o (λr=> ∃z,r=.inl z/\z.2.1=k'/\z.2.2.2.2.2.2.2.2.2.1=k'.1/\z.2.2.2.2.2.2.2.2.2.2.2.2=k'.2.2.2.2.2.2.1/\(0<=z.1/\z.1<=1000)/\OfQ k' z.1 z.2.2.2.2.2.2.2.1)->
   (∀z,z.2.1=k'/\z.2.2.2.2.2.2.2.2.2.1=k'.1/\z.2.2.2.2.2.2.2.2.2.2.2.2=k'.2.2.2.2.2.2.1/\(0<=z.1/\z.1<=1000)/\OfQ k' z.1 z.2.2.2.2.2.2.2.1->Q (.inl z))->Par o Q:=λh1 h2=>h1.mono λr ⟨z,hz,h⟩=>by grind
  refine .lt (λF=>.bind λy4 B=>.ite (λO=>.bind λy5 A=>.bind λg C=>fin (lp F C (λd hd=>?_) (λd hd=>?_) λ_=>?_) λz h=>h) λO=>.bind λg C=>fin (lp F C h5.1 (λd hd=>hd) λhx=>?_) λz h=>h) λF=>.some λ_=>⟨rfl,rfl,⟨h5.1,λq q1 q2 q3=>h5.2 q q1 (by grind) q3⟩,hv⟩
  ·rw[J3w A]at hd;rcases J2h.1 hd with hd|hd
   ·exact h5.1 d hd
   ·simp at hd;subst hd;exact hi.2.2.lak _ ((Jcw B).1 O).1
  ·rw[J3w A];grind
  ·rw[J3w A]
   grind [Jcw]
  grind [Jcw]
 exact S _ h c
theorem JzN{l:JO}(hi:J72 l)(hc:J2N l.2.1):Par (J02 l) λy=>y=true:=by
 obtain⟨w,k,n,r⟩:=hi;have o:=J0o l.1 1;unfold J02;refine .ltf (λ_=>.gtf (λ_=>.gtf (λ_=>.ltf (λ_=>.bind λm hm=>.gt (λc=>?_) λ_=>.while (λz=>z.2=l) rfl ?_) λc=>by omega) λc=>by omega) λc=>by omega) λc=>by omega
 ·grind [JhX]
 ·rintro⟨i,l'⟩ h
  (try dsimp only at h)
  subst h;unfold J7S;refine .lt (λ_=>.bind λe he=>.nef (λ_=>.bind λe2 g=>.bind λv hv=>.not (λc=>?_) λ_=>.some rfl) λc=>?_) λ_=>.some rfl
  ·rw[he]at g;injection g with g;subst g
   obtain⟨_,q⟩:=J0H he;have:=(hc _ _ q).2.1;simp_all
  ·obtain⟨j,q⟩:=J0H he
   (try dsimp only at j q c)
   have e1:=(hc _ _ q).1
   grind [J0,Jb]
theorem Jx9{l:JO}{n:Int}(hi:J72 l)(hc:J2N l.2.1)(hn:n<=J0 l.2.1):Par (J19 (l,n)) λy=>y.2=0:=by
 have v:=JzN hi hc;obtain⟨e,j,g,h⟩:=hi;unfold J19;refine .bind λb hb=>.not (λc=>by rw[v _ hb]at c;cases c) λ_=>.bind λm hm=>.gt (λc=>?_) λ_=>.some rfl
 grind [JhX]
theorem JJ4{y:J7b}(h:J5K k=some y)(c:y.2.2=0)(hi:JC k):JC y.1:=by
 have w:Par (J5K k) λy=>y.2.2=0->JC y.1:=by
  unfold J5K;refine .bind λP h2=>.ne (λc=>.some λh=>absurd h c) λI=>.bind λE h3=>.gt (λ_=>.some nofun) λL=>.bind λN h4=>.ne (λc=>.some λh=>absurd h c) λM=>.bind λn h5=>.some λ_=>?_;obtain⟨H,G,⟨J,A⟩,hv⟩:=JLr h2 I hi;have cp:JAJ k.2.2.1.2.1 E.1:=by
   intro c' hc';rcases JKt h3 with e|⟨v,t,e⟩
   ·rw[e]at hc';exact absurd hc' (by have:J35 []=some ((0,0,[],[],[]),5):=rfl;simp_all)
   ·rw[e]at hc' L;obtain⟨F,C,D⟩:=JKG v (by grind [J0]) hc';rw[F,C,D,H,G];refine⟨nofun,.nil,nofun,nofun,J,λp r hp=>?_⟩;obtain⟨q1,q2⟩:=hi.2.2.row p r hp;refine⟨q1,λ_ b=>?_⟩;have p0:=(J0H hp).1;have x:p<k.1:=by
     have:=J51 (J0H hp).2;have k1:Par (J1T k) λy=>y=true->J0 k.2.2.2.2.2.2.1=k.1:=by unfold J1T;exact .ge (λ_=>.le (λ_=>.ge (λ_=>.le (λ_=>.bind λ_ _=>.ite (λ_=>.bind λ_ _=>.ite (λ_=>.bind λ_ _=>.ite (λ_=>.bind λ_ _=>.ite (λ_=>.bind λ_ _=>.ite (λ_=>.eq (λc=>λ_ _ _=>c) λ_=>.some nofun) λ_=>.some nofun) λ_=>.some nofun) λ_=>.some nofun) λ_=>.some nofun) λ_=>.some nofun) λ_=>.some nofun) λ_=>.some nofun) λ_=>.some nofun) λ_=>.some nofun
     have k2:Par (Jq k) λy=>y=true->J0 k.2.2.2.2.2.2.1=k.1:=by unfold Jq;exact .bind λa ha=>.not (λ_=>.some nofun) λc=>λ_ _ _=>k1 _ ha c
     have:=k2 _ hv rfl;omega
    by_cases hf: ∃f∈k.2.2.2.1.2.1,f.1.1=p
    ·obtain⟨f,j,o⟩:=hf;cases fd:f.2.1 with
     |true=>
      obtain⟨d,a,e⟩:=A p p0 x (.inr ⟨f,j,fd,o⟩)
      grind
     |false=>
      have:=(hi.2.2.hot f j).2 fd r (by grind)
      grind
    ·refine q2 (λf B e=>hf ⟨f,B,e⟩) λd hd e=>?_;obtain⟨K,a,e'⟩:=A p p0 x (.inl ⟨d,hd,e⟩);exact b K a e'
  have q:=Jt6 h4 M hi (λh=>absurd h (by simp_all)) (λh=>absurd h (by simp_all)) λ_=>cp;have g:=q.inv hi (by simp_all) λh=>absurd h (by simp_all);by_cases z:n.2=0
  ·obtain⟨j,o⟩:=Jec h5 z;exact⟨o g.1,by show J2N n.1.2.1;rw[j];exact g.2.1,by show Rel n.1.2.1 _ _ _ _;rw[j];exact g.2.2⟩
  ·obtain⟨_,e',_,_,a3,a4,_,O,_⟩:=q;exact absurd (Jx9 g.1 g.2.1 (by grind [J76,J5G]) _ h5) z
 exact w _ h c
end
section
variable {s:Jt}
theorem Ju0{y:JeS}(e:J2T s=some y)(c:y.2.2=0)(hi:JC s.1):JC y.1.1:=by
 have g:Par (J2T s) λy=>y.2.2=0->JC y.1.1:=by unfold J2T;exact .bind λk h2=>.ne (λc=>.some λh=>absurd h c) λj=>.some λ_=>JJ4 h2 j hi
 exact g _ e c
end
end Go.Am
end
section
namespace Go.Am
set_option linter.unusedVariables false
set_option maxRecDepth 20000
set_option maxHeartbeats 1000000
section
variable {s:Jt}
abbrev TFl:=Int×Int×Int×(List J2)×Int×Int×(List T_api_Frame)×Int×(List T_api_Grant)×(List T_api_Grant)×(List Jo)×(List T_api_Row)×(List T_api_Row)×(List (List UInt8))×Int×(List Int)×Bool×(List JQ)×Bool×(List Int)×(List J5b)
def krn(t:TFl):J6:=(t.1,t.2.1,(t.2.2.1,t.2.2.2.1,t.2.2.2.2.1),(t.2.2.2.2.2.1,t.2.2.2.2.2.2.1,t.2.2.2.2.2.2.2.1),(t.2.2.2.2.2.2.2.2.1,t.2.2.2.2.2.2.2.2.2.1),t.2.2.2.2.2.2.2.2.2.2.1,t.2.2.2.2.2.2.2.2.2.2.2.1,t.2.2.2.2.2.2.2.2.2.2.2.2.1)
theorem Jvt{k:J6}{t n m:Int}{b:List UInt8}{d:J0g}{y:J2O}(hi:JC k)(hb:J1P (k.2.2.1,t)=some b)(h:J4t (d,b,n,m)=some y)(c:y.2=0):JC y.1.1:=by
 have o:Par (J4t (d,b,n,m)) λy=>y.2=0->JC y.1.1:=by
  unfold J4t;dsimp only;refine .bind λr h2=>.ne (λc=>.some λh=>absurd h c) λq=>.bind λB h3=>.ne (λc=>.some λh=>absurd h c) λc3=>.bind λC h4=>.ne (λc=>.some λh=>absurd h c) λz=>.some λ_=>?_;rcases JI3 hb hi.1 hi.2.1 with e|⟨f,hl,hd,rest,e1,e2,x⟩
  ·rw[e]at h2;have:J4x []=some ((0,[],0),4):=rfl;rw[this]at h2;injection h2 with h2;subst h2;exact absurd q (by decide)
  ·obtain⟨j,q1,q2,q3⟩:=JJK h2 f hi.2.1 hl e1 e2 x q;have hc:=hi.2.1.take j;have A:J0 (k.2.2.1.2.1.take j)=j:=by unfold J0;rw[Jgo];omega
   have hL:J72 r.1:=by rw[q1];exact⟨rfl,by dsimp only;omega,by dsimp only;omega,by dsimp only;omega⟩
   have g:J2N r.1.2.1:=by rw[q1];exact hc
   obtain⟨v,w⟩:=JDr h3 c3 g;exact JHf h4 z hL g (by rw[v];exact w)
 exact o _ h c
theorem JDq{t id g:Int}{y:J0g×List UInt8}(h:J4S (s,t,id,g)=some y)(hi:JC s.1): ∃k,JC k/\ ∃t,J1P (k.2.2.1,t)=some y.2:=by
 have n:Par (J4S (s,t,id,g)) λy=> ∃k,JC k/\ ∃t,J1P (k.2.2.1,t)=some y.2:=by unfold J4S;exact .bind λ_ _=>.ge (λ_=>.bind λ_ _=>.ite (λ_=>.bind λ_ _=>.bind λ_ _=>.bind λ_ _=>.bind λo q=>.bind λ_ _=>.eq (λ_=>.bind λj e=>.some ⟨o,hi.force q,_,e⟩) λ_=>.bind λj e=>.some ⟨o,hi.force q,_,e⟩) λ_=>.bind λj e=>.some ⟨s.1,hi,_,e⟩) λ_=>.bind λj e=>.some ⟨s.1,hi,_,e⟩
 exact n _ h
variable {x:J3K} {t:TFl}
theorem JiG{e:Int}{y:J0f×TFl}(h:J0T (s,e,t)=some y)(hi:JC (krn t))(hs:e=0->JC s.1):JC (krn y.2):=by
 have g:Par (J0T (s,e,t)) λy=>JC (krn y.2):=by unfold J0T;exact .eq (λc=>.bind λ_ _=>.some (hs c)) λ_=>.bind λ_ _=>.some hi
 exact g _ h
theorem JKh{y:J0f×TFl}(h:J2s (x,t)=some y)(hi:JC (krn t)):JC (krn y.2):=by
 have g:Par (J2s (x,t)) λy=>JC (krn y.2):=by unfold J2s;exact .ltf (λ_=>.gtf (λ_=>.bind λ_ _=>.bind λ_ _=>.eq (λ_=>.bind λ_ _=>.some hi) λ_=>.bind λ_ _=>.bind λ_ _=>.bind λj e=>.eq (λ_=>.some hi) λ_=>.eq (λ_=>.eq (λ_=>.bind λ_ _=>.bind λ_ _=>.some (Jva e hi)) λ_=>.some (Jva e hi)) λ_=>.some (Jva e hi)) λ_=>.bind λ_ _=>.some hi) λ_=>.bind λ_ _=>.some hi
 exact g _ h
theorem JH9{y:J0f×TFl}(h:J20 (x,t)=some y)(hi:JC (krn t)):JC (krn y.2):=by
 have n:Par (J20 (x,t)) λy=>JC (krn y.2):=by
  unfold J20;refine .bind λe h2=>.bind λj h3=>?_;obtain⟨k,hk,t',hb⟩:=JDq h2 hi;have ho:j.2=0->JC j.1.1:=by unfold J80 at h3;have o:Par ((J4t (e.1,e.2,t.1,t.2.2.2.2.2.1)).bind λe=>some (e.1,e.2)) λy=>y.2=0->JC y.1.1:=.bind λq h4=>.some λc=>Jvt hk hb h4 c;exact o _ h3
  refine .while (λz=>z.1=j.2/\z.2.2.2.2.2.2.2.2.2.2.2.2.2.2.2.2.2.2.2.2.2.2.2.2.2.2=j.1/\ ∃u v:List Int,True/\JC (krn (z.2.2.1,z.2.2.2.1,z.2.2.2.2.1,z.2.2.2.2.2.1,z.2.2.2.2.2.2.1,z.2.2.2.2.2.2.2.1,z.2.2.2.2.2.2.2.2.1,z.2.2.2.2.2.2.2.2.2.1,z.2.2.2.2.2.2.2.2.2.2.1,z.2.2.2.2.2.2.2.2.2.2.2.1,z.2.2.2.2.2.2.2.2.2.2.2.2.1,z.2.2.2.2.2.2.2.2.2.2.2.2.2.1,z.2.2.2.2.2.2.2.2.2.2.2.2.2.2.1,[],0,[],false,[],false,u,[]))) ⟨rfl,rfl,[],[],trivial,hi⟩ λz hz=>?_;obtain⟨z1,z2,u,v,_,z3⟩:=hz;unfold J5A;refine .lt (λ_=>.bind λ_ _=>.bind λ_ _=>.some ⟨z1,z2,u,v,trivial,z3⟩) λ_=>.map (.ne (λ_=>.bind λ_ _=>.some z3) λc=>.bind λ_ _=>.some ?_);have g:=ho (by rw[<-z1];exact c);rw[<-z2]at g;exact g
 exact n _ h
theorem JIS{y:J0f×TFl}(h:J2e (x,t)=some y)(hi:JC (krn t)):JC (krn y.2):=by
 have w:Par (J2e (x,t)) λy=>JC (krn y.2):=by
  unfold J2e;refine .eq (λ_=>.bind λE h2=>.eq (λ_=>.bind λz _=>.bind λk h4=>.some ?_) λ_=>.bind λk h4=>.some (show JC (krn k.2)from JiG h4 hi λc=>JpM h2 c hi)) λ_=>.eq (λ_=>.bind λD B=>.some (JKh B hi)) λ_=>.eq (λ_=>.bind λn e=>.bind λv g=>.some (JiG g hi λc=>JDV e c hi)) λ_=>.eq (λ_=>.bind λn e=>.bind λv g=>.some (JiG g hi λc=>Ju0 e c hi)) λ_=>.eq (λ_=>.bind λ_ _=>.bind λj q=>.eq (λc=>.bind λ_ _=>.some ?_) λ_=>.bind λ_ _=>.some hi) λ_=>.eq (λ_=>.bind λC r=>.some (JH9 r hi)) λ_=>.eq (λ_=>.bind λn e=>.bind λv g=>.some (JiG g hi λc=>JJm e c hi)) λ_=>.bind λ_ _=>.some hi
  ·show JC (krn k.2);exact JiG (t:=(_,_,_,_,_,_,_,_,_,_,_,_,_,_,_,_,_,_,_,z,_)) h4 hi λc=>JpM h2 c hi
  ·obtain⟨o,A⟩:=Jec q c;exact⟨A hi.1,by show J2N j.1.2.1;rw[o];exact hi.2.1,by show Rel j.1.2.1 _ _ _ _;rw[o];exact hi.2.2⟩
 exact w _ h
theorem JKU{l:List J3K}{y:Jt×(List J0f)×List J5b}(h:J6w (s,l)=some y)(hi:JC s.1):JC y.1.1:=by
 have e:Par (J6w (s,l)) λy=>JC y.1.1:=by unfold J6w;refine .while (λz=>JC (krn (z.2.2.2.2.2.2.1,z.2.2.2.2.2.2.2.1,z.2.2.2.2.2.2.2.2.1,z.2.2.2.2.2.2.2.2.2.1,z.2.2.2.2.2.2.2.2.2.2.1,z.2.2.2.2.2.2.2.2.2.2.2.1,z.2.2.2.2.2.2.2.2.2.2.2.2.1,z.2.2.2.2.2.2.2.2.2.2.2.2.2.1,z.2.2.2.2.2.2.2.2.2.2.2.2.2.2.1,z.2.2.2.2.2.2.2.2.2.2.2.2.2.2.2.1,z.2.2.2.2.2.2.2.2.2.2.2.2.2.2.2.2.1,z.2.2.2.2.2.2.2.2.2.2.2.2.2.2.2.2.2.1,z.2.2.2.2.2.2.2.2.2.2.2.2.2.2.2.2.2.2.1,[],0,[],false,[],false,[],[]))) (by exact hi) λz hz=>?_;unfold JbO;exact .lt (λ_=>.lt (λ_=>.not (λ_=>.bind λ_ _=>.bind λg h4=>.bind λ_ _=>.some (JIS h4 hz)) λ_=>.some hz) λ_=>.some hz) λ_=>.some hz
 exact e _ h
theorem JHz{p f:Int}{y:J2O}(h:J4s (p,f)=some y)(c:y.2=0):JC y.1.1:=by
 have j:Par (J5c (p,f)) λy=>y.2=0->JC y.1:=by
  unfold J5c;refine .ltf (λ_=>.gtf (λ_=>.ltf (λ_=>.gt (λ_=>.some nofun) λ_=>.bind λk h2=>.bind λn h3=>.some λ_=>⟨⟨rfl,J0F _,J4,show(0:Int)<=4096 by decide⟩,λi e h=>by simp at h,?_⟩) λ_=>.some nofun) λ_=>.some nofun) λ_=>.some nofun;have k2:Par (J5d f) λy=>y.1.2.1=[]:=by unfold J5d;exact .ltf (λ_=>.gt (λ_=>.some rfl) λ_=>.some rfl) λ_=>.some rfl
  show Rel [] p k.1.2.1 [] n.1;rw[k2 _ h2];refine⟨nofun,.nil,nofun,nofun,nofun,λp r hr=>?_⟩;have z:r.1=0:=JzF h3 r (J5f hr);rw[z];exact⟨J0F _,λ_ _=>rfl⟩
 have g:Par (J4s (p,f)) λy=>y.2=0->JC y.1.1:=by unfold J4s;exact .bind λk h2=>.ne (λc=>.some λh=>absurd h c) λo=>.bind λ_ _=>.ne (λc=>.some λh=>absurd h c) λ_=>.some λ_=>j _ h2 o
 exact g _ h c
end
end Go.Am
end
section
namespace Go.Am
set_option linter.unusedVariables false
set_option maxRecDepth 20000
set_option maxHeartbeats 1000000
section
variable {B S:Int}
theorem JJM{p f:Int}(h1:1<=p)(h2:p<=64)(h3:1<=f)(h4:f<=64):Par (J4s (p,f)) λy=>y.2=0:=by
 have e:Par (J5c (p,f)) λy=>y.2=0:=by unfold J5c;exact .ltf (λ_=>.gtf (λ_=>.ltf (λ_=>.gt (λc=>by(try dsimp only at c);omega) λ_=>.bind λj h2=>.bind λg h3=>.some rfl) λc=>by(try dsimp only at c);omega) λc=>by(try dsimp only at c);omega) λc=>by(try dsimp only at c);omega
 have h:Par (J7D p) λy=>y.2=0:=by unfold J7D;exact .ltf (λ_=>.gt (λc=>by omega) λ_=>.bind λ_ _=>.some rfl) λc=>by omega
 unfold J4s;exact .bind λj h2=>.ne (λc=>absurd (e _ h2) c) λk=>.bind λg h3=>.ne (λc=>absurd (h _ h3) c) λ_=>.some rfl
theorem JD5{c:Jp}{n:Int}{b:Bool}{y:Jt×Jp}(hf:zFt 16384 1073741824 J7 c)(q:0<=c.2)(h:J2r (n,b,c)=some y):JC y.1.1:=by
 have o:Par (J2r (n,b,c)) λy=>JC y.1.1:=by unfold J2r;refine .bind λg h2=>.bind λk h3=>.bind λD h4=>.bind λz h5=>.bind λA r=>.some ?_;have e:=(Jj (B:=16384) (S:=1073741824) (x1:=(4,c)) ⟨J58 .i64 4,hf⟩ q).get h2;have j:=(Jj (B:=16384) (S:=1073741824) (x1:=(3,g.2)) ⟨J58 .i64 3,e.1.2⟩ e.2.2.2).get h3;have a2:=e.2.2.1 (show(1:Int)<=4 by decide);have a3:=j.2.2.1 (show(1:Int)<=3 by decide);have b2:=e.2.1;have w:=j.2.1;have x:=Jb 1 g.1;have C:=Jb 1 k.1;have v:=JJM (p:=J1 .i64 1 g.1) (f:=J1 .i64 1 k.1) (by omega) (by(try dsimp only at a2);omega) (by omega) (by(try dsimp only at a3);omega) _ h4;exact JKU r (JHz h4 v)
 exact o _ h
theorem JFZ{c:Jp}{n:Int}{b:Bool}{y:J6×Jp}(hf:zFt 16384 1073741824 J7 c)(g:0<=c.2)(h:J2L (n,b,c)=some y):JC y.1:=by
 have e:Par (J2L (n,b,c)) λy=>JC y.1:=by unfold J2L;exact .bind λj h2=>.some (JD5 hf g h2)
 exact e _ h
def JIq(l:JO):Prop:=J72 l/\J2N l.2.1
theorem JDD{c:Jp}{n:Int}{y:Int×JO×Jp}(hf:zFt 16384 1073741824 J7 c)(w:0<=c.2)(h:J77 (n,c)=some y):JIq y.2.1/\y.2.1.2.2=J0 y.2.1.2.1:=by
 have o:Par (J77 (n,c)) λy=>JIq y.2.1/\y.2.1.2.2=J0 y.2.1.2.1:=by
  unfold J77;refine .bind λe h2=>.bind λj h3=>.bind λq h4=>.some ?_;have g:=JFZ hf w h2;have F:j=J0 e.1.2.2.1.2.1:=by
   have x:Par (J3m e.1.2.2.1) λy=>y=J0 e.1.2.2.1.2.1:=by unfold J3m;refine .bind λv hv=>.not (λc=>by rw[JzN g.1 g.2.1 _ hv]at c;cases c) λ_=>.bind λm hm=>.some ?_;obtain⟨E,D,z,A⟩:=g.1;have:=JhX hm (by omega) (by omega) A;omega
   exact x _ h3
  have r:=Jx9 g.1 g.2.1 (n:=j) (by omega) _ h4;obtain⟨k,B⟩:=Jec h4 r;refine⟨⟨B g.1,by rw[k];exact g.2.1⟩,?_⟩;have C:Par (J19 (e.1.2.2.1,j)) λy=>y.2=0->y.1.2.2=J1m e.1.2.2.1.2.2 j:=by unfold J19;exact .bind λ_ _=>.not (λ_=>.some nofun) λ_=>.bind λ_ _=>.gt (λ_=>.some nofun) λ_=>.some λ_=>rfl
  have:=C _ h4 r;have mx:=J6I e.1.2.2.1.2.2 j;have z:=g.1.2.2.1;show q.1.2.2=J0 q.1.2.1;rw[k];omega
 exact o _ h
end
end Go.Am
end
section
namespace Go.Am
set_option linter.unusedVariables false
set_option maxRecDepth 20000
set_option maxHeartbeats 1000000
section
variable {l:List J2}
theorem Jpl{f t lo hi lv:Int}{y:JdX}(h:J2N l)(hl:J0 l<=4096)(hn:J7M (f,t,lo,hi,lv,[]))(e:J3P (l,f,t,lo,hi,lv)=some y):y=((f,t,lo,hi,lv,sel l f t lo hi),0):=by
 have K:Par (J3P (l,f,t,lo,hi,lv)) λy=>y=((f,t,lo,hi,lv,sel l f t lo hi),0):=by
  unfold J3P;refine .bind λv hv=>.not (λc=>?_) λ_=>.while (λz=>z.1=l/\z.2.1=f/\z.2.2.1=t/\z.2.2.2.1=lo/\z.2.2.2.2.1=hi/\z.2.2.2.2.2.1=lv) ⟨rfl,rfl,rfl,rfl,rfl,rfl⟩ ?_
  ·have:=(Jiv hn).get hv;simp_all
  rintro⟨l',f',t',E,A,D,i,r0⟩ ⟨h1,h2,h3,h4,h5,B⟩
  (try dsimp only at h1 h2 h3 h4 h5 B)
  subst h1 h2 h3 h4 h5 B;unfold JaT;dsimp only;refine .lt (λ_=>.bind λx hx=>.bind λv hv=>.not (λc=>?_) λ_=>.some ⟨rfl,rfl,rfl,rfl,rfl,rfl⟩) λ_=>.map ?_
  ·obtain⟨_,q⟩:=J0H hx;have:=(h _ _ q).2.1;simp_all
  refine .while (λz=>z.1=l'/\z.2.1=f'/\z.2.2.1=t'/\z.2.2.2.1=E/\z.2.2.2.2.1=A/\z.2.2.2.2.2.1=false/\ ∃i:Nat,z.2.2.2.2.2.2.1=(i:Int)/\i<=l'.length/\z.2.2.2.2.2.2.2.2=(f',t',E,A,D,srt ((l'.take i).filter (inB f' t' E A)))) ⟨rfl,rfl,rfl,rfl,rfl,rfl,0,rfl,zQ2 _,rfl⟩ ?_;rintro⟨l2,r,w,n,g,T,i',r1,r2⟩ ⟨h1,h2,h3,h4,h5,B,i,G,S,C⟩
  (try dsimp only at h1 h2 h3 h4 h5 B G S C)
  subst h1 h2 h3 h4 h5 B G C;unfold Jba;dsimp only;have o:=Jb (i:Int) 1;have P: ∀{x:J2},idx l2 (i:Int)=some x->l2.take (i+1)=l2.take i++[x]/\i+1<=l2.length/\x.1=(i:Int)+1:=fun{x} hx=>by obtain⟨_,q⟩:=J0H hx;rw[Int.toNat_natCast]at q;exact⟨by grind [List.take_add_one],(J3Z.1 q).1,h.at q⟩
  have skip: ∀{x:J2},idx l2 (i:Int)=some x->inB r w n g x=false-> ∃j:Nat,J1 .i64 (i:Int) 1=(j:Int)/\j<=l2.length/\((r,w,n,g,D,srt ((l2.take i).filter (inB r w n g))):JF)=(r,w,n,g,D,srt ((l2.take j).filter (inB r w n g))):=fun{x} hx hb=>by
   grind [J0]
  have F: ∀{x:J2},¬((x.2.1=1\/x.2.1=2)/\(n<=pgE x/\pgE x<=g)/\r<=x.1/\x.1<=w)->inB r w n g x=false:=fun{x} hx=>by grind [inB]
  refine .lt (λO=>.bind λx hx=>.bind λb hb=>.nof (λH=>.ltf (λQ=>.gtf (λN=>.ltf (λc3=>.gt (λU=>.some ⟨rfl,rfl,rfl,rfl,rfl,rfl,skip hx (F λq=>by omega)⟩) λU=>?_) λc3=>.some ⟨rfl,rfl,rfl,rfl,rfl,rfl,skip hx (F λq=>by omega)⟩) λN=>.some ⟨rfl,rfl,rfl,rfl,rfl,rfl,skip hx (F λq=>by grind [pgE])⟩) λQ=>.some ⟨rfl,rfl,rfl,rfl,rfl,rfl,skip hx (F λq=>by grind [pgE])⟩) λH=>.some ⟨rfl,rfl,rfl,rfl,rfl,rfl,skip hx (F λq=>(J82 hb).2 H q.1)⟩) λO=>.map (.ite (λc=>by cases c) λ_=>?_)
  ·obtain⟨q1,q2,q3⟩:=P hx;have Z:inB r w n g x=true:=J8u.2 ⟨(J82 hb).1 H,by grind [pgE],by omega,by omega⟩;obtain⟨s1,V,s3⟩:=JtN rfl (((h.take i).inc).filter (inB r w n g));have hd: ∀z∈srt ((l2.take i).filter (inB r w n g)),z.1≠x.1:=λz hz=>by
    have hz:=(List.mem_filter.1 ((V z).1 hz)).1;obtain⟨j,hj⟩:=J5w.1 hz;rw[Jus]at hj;split at hj
    ·have:=h.at hj;omega
    ·cases hj
   have hlen:J0 (srt ((l2.take i).filter (inB r w n g)))<=4096:=by
    grind [J0]
   refine .while (λz=>z.1=l2/\z.2.1=r/\z.2.2.1=w/\z.2.2.2.1=n/\z.2.2.2.2.1=g/\z.2.2.2.2.2.1=false/\z.2.2.2.2.2.2.1=(i:Int)/\z.2.2.2.2.2.2.2.2.2=((r,w,n,g,D,srt ((l2.take i).filter (inB r w n g))),x)) ⟨rfl,rfl,rfl,rfl,rfl,rfl,rfl,rfl⟩ ?_;rintro⟨M,W,t3,I,L,T,i3,k,r3,r4,R⟩ ⟨h1,h2,h3,h4,h5,B,G,C⟩
   (try dsimp only at h1 h2 h3 h4 h5 B G C)
   injection C with C h10;subst h1 h2 h3 h4 h5 B G C h10;unfold JaQ;dsimp only;refine .lt (λ_=>.itf (λ_=>.bind λz hz=>.eq (λc=>absurd c (hd z (J5f hz))) λ_=>.some ⟨rfl,rfl,rfl,rfl,rfl,rfl,rfl,rfl⟩) λc=>by cases c) λ_=>.map (.bind λY J=>.some ⟨rfl,rfl,rfl,rfl,rfl,rfl,i+1,?_,q2,?_⟩)
   ·grind
   ·have:=(JIn (e:=R) (by omega:J0 (srt ((M.take i).filter (inB W t3 I L)))<=16384)).get J
    grind [JzS]
  ·have A:i=l2.length:=by grind [J0]
   have hs:srt ((l2.take i).filter (inB r w n g))=sel l2 r w n g:=by rw[A,List.take_length];rfl
   dsimp only;rw[hs];have ok:=Jfk h hl hn;refine .gt (λc=>by have:=ok.2.1;grind) λ_=>.bind λv hv=>.not (λc=>?_) λ_=>.some rfl
   grind [Jld]
 exact K _ e
theorem JId(h:J2N l){x y:J2}(hx:x∈l)(hy:y∈l)(e:x.1=y.1):x=y:=by
 obtain⟨i,hi⟩:=J5w.1 hx;obtain⟨j,hj⟩:=J5w.1 hy;have a:=h.at hi;have b:=h.at hj
 grind
theorem JA8: ∀{b a:List J2},a.Pairwise ltE->(∀x∈a,∀y∈b,x.1≠y.1)->b.Pairwise (λx y=>x.1≠y.1)->(b.foldl J2t a).Pairwise ltE/\(∀x,x∈b.foldl J2t a↔x∈a\/x∈b)/\(b.foldl J2t a).length=a.length+b.length
 |[],a,ha,_,_=>⟨ha,by simp,rfl⟩
 |y::b,a,ha,hd,hb=>by
  obtain⟨b1,b2⟩:=List.pairwise_cons.1 hb;have hy: ∀x∈a,x.1≠y.1:=λx hx=>hd x hx y List.mem_cons_self;obtain⟨g,e,c3⟩:=JA8 (b:=b) (a:=J2t a y) (JjP ha hy) (λx hx z hz=>by
   grind [Jgd]) b2
  grind [Jgd,Juf]
theorem JgO(h:J2N l)(hl:J0 l<=4096){f t u lo hi g l2:Int}(B:J7M (f,t,lo,hi,g,[]))(C:J7M (t+1,u,lo,hi,l2,[]))(O:J1m g l2<8):
  J0R ((f,t,lo,hi,g,sel l f t lo hi),t+1,u,lo,hi,l2,sel l (t+1) u lo hi)=some ((f,u,lo,hi,J1m g l2+1,sel l f u lo hi),0)/\J0 (sel l f u lo hi)=J0 (sel l f t lo hi)+J0 (sel l (t+1) u lo hi):=by
 have n:=Jfk h hl B;have A:=Jfk h hl C;obtain⟨a1,a2,a3,a4,v,z,F,D⟩:=B;obtain⟨b1,b2,q,M,E,G,K,I⟩:=C
 (try dsimp only at a1 a2 a3 a4 v z F D b1 b2 q M E G K I)
 have mx:=J6I g l2;have H:J7M (f,u,lo,hi,J1m g l2+1,[]):=⟨a1,by grind,q,a4,v,z,by grind,by grind⟩;have k:=Jfk h hl H;obtain⟨s1,U,s3⟩:=Jmt h f t lo hi;obtain⟨p1,S,P⟩:=Jmt h (t+1) u lo hi;obtain⟨q1,q2,q3⟩:=Jmt h f u lo hi;have hd: ∀x∈sel l f t lo hi,∀y∈sel l (t+1) u lo hi,x.1≠y.1:=λx hx y hy=>by
  grind [J8u]
 have hb:(sel l (t+1) u lo hi).Pairwise λx y=>x.1≠y.1:=by
  grind [List.pairwise_iff_getElem,JId,ltE.irr]
 obtain⟨J,f2,N⟩:=JA8 s1 hd hb;have r:(sel l (t+1) u lo hi).foldl J2t (sel l f t lo hi)=sel l f u lo hi:=by
  refine JpI J q1 λx=>?_
  grind [J8u]
 have o:t+1=J1 .i64 t 1:=by grind [Jb]
 have j:=Jyb n A o;change mrg (sel l f t lo hi) (sel l (t+1) u lo hi)=_ at j;rw[show ent (t+1,u,lo,hi,l2,sel l (t+1) u lo hi)=sel l (t+1) u lo hi from rfl,show ent (f,t,lo,hi,g,sel l f t lo hi)=sel l f t lo hi from rfl,r]at j;rw[r]at N;have len:J0 (sel l f u lo hi)=J0 (sel l f t lo hi)+J0 (sel l (t+1) u lo hi):=by grind [J0]
 have ln:J0 (sel l f u lo hi)<=4096:=k.2.1;have mm:=JCA (sel l f t lo hi) (sel l (t+1) u lo hi) (by omega);rw[j]at mm;refine⟨?_,len⟩;have V:=Jb (J0 (sel l f t lo hi)) (J0 (sel l (t+1) u lo hi));have om:=Jb (J1m g l2) 1;have z1:=J4 (l:=sel l f t lo hi);have z2:=J4 (l:=sel l (t+1) u lo hi);have w:Tot (J0R ((f,t,lo,hi,g,sel l f t lo hi),t+1,u,lo,hi,l2,sel l (t+1) u lo hi)) λy=>y=((f,u,lo,hi,J1m g l2+1,sel l f u lo hi),0):=by
  unfold J0R;dsimp only;refine .bind (J03 (J2o n)) λy2 Q=>.nof (λ_=>.bind (J03 (J2o A)) λT R=>.not (λc=>by grind) λ_=>.bind (JET _ _) λy4 d4=>.not (λc=>?_) λ_=>.gef (λ_=>.gt (λc=>by omega) λ_=>.bind (J03 mm) λY L=>?_) λc=>by omega) λc=>by grind
  ·grind
  ·subst L;rw[show J1 .i64 (J1m g l2) 1=J1m g l2+1 by omega];exact .bind (J03 (J2o k)) λZ W=>.not (λc=>by grind) λ_=>.some rfl
 obtain⟨y,e,d⟩:=w;rw[e,d]
end
end Go.Am
end
section
namespace Go.Am
set_option linter.unusedVariables false
set_option maxRecDepth 20000
set_option maxHeartbeats 1000000
section
theorem JEf{c:Jp}{y:JJh}(hf:zFt 16384 1073741824 J7 c)(I:0<=c.2)(h:J3T c=some y):
  ∃(l:List J2) (lo hi i j E l2 C:Int),J2N l/\J0 l<=4096/\(0<=lo/\lo<=hi/\hi<64)/\(1<=i/\i<j/\j<=100)/\y.1=(1,i,lo,hi,E,sel l 1 i lo hi)/\y.2.1=(i+1,j,lo,hi,l2,sel l (i+1) j lo hi)/\y.2.2.1=(j+1,j+20,lo,hi,C,sel l (j+1) (j+20) lo hi):=by
 have P:Par (J3T c) λy=> ∃(l:List J2) (lo hi i j E l2 C:Int),J2N l/\J0 l<=4096/\(0<=lo/\lo<=hi/\hi<64)/\(1<=i/\i<j/\j<=100)/\y.1=(1,i,lo,hi,E,sel l 1 i lo hi)/\y.2.1=(i+1,j,lo,hi,l2,sel l (i+1) j lo hi)/\y.2.2.1=(j+1,j+20,lo,hi,C,sel l (j+1) (j+20) lo hi):=by
  unfold J3T;refine .bind λZ h2=>.bind λk h3=>.bind λn h4=>.bind λe h5=>.bind λg h6=>.bind λF h7=>.bind λy8 T=>.bind λU h9=>.bind λa6 h10=>.bind λY M=>.bind λa8 o=>.some ?_;have V:=(JmJ (B:=16384) (S:=1073741824) (x1:=(30,c)) ⟨J58 .i64 30,hf⟩ I (show(0:Int)<=30 by decide) (show(30:Int)<=1000 by decide)).get h2;have J:=JDD hf I h2;have r:=(Jj (B:=16384) (S:=1073741824) (x1:=(3,Z.2.2)) ⟨J58 .i64 3,V.1.2.2⟩ V.2).get h3;have w:=(Jj (B:=16384) (S:=1073741824) (x1:=(4,k.2)) ⟨J58 .i64 4,r.1.2⟩ r.2.2.2).get h4;have A:=(Jj (B:=16384) (S:=1073741824) (x1:=(15,n.2)) ⟨J58 .i64 15,w.1.2⟩ w.2.2.2).get h5;have v:=(Jj (B:=16384) (S:=1073741824) (x1:=(15,e.2)) ⟨J58 .i64 15,A.1.2⟩ A.2.2.2).get h6;have x:=(Jj (B:=16384) (S:=1073741824) (x1:=(3,g.2)) ⟨J58 .i64 3,v.1.2⟩ v.2.2.2).get h7;have D:=(Jj (B:=16384) (S:=1073741824) (x1:=(3,F.2)) ⟨J58 .i64 3,x.1.2⟩ x.2.2.2).get h9;have O:=(Jj (B:=16384) (S:=1073741824) (x1:=(9,U.2)) ⟨J58 .i64 9,D.1.2⟩ D.2.2.2).get M;obtain⟨_,p3,q3,_⟩:=r;obtain⟨_,p4,R,_⟩:=w;obtain⟨_,p5,N,_⟩:=A;obtain⟨_,p6,K,_⟩:=v;obtain⟨_,p7,H,_⟩:=x;obtain⟨_,p9,G,_⟩:=D;obtain⟨_,a7,q,_⟩:=O;replace q3:k.1<3:=q3 (show(1:Int)<=3 by decide);replace R:n.1<4:=R (show(1:Int)<=4 by decide);replace N:e.1<15:=N (show(1:Int)<=15 by decide);replace K:g.1<15:=K (show(1:Int)<=15 by decide);replace H:F.1<3:=H (show(1:Int)<=3 by decide);replace G:U.1<3:=G (show(1:Int)<=3 by decide);replace q:Y.1<9:=q (show(1:Int)<=9 by decide);have hc:=J.1.2;have hl:=J.1.1.2.2.2;have e1:J1 .i64 1 e.1=1+e.1:=by grind [Jb]
  have e2:J1 .i64 (1+e.1) 1=1+e.1+1:=by grind [Jb]
  have W:J1 .i64 (1+e.1+1) g.1=1+e.1+1+g.1:=by grind [Jb]
  have e4:J1 .i64 (1+e.1+1+g.1) 1=1+e.1+1+g.1+1:=by grind [Jb]
  have e5:J1 .i64 (1+e.1+1+g.1) 20=1+e.1+1+g.1+20:=by grind [Jb]
  have z:J1 .i64 k.1 n.1=k.1+n.1:=by grind [Jb]
  rw[e1,z]at T;rw[e1,e2,W,z]at h10;rw[e1,e2,W,e4,e5,z]at o;have m8:=Jpl hc hl ⟨by simp_all,by grind,by grind,by simp_all,by grind,by grind,by simp_all,by grind⟩ T;have Q:=Jpl hc hl ⟨by grind,by grind,by grind,by simp_all,by grind,by grind,by simp_all,by grind⟩ h10;have L:=Jpl hc hl ⟨by grind,by simp_all,by grind,by simp_all,by grind,by grind,by simp_all,by grind⟩ o;exact⟨Z.2.1.2.1,k.1,k.1+n.1,1+e.1,1+e.1+1+g.1,_,_,_,hc,hl,by omega,by omega,by rw[m8],by rw[Q],by rw[L]⟩
 exact P _ h
theorem Jfv{f t lo hi lv:Int}(h1:1<=f)(h2:f<=t)(h3:t<=100000)(h4:0<=lo)(h5:lo<=hi)(e:hi<64)(h:0<=lv)(g:lv<=8):J7M (f,t,lo,hi,lv,[]):=⟨h1,h2,by grind,h4,h5,e,h,g⟩
theorem JCJ{e:List Int}{y:Jp}(w0:Ty.inR (.l (.i .u8)) e)(h:J4m (e,400)=some y):zFt 16384 1073741824 J7 y/\0<=y.2:=by
 have g:zFt (J0 e) 0 (.l (.i .u8)) e:=⟨J0F _,λa ha=>by
  grind [Jmj,Ty.inR,IntKind.min,IntKind.max,IntKind.signed,IntKind.bits]⟩
 have j:0<=J0 e:=J4;have h3:=(Jla (B:=J0 e) (S:=0) (x1:=(e,400)) ⟨g,J58 .i64 400⟩ (show(0:Int)<=400 by decide)).get h;obtain⟨k,n⟩:=JGU h;exact⟨⟨⟨by grind,λa ha=>h3.1.1.2 a ha⟩,h3.1.2⟩,by omega⟩
theorem JD3{g:List Int}(w0:Ty.inR (.l (.i .u8)) g):Tot (J4m (g,400)) λy=>zFt 16384 1073741824 J7 y/\0<=y.2:=by
 have h:zFt (J0 g) 0 (.l (.i .u8)) g:=⟨J0F _,λa ha=>by
  grind [Jmj,Ty.inR,IntKind.min,IntKind.max,IntKind.signed,IntKind.bits]⟩
 have j:0<=J0 g:=J4;obtain⟨y,e,_⟩:=Jla (B:=J0 g) (S:=0) (x1:=(g,400)) ⟨h,J58 .i64 400⟩ (show(0:Int)<=400 by decide);exact⟨y,e,JCJ w0 e⟩
theorem Jdk(r:JF):Tot (J33 r) λy=>y=(r.1,r.2.1,r.2.2.1,r.2.2.2.1,0,r.2.2.2.2.2):=⟨_,rfl,rfl⟩
theorem Jzz(r:JF)(h:J0 r.2.2.2.2.2<=4096):Tot (J83 (r,r)) λy=>y=true:=by unfold J83;exact .eq (λ_=>.eq (λ_=>.eq (λ_=>.eq (λ_=>.eq (λ_=>.bind (J03 (JCU _ h)) λy d=>.some d) λc=>absurd rfl c) λc=>absurd rfl c) λc=>absurd rfl c) λc=>absurd rfl c) λc=>absurd rfl c
theorem JeK{v:List Int}{x1:Int}(w0:Ty.inR (.l (.i .u8)) v)(w1:Ty.inR (.i .u8) x1):J4k (v,x1)=some true:=by
 have M:Tot (J4k (v,x1)) λy=>y=true:=by
  have q1:0<=x1/\x1<=255:=by
   grind [Ty.inR,IntKind.min,IntKind.max,IntKind.signed,IntKind.bits]
  unfold J4k;dsimp only;refine .bind (J03 JAT) λy2 T=>.not (λc=>by simp_all) λ_=>.bind (JD3 w0) λW h3=>.bind ((Jsi (B:=16384) (S:=1073741824) h3.1 h3.2).eqn) λN h4=>?_;obtain⟨l,lo,hi,i,j,l1,l2,l3,hc,hl,⟨a1,a2,a3⟩,⟨b1,b2,b3⟩,e1,e2,Q⟩:=JEf h3.1 h3.2 h4.2;obtain⟨ra,rb,rd,cd⟩:=N
  (try dsimp only at e1 e2 Q)
  subst e1 e2 Q;refine .bind (Jdk _) λy5 d5=>.bind (Jdk _) λy6 Z=>.bind (Jdk _) λy7 Y=>?_;subst d5 Z Y;dsimp only;have G:=λn (h1:0<=n) (h2:n<=8)=>Jfv (f:=1) (t:=i) (lv:=n) (by decide) b1 (by omega) a1 a2 a3 h1 h2;have H:=Jfv (f:=i+1) (t:=j) (lv:=0) (by omega) (by omega) (by omega) a1 a2 a3 (by decide) (by decide);have J:=Jfv (f:=j+1) (t:=j+20) (lv:=0) (by omega) (by omega) (by omega) a1 a2 a3 (by decide) (by decide);have F:=Jfv (f:=1) (t:=j) (lv:=1) (by omega) (by omega) (by omega) a1 a2 a3 (by decide) (by decide);have D:=Jfv (f:=i+1) (t:=j+20) (lv:=1) (by omega) (by omega) (by omega) a1 a2 a3 (by decide) (by decide);have q:=Jfv (f:=1) (t:=j+20) (lv:=2) (by omega) (by omega) (by omega) a1 a2 a3 (by decide) (by decide);have m1:=(JgO hc hl (G 0 (by decide) (by decide)) H (show J1m 0 0<8 by decide)).1;have m2:=(JgO hc hl F J (show J1m 1 0<8 by decide)).1;have I:=(JgO hc hl H J (show J1m 0 0<8 by decide)).1;have E:=(JgO hc hl (G 0 (by decide) (by decide)) D (show J1m 0 1<8 by decide)).1;change _=some ((1,j,lo,hi,1,_),0)at m1;change _=some ((1,j+20,lo,hi,2,_),0)at m2;change _=some ((i+1,j+20,lo,hi,1,_),0)at I;change _=some ((1,j+20,lo,hi,2,_),0)at E;refine .bind (J03 m1) λy8 d8=>?_;subst d8;refine .bind (J03 m2) λy9 d9=>.bind (J03 I) λab R=>?_;subst d9 R;refine .bind (J03 E) λaf z=>?_;subst z;refine .nef (λ_=>.nef (λ_=>.nef (λ_=>.nef (λ_=>?_) λc=>absurd rfl c) λc=>absurd rfl c) λc=>absurd rfl c) λc=>absurd rfl c;refine .bind (Jdk _) λae L=>.bind (Jdk _) λal w=>?_;subst L w;have h:=Jfk hc hl q;refine .bind (Jzz _ h.2.1) λag ah=>.not (λc=>by simp_all) λ_=>.eq (λ_=>.some rfl) λcp=>?_
  (try dsimp only at cp⊢)
  have s1:=J0o hi lo;have s2:=JAr x1;have s3:=Jb lo 1;refine .bind (Jlv (k:=.i64) (B:=0) (S:=0) (x:=cvI .i64 x1) (y:=JH .i64 hi lo) JbI (by omega)) λg o=>?_;have r0:=o.2.1 (by omega);have r1:=o.2.2 (by omega);have s4:=Jb (J1 .i64 lo 1) g;have ep:J1 .i64 (J1 .i64 lo 1) g=lo+1+g:=by omega
  rw[ep];have p1:lo<lo+1+g:=by omega
  have U:lo+1+g<=hi:=by omega
  generalize lo+1+g=p at p1 U;generalize hr:((1,j+20,lo,hi,2,sel l 1 (j+20) lo hi):JF)=r at h;have V:r.1=1/\r.2.1=j+20/\r.2.2.1=lo/\r.2.2.2.1=hi/\r.2.2.2.2.1=2:=by grind
  obtain⟨am,ac,ak,ai,ad⟩:=V;refine .bind (JFs h (by grind [J3]) (by omega) (by omega)) λan ⟨k,P,C⟩=>?_;subst C;have A:=JHH h P (by omega) (by omega);have K:=JEt h P (by omega) (by omega);have ln:J0 (ent r)<=4096:=h.2.1;have lk:J0 ((ent r).take k)+J0 ((ent r).drop k)=J0 (ent r):=by grind [J76,List.take_append_drop]
  have z1:=J4 (l:=(ent r).take k);have z2:=J4 (l:=(ent r).drop k);have ol:=Jb (J0 ((ent r).take k)) (J0 ((ent r).drop k));have op:=Jb (p-1) 1;have ec:J3a [(ent r).take k,(ent r).drop k]=some (ent r):=by
   show(if((ent r).take k).length+((ent r).drop k).length<=8192 then some ((ent r).take k++(ent r).drop k)else none)=_
   grind [J0,List.take_append_drop]
  have jn:Tot (J7j (JAO r p k,Jt1 r p k)) λy=>y=(r,0):=by
   unfold J7j;refine .bind (J03 (J2o A)) λy2 T=>.nof (λ_=>.bind (J03 (J2o K)) λW d3=>.not (λc=>by simp_all) λ_=>.nef (λ_=>.nef (λ_=>.nef (λ_=>.ne (λc=>absurd (show p=J1 .i64 (p-1) 1 by omega) c) λ_=>.gt (λc=>absurd c (show¬4096<J1 .i64 (J0 ((ent r).take k)) (J0 ((ent r).drop k)) by omega)) λ_=>.bind (J03 ec) λN d4=>.some ?_) λc=>absurd rfl c) λc=>absurd rfl c) λc=>absurd rfl c) λc=>by simp_all
   subst d4;rfl
  refine .bind jn λaj O=>?_;subst O;exact .eq (λ_=>.eq (λ_=>.bind (Jzz _ ln) λy d=>.some d) λc=>absurd rfl c) λc=>absurd rfl c
 obtain⟨y,e,d⟩:=M;rw[e,d]
end
end Go.Am
end
section
namespace Go.Am
set_option maxRecDepth 20000
def lkA{α:Type}(f:FuncId):List (FuncId×α)->Option α
 |[]=>none
 |(g,a)::r=>if f=g then some a else lkA f r
noncomputable def JBz:List (FuncId×AFn):=[(8,erF JAP),(24,erF JfV),(64,erF JlX),(54,erF Jjp),(53,erF JwS),(42,erF Jov),(25,erF JhU),(50,erF Jo8),(71,erF JhL),(70,erF JnJ),(61,erF Jp3),(60,erF JuT),(59,erF Jkw),(62,erF Jk9),(63,erF Jkr),(51,erF Jra),(40,erF Jre),(39,erF JmR),(52,erF JmY),(41,erF Jrh),(23,erF JuV),(11,erF Jjw),(7,erF JrQ),(10,erF JrU)]
noncomputable def JBH:List (FuncId×AFn):=[(20,erF J94),(98,erF Jjn),(99,erF JkV),(85,erF Jho),(68,erF Jjy),(57,erF Jf2),(75,erF Jns),(66,erF JxB),(74,erF JxI),(72,erF JyE),(73,erF Jya),(65,erF Jye),(55,erF JyP),(49,erF JnN),(69,erF Jjs),(58,erF Jsp),(48,erF Jsv),(36,erF JrR),(47,erF Jvi),(46,erF Jr9),(33,erF Jrd),(34,erF JtP),(84,erF JnL),(177,erF Jqy)]
noncomputable def JAm:List (FuncId×AFn):=[(130,erF JrL),(131,erF JtK),(100,erF Jr8),(118,erF JsN),(188,erF Jkg),(208,erF JsM),(209,erF JuS),(210,erF Jv6),(162,erF Jsb),(191,erF JqL),(190,erF Jme),(138,erF Jro),(106,erF JsG),(211,erF JyD),(163,erF JqY),(164,erF JhB),(117,erF Jrl),(94,erF Jsa),(86,erF Js9),(76,erF JqF),(37,erF Jmu),(153,erF Jog),(154,erF JyS),(199,erF JxG)]
noncomputable def JBF:List (FuncId×AFn):=[(156,erF Jwi),(152,erF Ju8),(196,erF Jnk),(197,erF Jyl),(198,erF Jnt),(155,erF Ju1),(107,erF Jug),(89,erF JuN),(104,erF JxM),(121,erF JwX),(113,erF JxW),(140,erF Jyt),(151,erF Jow),(195,erF JlD),(150,erF Jot),(149,erF JqA),(112,erF JnQ),(148,erF JqC),(111,erF JC0),(91,erF Jtz),(80,erF JhQ),(105,erF Jqv),(88,erF Jri),(142,erF Jy1)]
noncomputable def JBC:List (FuncId×AFn):=[(139,erF JqM),(141,erF JsA),(108,erF JoL),(144,erF JvM),(193,erF JmT),(145,erF Jrn),(231,erF Jqr),(192,erF JrB),(143,erF JnX),(146,erF Jux),(109,erF Jsr),(194,erF JyK),(147,erF Js2),(110,erF JmL),(90,erF Jsm),(79,erF Js5),(171,erF Jxa),(218,erF Jxr),(219,erF Jv2),(170,erF Jnb),(127,erF JmO),(126,erF JlH),(128,erF Jwo),(173,erF Jss)]
noncomputable def JBb:List (FuncId×AFn):=[(172,erF JlN),(176,erF Jxb),(220,erF Jpw),(174,erF JxK),(221,erF JBE),(175,erF Jn7),(129,erF Jx0),(97,erF JuC),(125,erF JoJ),(96,erF JwW),(166,erF JyR),(120,erF Jw8),(203,erF JxC),(239,erF Jrb),(214,erF JoA),(215,erF Jy4),(167,erF Jkq),(122,erF Jsk),(169,erF JxZ),(124,erF JoG),(217,erF JrS),(243,erF Jrg),(240,erF JuZ),(216,erF Jst)]
noncomputable def JCe:List (FuncId×AFn):=[(168,erF JwP),(123,erF Juq),(213,erF JtG),(212,erF Jop),(165,erF Jvh),(119,erF JwN),(95,erF Jqi),(83,erF Jw2),(81,erF Jnl),(135,erF Jli),(189,erF Jv7),(136,erF Jyc),(102,erF Jlt),(226,erF Jqt),(184,erF JlE),(228,erF JmE),(229,erF JaW),(186,erF JqQ),(225,erF Jp0),(182,erF JuA),(181,erF JtA),(230,erF Jrv),(187,erF JxH),(227,erF JyU)]
noncomputable def JBi:List (FuncId×AFn):=[(185,erF Joc),(179,erF JnI),(223,erF JpB),(224,erF JmQ),(180,erF JrP),(183,erF Jxs),(222,erF Jod),(178,erF Jm6),(132,erF JAL),(133,erF JmV),(134,erF JkG),(101,erF JCd),(137,erF JuX),(103,erF Jx2),(87,erF JAI),(78,erF JgQ),(114,erF Jwk),(200,erF Jrz),(232,erF Jtu),(201,erF Jny),(158,erF JsL),(157,erF Jvu),(115,erF JqE),(92,erF Jrr)]
noncomputable def JB2:List (FuncId×AFn):=[(202,erF JmZ),(235,erF Jgq),(233,erF JfF),(234,erF Jhk),(204,erF JpD),(159,erF Jui),(242,erF JtZ),(238,erF Jun),(207,erF Js7),(245,erF JnZ),(246,erF Jfb),(247,erF Jhr),(244,erF Jo2),(241,erF Jps),(236,erF Jpv),(205,erF Jqx),(237,erF Jsy),(206,erF Jxk),(160,erF Jm8),(161,erF JqG),(116,erF JtI),(93,erF Jwq),(82,erF JeN),(77,erF Jfe)]
noncomputable def JCk:List (FuncId×AFn):=[(67,erF Jf5),(56,erF Jyu),(45,erF JgJ),(32,erF Jhj),(21,erF JAZ),(43,erF Jmr),(38,erF JoN),(35,erF JmW),(29,erF Jr6),(22,erF JtF),(9,erF JrX),(3,erF Jdr),(17,erF Jl5),(27,erF Jgu),(26,erF J7G),(12,erF Jjm),(13,erF Jht),(19,erF Jxz),(6,erF JeO)]
noncomputable def fns:List (FuncId×AFn):=JBz++(JBH++(JAm++(JBF++(JBC++(JBb++(JCe++(JBi++(JB2++(JCk)))))))))
noncomputable def fks:List (FuncId×J9N):=[(28,Jie J5 128)]
noncomputable def fps:List (FuncId×Prm):=[(31,Jj2 13)]
abbrev PS:=FuncId->Option (List AV->List Blk->Option Res)
noncomputable def JEu(p:PS):J4c:=λf=>JIV (lkA f fns) (lkA f fks) (lkA f fps) (p f)
def AE(l:List TE):Prop:= ∀p,Jnd (AF (JEu p)) l
theorem ae0:AE []:=λ_=>trivial
theorem stp{i g S l f}(hf: ∀p,JEu p i=some (.fn (erF f)))(A:AE l)(q: ∀x,onO (JeR g x) (λy=>JkQ (TG.of l) f y.1 y.2 (Jbt g))=S x)(hs:JhH g=true:=by rfl):AE (sigE i g S::l):=λp=>⟨JGG (hf p) (A p) hs q,A p⟩
end Go.Am
end
