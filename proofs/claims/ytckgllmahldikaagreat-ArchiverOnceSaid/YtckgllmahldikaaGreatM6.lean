/-
  Parts of a proof.
-/
import Derived.Test.YtckgllmahldikaaGreatM3
import Derived.Test.YtckgllmahldikaaGreatM5
set_option linter.unusedSimpArgs false
set_option linter.unusedVariables false
set_option linter.unusedSectionVars false
set_option maxRecDepth 20000
set_option maxHeartbeats 1000000
section
namespace Go.Am
section
variable {B S:Int}
def cH(l:List aA)(p:Int):Int:=l.foldl (λa e=>if(e.2.1=1\/e.2.1=2)/\aT e=p then e.1 else a) 0
theorem DE(l:List aA)(e:aA)(p:Int):cH (l++[e]) p=if(e.2.1=1\/e.2.1=2)/\aT e=p then e.1 else cH l p:=by simp[cH]
theorem DR{l:List aA}{e:aA}{p:Int}(h: ¬((e.2.1=1\/e.2.1=2)/\aT e=p)):cH (l++[e]) p=cH l p:=by
 grind [DE]
structure Rel(l:List aA)(n:Int)(fr:List aI)(lk rows:List aB):Prop where
 rng: ∀f∈fr,0<=f.1.1/\f.1.1<n
 one:fr.Pairwise λa b=>a.1.1≠b.1.1
 apt: ∀f∈fr,∀d∈lk,d.1≠f.1.1
 hot: ∀f∈fr,f.1.2.1=cH l f.1.1/\(f.2.1=false-> ∀r,idx rows f.1.1=some r->r.1=cH l f.1.1)
 lak: ∀d∈lk,d.2.2=cH l d.1
 row: ∀p r,idx rows p=some r->r.1<=cH l p/\((∀f∈fr,f.1.1≠p)->(∀d∈lk,d.1≠p)->r.1=cH l p)
 pgs:(1<=n/\n<=64)/\ ∀e∈l,(e.2.1=1\/e.2.1=2)->aT e<n
def dv(m:List aA)(s:qQC):Prop:= ∀c,wY s=some (c,0)->Rel m c.1 [] c.2.2.2.1 c.2.2.2.2
def SV(m:List aA)(e:aA):Prop:=e.1=J0 m+1/\Jl e=some true/\((e.2.1=1\/e.2.1=2)->e.2.2.2.2.1=cH m (aT e))/\(e.2.1=7->e.2.2.2.2.2.1<=cH m (aT e))/\(e.2.1=6->dv m e.2.2.2.2.2.2.2)
def dJ(l:List aA):Prop:= ∀(i:Nat) e,l[i]?=some e->SV (l.take i) e
def iC(l:JG):Prop:=l.1=1/\0<=l.2.2/\l.2.2<=J0 l.2.1/\J0 l.2.1<=4096
def JH(k:J6):Prop:=iC k.2.2.1/\dJ k.2.2.1.2.1/\Rel k.2.2.1.2.1 k.1 k.2.2.2.1.2.1 k.2.2.2.2.2.2.2 k.2.2.2.2.2.2.1
theorem dJ.app{l:List aA}{e:aA}(h:dJ l)(he:SV l e):dJ (l++[e]):=by
 intro i x g;by_cases hi:i<l.length;rw[BJ hi]at g;rw[List.take_append_of_le_length (Nat.le_of_lt hi)];exact h i x g;grind
theorem dJ.take{l:List aA}(h:dJ l)(n:Nat):dJ (l.take n):=by
 intro i x e;rw[QJ]at e;split at e;rename_i hi;rw[List.take_take,Nat.min_eq_left (Nat.le_of_lt hi)];exact h i x e;cases e
theorem zg{l:List aA}(h:dJ l)(p:Int):0<=cH l p/\cH l p<=J0 l:=by
 have g: ∀n:Nat,0<=cH (l.take n) p/\cH (l.take n) p<=J0 l:=by
  intro n
  induction n with
  |zero=>exact⟨aZ _,J8⟩
  |succ n ih=>
   rw[List.take_add_one];cases hn:l[n]? with
   |none=>simpa using ih
   |some e=>
    have hl:=iU hn;have j:=(h n e hn).1;grind [J0,DE]
 have:=g l.length;simp_all
theorem OJ{l:List aA}{n:Int}{e:aA}(h:(1<=n/\n<=64)/\ ∀e∈l,(e.2.1=1\/e.2.1=2)->aT e<n)(he:(e.2.1=1\/e.2.1=2)->aT e<n):(1<=n/\n<=64)/\ ∀x∈l++[e],(x.2.1=1\/x.2.1=2)->aT x<n:=⟨h.1,λx g=>(zQ9.1 g).elim (h.2 x) λg=>by rw[eO.1 g];exact he⟩
theorem Rel.ent{l:List aA}{n:Int}{fr:List aI}{lk rows:List aB}(h:Rel l n fr lk rows){e:aA}(he: ¬(e.2.1=1\/e.2.1=2)):Rel (l++[e]) n fr lk rows:=by have k: ∀p,cH (l++[e]) p=cH l p:=λp=>DR λh=>he h.1;exact⟨h.rng,h.one,h.apt,by simpa only[k]using h.hot,by simpa only[k]using h.lak,by simpa only[k]using h.row,OJ h.pgs λc=>absurd c he⟩
def upw{α:Type}(P:α->Prop)(l:List α)(i:Int):Prop:=i<=9223372036854775807/\(0<=i->QI P l i)
theorem HB{α:Type}{P:α->Prop}{l:List α}:upw P l 0:=⟨by decide,λ_=>JQm⟩
theorem CZ{α:Type}{P:α->Prop}{l:List α}{i:Int}{x:α}(h:upw P l i)(e:idx l i=some x)(hx:P x):upw P l (J1 .i64 i 1):=by have o:=Jd i 1;obtain⟨g,_⟩:=bU e;have h1:=h.1;refine⟨by omega,λh2=>JJf (h.2 g) e hx oo⟩
theorem IJ{α:Type}{P:α->Prop}{l:List α}{i:Int}(h:upw P l i)(hi: ¬i<J0 l): ∀x∈l,P x:=JK1 (h.2 (by have:=J8 (l:=l);omega)) hi
theorem pP{α:Type}{l:List α}{i:Int}{x:α}(e:idx l i=some x):x∈l:=zQ5 (bU e).2
theorem xd{α:Type}{l r:List α}{k:Int}(h:bE l (some k) none=some r):0<=k/\r=l.drop k.toNat:=by
 have g:0<=k:=by grind [bE,sA,uU]
 have h1:k<=J0 l:=by grind [bE,sA,uU,J0]
 obtain⟨r',e,d,_⟩:=NN g h1;simp_all
theorem Ke{α:Type}{l r:List α}{k:Int}(h:bE l none (some k)=some r):0<=k/\k<=J0 l/\r=l.take k.toNat:=by
 grind [bE,sA,uU,J0]
theorem NU{α:Type}{b:Nat}{l r:List α}(h:cI b l=some r):r=l:=by grind [cI]
theorem hC{α:Type}{b:Nat}{l m r:List α}(h:JB b l m=some r):r=l++m:=by grind [JB]
theorem lm{l:JG}{y:Bool}(e:JY l=some y)(c:y=true):1<=l.1/\l.1<=1099511627776/\J0 l.2.1<=4096:=by
 have g:Par (JY l) λy=>y=true->1<=l.1/\l.1<=1099511627776/\J0 l.2.1<=4096:=.j (λj=>.k (λh=>.k (λk=>.j (λ_=>.b λ_ _=>.i (λ_=>.s nofun) λ_=>λ_ _ _=>⟨by omega,by omega,by omega⟩) λ_=>.s nofun) λ_=>.s nofun) λ_=>.s nofun) λ_=>.s nofun
 exact g _ e c
theorem NM{l:JG}{n:Int}(h:iZ l=some n)(h1:1<=l.1)(h2:l.1<=1099511627776)(h3:J0 l.2.1<=4096):n=l.1+J0 l.2.1-1:=by
 grind [iZ,Jd,J0,bI]
theorem JKx{l:JG}{e:aA}{y:BU}(h:gP (l,e)=some y)(c:y.2.2=0)(hl:l.1=1):y.1=(l.1,l.2.1++[(J0 l.2.1+1,e.2)],l.2.2)/\y.2.1=J0 l.2.1+1/\Jl (J0 l.2.1+1,e.2)=some true/\J0 l.2.1+1<=4096:=by
 have g:Par (gP (l,e)) λy=>y.2.2=0->y.1=(l.1,l.2.1++[(J0 l.2.1+1,e.2)],l.2.2)/\y.2.1=J0 l.2.1+1/\Jl (J0 l.2.1+1,e.2)=some true/\J0 l.2.1+1<=4096:=(by unfold gP;dsimp only;refine .b λA h2=>.n (λ_=>.s nofun) λj=>.p (λo=>.b λq G=>.e (λ_=>.s nofun) λ_=>.b λx C=>.b λv D=>.n (λ_=>.s nofun) λk=>.b λw z=>.b λn r=>.s λ_=>?_) λ_=>.s nofun;subst k;obtain⟨E,F,B⟩:=lm h2 j;grind [NM,Jd,J0,hC,NU]);exact g _ h c
theorem WL{l:JG}{n:Int}{y:jG}(h:iM (l,n)=some y)(c:y.2=0):y.1.2.1=l.2.1/\(iC l->iC y.1):=by
 have e:Par (iM (l,n)) λy=>y.2=0->y.1.2.1=l.2.1/\(iC l->iC y.1):=(by unfold iM;refine .b λ_ h2=>.n (λ_=>.s nofun) λg=>.b λm q=>.g (λ_=>.s nofun) λr=>.s λ_=>⟨rfl,λhi=>⟨hi.1,?_⟩⟩;obtain⟨k,o,j⟩:=lm h2 g;have:=NM q k o j;obtain⟨i1,i2,i3,i4⟩:=hi;have:=pO l.2.2 n;grind);exact e _ h c
abbrev eZ:aA:=(0,0,0,0,0,0,(0,0,(false,[]),false,[]),[])
theorem JRE:Jl eZ=some false:=rfl
theorem JNg{l:JG}{n:Int}{y:yJ}(h:eM (l,n)=some y):(y.2=0/\idx l.2.1 (Jn .i64 n l.1)=some y.1)\/(y.2≠0/\y.1=eZ):=by
 have e:Par (eM (l,n)) λy=>(y.2=0/\idx l.2.1 (Jn .i64 n l.1)=some y.1)\/(y.2≠0/\y.1=eZ):=.b λ_ _=>.n (λ_=>.s (.inr ⟨by decide,rfl⟩)) λ_=>.j (λ_=>.b λ_ _=>.g (λ_=>.s (.inr ⟨by decide,rfl⟩)) λ_=>.b λ_ h=>.s (.inl ⟨rfl,h⟩)) λ_=>.s (.inr ⟨by decide,rfl⟩)
 exact e _ h
theorem zE{p:JL}{id y:Int}(h:iY (p,id)=some y):y<=9223372036854775807/\(0<=y-> ∃f,idx p.2.1 y=some f/\f.1.1=id)/\(y<0-> ∀f∈p.2.1,f.1.1≠id):=by
 have j:Par (iY (p,id)) λy=>y<=9223372036854775807/\(0<=y-> ∃f,idx p.2.1 y=some f/\f.1.1=id)/\(y<0-> ∀f∈p.2.1,f.1.1≠id):=(by unfold iY;refine .z (λz=>z.1=id/\z.2.2=p/\upw (λf:aI=>f.1.1≠id) p.2.1 z.2.1) ⟨rfl,rfl,HB⟩ ?_;rintro⟨a,i,q⟩ ⟨rfl,rfl,g⟩;unfold YT;refine .l (λc=>.b λf hf=>.e (λe=>.s ⟨g.1,λ_=>⟨f,hf,e⟩,λh=>?_⟩) λe=>.s ⟨rfl,rfl,CZ g hf e⟩) λc=>.s ⟨by decide,λh=>absurd h qQH,λ_=>IJ g c⟩;have:=(bU hf).1;grind);exact j _ h
theorem jk{p:JL}{id y:Int}(h:hX (p,id)=some y):(0<=y-> ∃f,idx p.2.1 y=some f/\f.1.1=id)/\(y<0->JU p=some true-> ∀f∈p.2.1,f.1.1≠id):=by
 have e:Par (hX (p,id)) λy=>(0<=y-> ∃f,idx p.2.1 y=some f/\f.1.1=id)/\(y<0->JU p=some true-> ∀f∈p.2.1,f.1.1≠id):=by unfold hX;refine .b λv j=>.n (λc=>.s ⟨λh=>absurd h qQH,λ_ h=>?_⟩) λ_=>.b λg h2=>.s ⟨(zE h2).2.1,λh _=>(zE h2).2.2 h⟩;simp_all
 exact e _ h
theorem CV{p:JL}{id:Int}{y:JV×Bool}(h:mO (p,id)=some y):(y.2=true-> ∃f∈p.2.1,f.1=y.1/\f.1.1=id)/\(y.2=false->JU p=some true-> ∀f∈p.2.1,f.1.1≠id):=by
 have e:Par (mO (p,id)) λy=>(y.2=true-> ∃f∈p.2.1,f.1=y.1/\f.1.1=id)/\(y.2=false->JU p=some true-> ∀f∈p.2.1,f.1.1≠id):=(by unfold mO;refine .b λi hi=>.l (λc=>.s ⟨nofun,λ_=>(jk hi).2 c⟩) λc=>.b λf hf=>.s ⟨λ_=>?_,nofun⟩;obtain⟨g,h1,h2⟩:=(jk hi).1 oo;grind [pP]);exact e _ h
end
section
variable {B S:Int} {l l':List aA} {n:Int} {fr:List aI} {lk lk' rows rows':List aB} {f f':aI} {i:Int}
theorem Lh(h:fr.Pairwise λa b=>a.1.1≠b.1.1){i j:Nat}{a b:aI}(ha:fr[i]?=some a)(hb:fr[j]?=some b)(e:a.1.1=b.1.1):i=j:=by
 grind [List.pairwise_iff_getElem]
theorem JL4(hf:idx fr i=some f)(e:f'.1.1=f.1.1)(h:fr.Pairwise λa b=>a.1.1≠b.1.1){x:aI}(hx:x∈fr.set i.toNat f'):x=f'\/(x∈fr/\x.1.1≠f.1.1):=by
 obtain⟨g,hf⟩:=bU hf;grind [List.mem_iff_getElem?,Lh]
theorem Rel.upd(h:Rel l n fr lk rows)(hf:idx fr i=some f)(k:f'.1.1=f.1.1)(ho: ∀q,q≠f.1.1->cH l' q=cH l q)(hr: ∀q,q≠f.1.1->idx rows' q=idx rows q)(h1:f'.1.2.1=cH l' f.1.1)
  (h2:f'.2.1=false-> ∀r,idx rows' f.1.1=some r->r.1=cH l' f.1.1) (h3: ∀r,idx rows' f.1.1=some r->r.1<=cH l' f.1.1) (h4:(1<=n/\n<=64)/\ ∀e∈l',(e.2.1=1\/e.2.1=2)->aT e<n):Rel l' n (fr.set i.toNat f') lk rows':=by
 have w:=pP hf;have hs: ∀{x:aI},x∈fr.set i.toNat f'->x=f'\/(x∈fr/\x.1.1≠f.1.1):=λg=>JL4 hf k h.one g;have C:f'∈fr.set i.toNat f':=(by obtain⟨z,hf⟩:=bU hf;grind [List.mem_set]);refine⟨λx g=>?_,?_,λx g d hd=>?_,λx g=>?_,λd hd=>?_,λp r hp=>?_,h4⟩;rcases hs g with rfl|⟨g,_⟩;rw[k];exact h.rng _ w;exact h.rng _ g;have q:=h.one;obtain⟨z,hf⟩:=bU hf;grind [List.pairwise_iff_getElem];rcases hs g with rfl|⟨g,_⟩;rw[k];exact h.apt _ w d hd;exact h.apt _ g d hd;rcases hs g with rfl|⟨g,o⟩;grind;rw[ho _ o,hr _ o];exact h.hot _ g;rw[h.lak d hd,ho];exact h.apt _ w d hd;by_cases v:p=f.1.1;grind;rw[hr _ v]at hp;obtain⟨A,B⟩:=h.row p r hp;rw[ho _ v];refine⟨A,λa b=>B (λx g e=>?_) b⟩;have y:x∈fr.set i.toNat f':=(by obtain⟨z,hf⟩:=bU hf;obtain⟨j,D⟩:=fA.1 g;refine zQ5 (i:=j) ?_;grind);exact a x y e
theorem Rel.drop(h:Rel l n fr lk rows)(hf:idx fr i=some f)(hc:f.2.1=false):Rel l n (fr.eraseIdx i.toNat) lk rows:=by
 have j: ∀{x:aI},x∈fr.eraseIdx i.toNat->x∈fr:=λg=>(List.eraseIdx_sublist fr i.toNat).subset g;refine⟨λx g=>h.rng x (j g),h.one.sublist (List.eraseIdx_sublist fr i.toNat),λx g=>h.apt x (j g),λx g=>h.hot x (j g),h.lak,λp r hp=>?_,h.pgs⟩;obtain⟨o,q⟩:=h.row p r hp;refine⟨o,λa b=>?_⟩;by_cases k:p=f.1.1;subst k;exact(h.hot f (pP hf)).2 hc r hp;refine q (λx g e=>?_) b;obtain⟨v,hf⟩:=bU hf;grind [List.mem_iff_getElem?,List.mem_eraseIdx_iff_getElem?]
theorem Rel.add(h:Rel l n fr lk rows)(hn: ∀x∈fr,x.1.1≠f.1.1)(hr:0<=f.1.1/\f.1.1<n)(h1:f.1.2.1=cH l f.1.1)(h2:f.2.1=false-> ∀r,idx rows f.1.1=some r->r.1=cH l f.1.1)
  (hs: ∀d,d∈lk'↔d∈lk/\d.1≠f.1.1):Rel l n (fr++[f]) lk' rows:=by
 have g: ∀{x:aI},x∈fr++[f]->x∈fr\/x=f:=λe=>by simpa using e
 refine⟨λx e=>?_,?_,λx e d hd=>?_,λx e=>?_,λd hd=>h.lak d ((hs d).1 hd).1,λp r hp=>?_,h.pgs⟩;rcases g e with e|rfl;exact h.rng x e;exact hr;rw[List.pairwise_append];exact⟨h.one,List.pairwise_singleton _ _,λa k b hb=>by grind⟩;rcases g e with e|rfl;exact h.apt x e d ((hs d).1 hd).1;simp_all;rcases g e with e|rfl;exact h.hot x e;grind;obtain⟨j,o⟩:=h.row p r hp;grind
theorem VG{p q:JL}(h:jO (p,i,f)=some q):q=(p.1,p.2.1.set i.toNat f,p.2.2):=by
 have e:Par (jO (p,i,f)) λq=>q=(p.1,p.2.1.set i.toNat f,p.2.2):=by unfold jO;refine .b λg h2=>.b λ_ _=>.b λ_ _=>.s ?_;rw[NU h2];rfl
 exact e _ h
theorem Rel.use(h:Rel l n fr lk rows)(hf:idx fr i=some f)(h1:f'.1=f.1)(h2:f'.2.1=f.2.1):Rel l n (fr.set i.toNat f') lk rows:=by have q:=h.hot f (pP hf);exact h.upd hf (by rw[h1]) (λ_ _=>rfl) (λ_ _=>rfl) (by simp_all) (by grind) (λr e=>(h.row _ r e).1) h.pgs
theorem JRo{p q:JL}{id:Int}(e:DN (p,id)=some q)(h:Rel l n p.2.1 lk rows):Rel l n q.2.1 lk rows:=by
 have g:Par (DN (p,id)) λq=>Rel l n q.2.1 lk rows:=by unfold DN;refine .b λj r=>.l (λ_=>.s h) λc=>.b λx o=>.b λy k=>.s ?_;rw[VG k];exact h.use o rfl rfl
 exact g _ e
theorem JKz{p:JL}{y:NC}(e:wU p=some y)(h:Rel l n p.2.1 lk rows):y.2.2=0->Rel l n y.1.2.1 lk rows:=by
 have g:Par (wU p) λy=>y.2.2=0->Rel l n y.1.2.1 lk rows:=by unfold wU;refine .b λ_ _=>.n (λ_=>.s nofun) λ_=>.e (λ_=>.s nofun) λ_=>.z (λz=>Rel l n z.1.2.1 lk rows) h ?_;intro z j;unfold em;refine .b λx r=>.i (λ_=>.b λy o=>.b λq k=>.b λ_ _=>.s ?_) λ_=>.map (.b λ_ _=>.s λ_=>j);show Rel l n q.2.1 lk rows;rw[VG k];exact j.use o rfl rfl
 exact g _ e
theorem JPx{p:JL}{id:Int}{y:jI}(e:wP (p,id)=some y)(c:y.2=0)(h:Rel l n p.2.1 lk rows):Rel l n y.1.2.1 lk rows:=by
 have k:Par (wP (p,id)) λy=>y.2=0->Rel l n y.1.2.1 lk rows:=by
  unfold wP;refine .b λ_ _=>.n (λ_=>.s nofun) λ_=>.b λj F=>.l (λ_=>.s nofun) λ_=>.b λx r=>.i (λ_=>.s nofun) λw=>.b λI E=>.b λJ D=>.b λG z=>.b λA B=>?_;have C:A=p.2.1.eraseIdx j.toNat:=by obtain⟨H,v⟩:=xd z;have o:=Jd j 1;have q:=(zE F).1;have K:=(bU r).1;rw[hC B,NU D,(Ke E).2.2,v,List.eraseIdx_eq_take_drop_succ,show(J1 .i64 j 1).toNat=j.toNat+1 by omega]
  have g:=h.drop r w;rw[<-C]at g;exact .l (λ_=>.h (λ_=>.s λ_=>g) λ_=>.s λ_=>g) λ_=>.h (λ_=>.s λ_=>g) λ_=>.s λ_=>g
 exact k _ e c
end
section
variable {B S:Int} {l l':List aA} {n:Int} {fr:List aI} {lk lk' rows rows':List aB} {f f':aI} {i:Int}
theorem IM{k:J6}{id:Int}{y:aB×Bool}(e:uD (k,id)=some y):(y.2=true->y.1∈k.2.2.2.2.2.2.2/\y.1.1=id)/\(y.2=false-> ∀d∈k.2.2.2.2.2.2.2,d.1≠id):=by
 have g:Par (uD (k,id)) λy=>(y.2=true->y.1∈k.2.2.2.2.2.2.2/\y.1.1=id)/\(y.2=false-> ∀d∈k.2.2.2.2.2.2.2,d.1≠id):=(by unfold uD;refine .z (λz=>z.1=id/\z.2.2.1=k/\upw (λd:aB=>d.1≠id) k.2.2.2.2.2.2.2 z.2.1) ⟨rfl,rfl,HB⟩ ?_;rintro⟨a,i,q,r⟩ ⟨rfl,rfl,h⟩;unfold Eu;refine .l (λc=>.b λd hd=>.e (λe=>.b λn j=>.s ⟨λ_=>?_,nofun⟩) λe=>.s ⟨rfl,rfl,CZ h hd e⟩) λc=>.s ⟨nofun,λ_=>IJ h c⟩;grind [pP]);exact g _ e
theorem PG{k:J6}(e:Jt k=some true):JU k.2.2.2.1=some true:=by
 have h:Par (nV k) λy=>y=true->JU k.2.2.2.1=some true:=by unfold nV;refine .h (λ_=>.G (λ_=>.h (λ_=>.G (λ_=>.b λ_ _=>.i (λ_=>.b λn o=>.i (λc=>λ_ _ _=>?_) λ_=>.s nofun) λ_=>.s nofun) λ_=>.s nofun) λ_=>.s nofun) λ_=>.s nofun) λ_=>.s nofun;simp_all
 have g:Par (Jt k) λy=>y=true->JU k.2.2.2.1=some true:=.b λa j=>.n (λ_=>.s nofun) λc=>λ_ _ _=>h _ j c
 exact g _ e rfl
theorem us{k:J6}{p h:Int}(e:rN (k,p)=some h)(hv:Jt k=some true)(hi:JH k)(h0:0<=p)(h1:p<k.1):h=cH k.2.2.1.2.1 p:=by
 have q:Par (rN (k,p)) λh=>h=cH k.2.2.1.2.1 p:=(by obtain⟨_,_,r⟩:=hi;unfold rN;refine .b λv A=>.r (λ_=>.j (λ_=>.h (λc=>absurd h1 (by grind)) λ_=>.b λB x=>.i (λn=>.s ?_) λn=>.b λC w=>.i (λg=>.s ?_) λg=>.b λy z=>.s ?_) λc=>absurd h0 (by grind)) λc=>?_;obtain⟨f,hf,o,j⟩:=(CV x).1 n;rw[<-o,(r.hot f hf).1,j];obtain⟨o,j⟩:=(IM w).1 g;rw[r.lak _ o,j];exact(r.row p y z).2 ((CV x).2 n (PG hv)) ((IM w).2 g);simp_all);exact q _ e
theorem wy{e:aA}{y:vK}(h:kO (rows,e)=some y)(c:y.2=0):Jl e=some true/\(e.2.1≠7->y.1=rows)/\(e.2.1=7->(∀q,q≠aT e->idx y.1 q=idx rows q)/\ ∀r,idx y.1 (aT e)=some r-> ∃r0,idx rows (aT e)=some r0/\r.1=bZ r0.1 e.2.2.2.2.2.1):=by
 have j:Par (kO (rows,e)) λy=>y.2=0->Jl e=some true/\(e.2.1≠7->y.1=rows)/\(e.2.1=7->(∀q,q≠aT e->idx y.1 q=idx rows q)/\ ∀r,idx y.1 (aT e)=some r-> ∃r0,idx rows (aT e)=some r0/\r.1=bZ r0.1 e.2.2.2.2.2.1):=by
  unfold kO;refine .b λ_ _=>.n (λ_=>.s nofun) λ_=>.b λv A=>.n (λ_=>.s nofun) λw=>.d (λc=>.s λ_=>⟨by simp_all,λ_=>rfl,λh=>absurd h c⟩) λc=>.h (λ_=>.s nofun) λ_=>.b λr0 z=>.b λg n=>.s λ_=>⟨by simp_all,λh=>absurd c h,λ_=>?_⟩;have o:g=rows.set (aT e).toNat (bZ r0.1 e.2.2.2.2.2.1,r0.2):=by
   have k:Par (KE (rows,aT e,bZ r0.1 e.2.2.2.2.2.1,r0.2)) λg=>g=rows.set (aT e).toNat (bZ r0.1 e.2.2.2.2.2.1,r0.2):=by unfold KE;refine .b λx h2=>.b λ_ _=>.b λ_ _=>.s ?_;rw[NU h2];rfl
   exact k _ n
  grind [idx,aT]
 exact j _ h c
theorem JFF{l:JG}{e:aA}{y:BU}(h:gP (l,e)=some y)(c:y.2.2=0):1<=l.1/\l.1<=1099511627776/\J0 l.2.1<=4096:=by
 have g:Par (gP (l,e)) λy=>y.2.2=0->1<=l.1/\l.1<=1099511627776/\J0 l.2.1<=4096:=.b λk h2=>.n (λ_=>.s nofun) λj=>λ_ _ _=>lm h2 j
 exact g _ h c
def GK(k:J6)(e:aA)(y:iG):Prop:=Jt k=some true/\ ∃e':aA,e'.2.1=e.2.1/\e'.2.2.2.2.2=e.2.2.2.2.2/\e'.1=J0 k.2.2.1.2.1+1/\y.2.1=e'.1/\y.1.1=k.1/\y.1.2.2.1=(1,k.2.2.1.2.1++[e'],k.2.2.1.2.2)/\iC y.1.2.2.1/\y.1.2.2.2.1=k.2.2.2.1/\y.1.2.2.2.2.2.2.2=k.2.2.2.2.2.2.2/\dJ (k.2.2.1.2.1++[e'])/\(e.2.1≠7->y.1.2.2.2.2.2.2.1=k.2.2.2.2.2.2.1)/\(e.2.1=7->(∀q,q≠aT e->idx y.1.2.2.2.2.2.2.1 q=idx k.2.2.2.2.2.2.1 q)/\ ∀r,idx y.1.2.2.2.2.2.2.1 (aT e)=some r-> ∃g,idx k.2.2.2.2.2.2.1 (aT e)=some g/\r.1=bZ g.1 e.2.2.2.2.2.1)
theorem ZZ{k:J6}{e0 e:aA}{z:iG}(hv:Jt k=some true)(hi:JH k)(h1:e0.2.1=e.2.1)(h2:e0.2.2.2.2.2=e.2.2.2.2.2)(hp:(e.2.1=1\/e.2.1=2)->e0.2.2.2.2.1=cH k.2.2.1.2.1 (aT e))
  (N:e.2.1=7->e.2.2.2.2.2.1<=cH k.2.2.1.2.1 (aT e)) (S:e.2.1=6->dv k.2.2.1.2.1 e.2.2.2.2.2.2.2)
  (hz:((gP (k.2.2.1,e0)).bind λg=>
   if aO g.2.2 0 then
    some ((0,0,(0,[],0),(0,[],0),([],[]),[],[],[]),0,g.2.2)
   else
    (eM (g.1,g.2.1)).bind λq=>
    (fJ (k.2.2.2.2.2.1,q.1)).bind λj=>
    if aO j.2 0 then
     some ((0,0,(0,[],0),(0,[],0),([],[]),[],[],[]),0,j.2)
    else
     (kO (k.2.2.2.2.2.2.1,q.1)).bind λn=>
     if aO n.2 0 then
      some ((0,0,(0,[],0),(0,[],0),([],[]),[],[],[]),0,n.2)
     else
      some ((k.1,k.2.1,g.1,k.2.2.2.1,k.2.2.2.2.1,j.1,n.1,k.2.2.2.2.2.2.2),g.2.1,0))=some z):z.2.2=0->GK k e z:=by
 have C:Par ((gP (k.2.2.1,e0)).bind λg=>
   if aO g.2.2 0 then
    some ((0,0,(0,[],0),(0,[],0),([],[]),[],[],[]),0,g.2.2)
   else
    (eM (g.1,g.2.1)).bind λq=>
    (fJ (k.2.2.2.2.2.1,q.1)).bind λj=>
    if aO j.2 0 then
     some ((0,0,(0,[],0),(0,[],0),([],[]),[],[],[]),0,j.2)
    else
     (kO (k.2.2.2.2.2.2.1,q.1)).bind λn=>
     if aO n.2 0 then
      some ((0,0,(0,[],0),(0,[],0),([],[]),[],[],[]),0,n.2)
     else
      some ((k.1,k.2.1,g.1,k.2.2.2.1,k.2.2.2.2.1,j.1,n.1,k.2.2.2.2.2.2.2),g.2.1,0)) λz=>z.2.2=0->GK k e z:=by
  obtain⟨r,H,T⟩:=hi;refine .b λg x=>.d (λc=>.s λh=>absurd h c) λw=>.b λq D=>.b λj M=>.d (λc=>.s λh=>absurd h c) λ_=>.b λn A=>.d (λc=>.s λh=>absurd h c) λy=>.s λ_=>?_;obtain⟨b1,b2,G,R⟩:=JKx x w r.1;have O:=J8 (l:=k.2.2.1.2.1);obtain⟨P,B,F⟩:=wy A y;have E:q.1=(J0 k.2.2.1.2.1+1,e0.2):=(by rcases JNg D with⟨_,h⟩|⟨_,h⟩;rw[b1,b2,r.1]at h;obtain⟨_,h⟩:=bU h;have v:=(JFF x w).2.2;have o:=bI (J0 k.2.2.1.2.1+1) 1;rw[show(Jn .i64 (J0 k.2.2.1.2.1+1) 1).toNat=k.2.2.1.2.1.length by grind [J0]]at h;simp_all;grind [JRE]);rw[E]at B F;have K:aT (J0 k.2.2.1.2.1+1,e0.2)=aT e:=congrArg (λz:Int×aP×qQC=>z.2.1.1) h2;have L:e0.2.2.2.2.2.1=e.2.2.2.2.2.1:=congrArg (λz:Int×aP×qQC=>z.1) h2;have J:e0.2.2.2.2.2.2.2=e.2.2.2.2.2.2.2:=congrArg (λz:Int×aP×qQC=>z.2.2) h2;refine⟨hv,(J0 k.2.2.1.2.1+1,e0.2),h1,h2,rfl,b2,rfl,?_,?_,rfl,rfl,?_,λc=>B (by simp_all),λc=>?_⟩;show g.1=_;rw[b1,r.1]
  ·show iC g.1;rw[b1,r.1];obtain⟨U,I,V,Q⟩:=r;refine⟨rfl,I,?_,?_⟩
   all_goals
    grind [iL,eL]
  ·refine H.app ⟨rfl,G,λc=>?_,λc=>?_,λc=>?_⟩
   all_goals grind
  grind
 exact C _ hz
theorem TL{k:J6}{e:aA}{y:iG}(h:gA (k,e)=some y)(c:y.2.2=0)(hi:JH k)(hp:(e.2.1=1\/e.2.1=2)->0<=aT e/\aT e<k.1)
  (q:e.2.1=7->e.2.2.2.2.2.1<=cH k.2.2.1.2.1 (aT e)) (w:e.2.1=6->dv k.2.2.1.2.1 e.2.2.2.2.2.2.2):GK k e y:=by
 have C: ∀{o:aA} {b:Bool},Jg o=some b->b=false-> ¬(o.2.1=1\/o.2.1=2):=fun{o b} hb r=>by
  grind [Jg,gM]
 have A:Par (gA (k,e)) λy=>y.2.2=0->GK k e y:=by
  unfold gA;refine .b λv F=>.n (λ_=>.s nofun) λD=>?_;have g:Jt k=some true:=by simp_all
  refine .g (λ_=>.b λE _=>.l (λ_=>.s nofun) λ_=>.b λB _=>.b λb hb=>.i (λr=>.b λx n=>λz j=>ZZ (e0:=(e.1,e.2.1,e.2.2.1,B.2.2.1,x,e.2.2.2.2.2)) g hi rfl rfl ?_ q w j) λr=>λz j=>ZZ (e0:=(e.1,e.2.1,e.2.2.1,B.2.2.1,0,e.2.2.2.2.2)) g hi rfl rfl ?_ q w j) λ_=>.b λb hb=>.i (λr=>.b λx n=>λz j=>ZZ (e0:=(e.1,e.2.1,e.2.2.1,0,x,e.2.2.2.2.2)) g hi rfl rfl ?_ q w j) λr=>λz j=>ZZ (e0:=(e.1,e.2.1,e.2.2.1,0,0,e.2.2.2.2.2)) g hi rfl rfl ?_ q w j
  all_goals intro hc
  exact us n g hi (hp hc).1 (hp hc).2;grind;exact us n g hi (hp hc).1 (hp hc).2;grind
 exact A _ h c
end
section
variable {l E F:List aA} {p:Int}
theorem ltE.irr{a:aA}: ¬ltE a a:=by simp[ltE]
theorem ltE.asym{a b:aA}(h:ltE a b): ¬ltE b a:=by grind [ltE]
theorem zf: ∀{a b:List aA},a.Pairwise ltE->b.Pairwise ltE->(∀x,x∈a↔x∈b)->a=b
 |[],[],_,_,_=>rfl
 |[],y::b,_,_,h=>absurd ((h y).2 List.mem_cons_self) (by simp)
 |x::a,[],_,_,h=>absurd ((h x).1 List.mem_cons_self) (by simp)
 |x::a,y::b,n,hb,h=>by
  obtain⟨k,j⟩:=List.pairwise_cons.1 n;obtain⟨b1,b2⟩:=List.pairwise_cons.1 hb;have e:x=y:=(by rcases cV.1 ((h x).1 List.mem_cons_self)with q|q;exact q;rcases cV.1 ((h y).2 List.mem_cons_self)with g|g;exact g.symm;exact absurd (b1 x q) (k y g).asym);subst e;refine congrArg (x:: ·) (zf j b2 λz=>⟨λo=>?_,λo=>?_⟩)
  all_goals grind [ltE.irr]
theorem ke{e:aA}(hd: ∀x∈l,x.1≠e.1): ∀x,x∈bS l e↔x∈l\/x=e:=by
 induction l with
 |nil=>simp[bS]
 |cons y l ih=>
  grind [IV,bS]
theorem A1{e:aA}(hs:l.Pairwise ltE)(hd: ∀x∈l,x.1≠e.1):(bS l e).Pairwise ltE:=by
 induction l with
 |nil=>exact List.pairwise_singleton _ _
 |cons y l ih=>
  obtain⟨h1,h2⟩:=List.pairwise_cons.1 hs;have g:=hd y List.mem_cons_self;have n: ¬gV y e=0:=λh=>g (IV.1 h).2;have k: ∀x∈l,x.1≠e.1:=λz j=>hd z (kU _ j);grind [bS,List.pairwise_cons,ke,VP,ltE]
theorem xb{e:aA}(hd: ∀x∈l,x.1≠e.1):(bS l e).length=l.length+1:=by
 induction l with
 |nil=>simp[bS]
 |cons y k ih=>
  grind [IV,bS]
def srt(l:List aA):List aA:=l.foldl bS []
theorem M8(l:List aA)(e:aA):srt (l++[e])=bS (srt l) e:=by simp[srt]
def Inc(l:List aA):Prop:=l.Pairwise λa b=>a.1<b.1
theorem Lk: ∀{n:Nat} {l:List aA},l.length=n->Inc l->(srt l).Pairwise ltE/\(∀x,x∈srt l↔x∈l)/\(srt l).length=l.length
 |0,l,h,_=>by simp_all [srt]
 |n+1,l,h,hi=>by
  obtain⟨m,e,rfl⟩: ∃m e,l=m++[e]:=⟨l.dropLast,l.getLast (by grind),(List.dropLast_concat_getLast _).symm⟩;have j:m.length=n:=by simpa using h
  obtain⟨i1,i2,i3⟩:=List.pairwise_append.1 hi;obtain⟨s1,g,o⟩:=Lk j i1;have hd: ∀x∈srt m,x.1≠e.1:=λx k=>by have:=i3 x ((g x).1 k) e (by simp);omega
  grind [M8,A1,ke,xb]
theorem dJ.inc(h:dJ l):Inc l:=by
 unfold Inc;rw[List.pairwise_iff_getElem];intro i j hi e hij;have a:=(h i _ (bC hi)).1;have b:=(h j _ (bC e)).1;grind [J0]
theorem dJ.at(h:dJ l){i:Nat}{e:aA}(he:l[i]?=some e):e.1=(i:Int)+1:=by
 have a:=(h i e he).1;grind [J0]
theorem JDc(h:dJ l)(p:Int):(cH l p=0\/ ∃x∈l,(x.2.1=1\/x.2.1=2)/\aT x=p/\x.1=cH l p)/\ ∀x∈l,(x.2.1=1\/x.2.1=2)->aT x=p->x.1<=cH l p:=by
 have q: ∀n:Nat,n<=l.length->(cH (l.take n) p=0\/ ∃x∈l.take n,(x.2.1=1\/x.2.1=2)/\aT x=p/\x.1=cH (l.take n) p)/\ ∀x∈l.take n,(x.2.1=1\/x.2.1=2)->aT x=p->x.1<=cH (l.take n) p:=by
  intro n
  induction n with
  |zero=>intro _;exact⟨.inl rfl,by simp⟩
  |succ n ih=>
   intro r;obtain⟨h1,h2⟩:=ih oo;have o:=bC (l:=l) (i:=n) oo;have k:l.take (n+1)=l.take n++[l[n]]:=by simp[List.take_add_one]
   have en:=h.at o;rw[k,DE];split;rename_i c;refine⟨.inr ⟨l[n],List.mem_append_right _ (eO.2 rfl),c.1,c.2,rfl⟩,λx g a b=>?_⟩;rcases zQ9.1 g with g|g;obtain⟨j,e⟩:=fA.1 g;rw[QJ]at e;split at e;have:=h.at e;omega;cases e;grind;grind
 grind [List.take_length]
theorem wj(h:dJ l){e:aA}(he:e∈l)(hc:e.2.1=1\/e.2.1=2):e.2.2.2.2.1<e.1/\(e.2.2.2.2.1=0\/ ∃x∈l,(x.2.1=1\/x.2.1=2)/\aT x=aT e/\x.1=e.2.2.2.2.1)/\ ∀x∈l,(x.2.1=1\/x.2.1=2)->aT x=aT e->x.1<e.1->x.1<=e.2.2.2.2.1:=by
 obtain⟨i,hi⟩:=fA.1 he;obtain⟨r,v,o,_⟩:=h i e hi;have q:=h.at hi;rw[o hc];obtain⟨s1,n⟩:=JDc (h.take i) (aT e);have lt: ∀x∈l.take i,x.1<e.1:=λx k=>by
  obtain⟨j,g⟩:=fA.1 k;rw[QJ]at g;split at g;have:=h.at g;omega;cases g
 refine⟨?_,?_,λx k a b c=>?_⟩;grind;grind;refine n x ?_ a b;obtain⟨j,g⟩:=fA.1 k;have:=h.at g;refine zQ5 (i:=j) ?_;grind
def inB(f t lo hi:Int)(e:aA):Bool:=decide ((e.2.1=1\/e.2.1=2)/\(lo<=aT e/\aT e<=hi)/\f<=e.1/\e.1<=t)
theorem tC{f t lo hi:Int}{e:aA}:inB f t lo hi e=true↔(e.2.1=1\/e.2.1=2)/\(lo<=aT e/\aT e<=hi)/\f<=e.1/\e.1<=t:=by simp[inB]
def sel(l:List aA)(f t lo hi:Int):List aA:=srt (l.filter (inB f t lo hi))
theorem Inc.filter(h:Inc l)(q:aA->Bool):Inc (l.filter q):=h.sublist (List.filter_sublist)
theorem JQe(h:dJ l)(f t lo hi:Int):(sel l f t lo hi).Pairwise ltE/\(∀x,x∈sel l f t lo hi↔x∈l/\inB f t lo hi x=true)/\(sel l f t lo hi).length<=l.length:=by
 obtain⟨s1,g,e⟩:=Lk rfl (h.inc.filter (inB f t lo hi));grind [sel]
theorem adj(hs:E.Pairwise ltE){j:Nat}{a b x:aA}(ha:E[j]?=some a)(hb:E[j+1]?=some b)(hx:x∈E)(h1:ltE a x)(h2:ltE x b):False:=by
 obtain⟨i,hi⟩:=fA.1 hx;rw[List.pairwise_iff_getElem]at hs;obtain⟨g,rfl⟩:=dS.1 ha;obtain⟨h,rfl⟩:=dS.1 hb;obtain⟨e,rfl⟩:=dS.1 hi;by_cases c:i<=j;rcases Nat.lt_or_eq_of_le c with c|c;exact h1.asym (hs i j e g c);grind [ltE.irr];by_cases k:i=j+1;grind [ltE.irr];exact h2.asym (hs (j+1) i h e oo)
theorem JNy(h:dJ l)(hl:J0 l<=4096){f t lo hi lv:Int}(hn:qX (f,t,lo,hi,lv,[])):fB (f,t,lo,hi,lv,sel l f t lo hi):=by
 obtain⟨s1,k,s3⟩:=JQe h f t lo hi;obtain⟨R,S,M,O,N,F,w,v⟩:=hn
 (try dsimp only at R S M O N F w v)
 have val: ∀x∈l,Jl x=some true:=λx Q=>by obtain⟨i,hi⟩:=fA.1 Q;exact(h i x hi).2.1
 refine⟨⟨R,S,M,O,N,F,w,v⟩,?_,λj e o=>?_,λe o=>?_,λj a b q hb=>?_⟩;grind [J0];obtain⟨n,r⟩:=(k e).1 (zQ5 o);obtain⟨b1,b2,y,E⟩:=tC.1 r;exact⟨val e n,b1,y,E,b2.1,b2.2⟩;have V:=zQ5 o;obtain⟨n,r⟩:=(k e).1 V;obtain⟨b1,b2,y,E⟩:=tC.1 r;obtain⟨T,g,P⟩:=wj h n b1;dsimp only;rcases g with g|⟨x,X,x2,x3,x4⟩;omega;rcases Int.lt_or_le e.2.2.2.2.1 f with c|c;exact c;have Q:x∈sel l f t lo hi:=(k x).2 ⟨X,tC.2 ⟨x2,by omega,by omega,by omega⟩⟩;grind [List.mem_iff_getElem?,ltE,Nat.eq_zero_or_pos,List.pairwise_iff_getElem]
 (try dsimp only at q hb)
 have z:=zQ5 q;have C:=zQ5 hb;obtain⟨G,K⟩:=(k a).1 z;obtain⟨A,I⟩:=(k b).1 C;obtain⟨L,a0,a9,aa⟩:=tC.1 K;obtain⟨H,Z,Y,W⟩:=tC.1 I;obtain⟨T,g,P⟩:=wj h A H;have B:ltE a b:=(by grind [List.pairwise_iff_getElem]);have D: ∀x∈l,(x.2.1=1\/x.2.1=2)->aT x=aT b->x.1=b.2.2.2.2.1->f<=x.1->ltE a x->False:=λx X x2 x3 x4 x5 U=>
  adj s1 q hb ((k x).2 ⟨X,tC.2 ⟨x2,by omega,by omega,by omega⟩⟩) U (.inr ⟨x3,by omega⟩)
 rcases B with lp|⟨lp,J⟩;refine .inl ⟨lp,?_⟩;rcases g with g|⟨x,X,x2,x3,x4⟩;grind;show b.2.2.2.2.1<f;rcases Int.lt_or_le b.2.2.2.2.1 f with c|c;exact c;exact(D x X x2 x3 x4 oo (.inl oo)).elim;refine .inr ⟨lp,J,?_⟩;have ge:=P a G L lp J;rcases g with g|⟨x,X,x2,x3,x4⟩;omega;rcases Int.lt_or_eq_of_le ge with c|c;exact(D x X x2 x3 x4 oo (.inr ⟨by omega,by omega⟩)).elim;exact c.symm
end
section
variable {B S:Int} {l l':List aA} {n:Int} {fr:List aI} {lk lk' rows rows':List aB} {f f':aI} {i:Int} {k k':J6}
theorem Rel.note{e:aA}{p:Int}(h:Rel l n fr lk rows)(he: ¬(e.2.1=1\/e.2.1=2))(h0:e.2.2.2.2.2.1<=cH l p)(h1: ∀q,q≠p->idx rows' q=idx rows q)(h2: ∀r,idx rows' p=some r-> ∃r0,idx rows p=some r0/\r.1=bZ r0.1 e.2.2.2.2.2.1):Rel (l++[e]) n fr lk rows':=by
 have k: ∀p,cH (l++[e]) p=cH l p:=λp=>DR λh=>he h.1;refine⟨h.rng,h.one,h.apt,λx o=>?_,by simpa only[k]using h.lak,λq r g=>?_,OJ h.pgs λc=>absurd c he⟩;rw[k];refine⟨(h.hot x o).1,λc r g=>?_⟩;by_cases j:x.1.1=p;rw[j]at g⊢;obtain⟨r0,v,w⟩:=h2 r g;have:=(h.hot x o).2 c r0 (by simp_all);rw[j]at this;have:=pO r0.1 e.2.2.2.2.2.1;omega;rw[h1 _ j]at g;exact(h.hot x o).2 c r g;rw[k];by_cases j:q=p;subst j;obtain⟨r0,v,w⟩:=h2 r g;obtain⟨y,z⟩:=h.row q r0 v;have:=pO r0.1 e.2.2.2.2.2.1;grind;rw[h1 _ j]at g;exact h.row q r g
theorem GK.inv{e:aA}{y:iG}(h:GK k e y)(hi:JH k)(he: ¬(e.2.1=1\/e.2.1=2))(A:e.2.1=7->e.2.2.2.2.2.1<=cH k.2.2.1.2.1 (aT e)):JH y.1:=by
 obtain⟨F,e',G,x,B,C,w,v,r,q,o,E,j,n⟩:=h;obtain⟨i1,i2,i3⟩:=hi;have g: ¬(e'.2.1=1\/e'.2.1=2):=by simp_all
 refine⟨r,by simp_all,?_⟩;rw[w,v,q,o];by_cases c:e.2.1=7;obtain⟨b1,b2⟩:=n c;have D:e'.2.2.2.2.2.1=e.2.2.2.2.2.1:=congrArg (λz:Int×aP×qQC=>z.1) x;exact i3.note g (by simp_all) b1 (by grind);rw[j c];exact i3.ent g
theorem jc{m:Int}(e:mT (k,m)=some k'):k'.1=k.1/\(iC k.2.2.1->iC k'.2.2.1)/\k'.2.2.1.2.1=k.2.2.1.2.1/\k'.2.2.2=k.2.2.2:=by
 have g:Par (mT (k,m)) λk'=>k'.1=k.1/\(iC k.2.2.1->iC k'.2.2.1)/\k'.2.2.1.2.1=k.2.2.1.2.1/\k'.2.2.2=k.2.2.2:=(by unfold mT;refine .b λ_ _=>.b λh j=>.e (λc=>.s ?_) λ_=>.s ⟨rfl,id,rfl,rfl⟩;grind [WL]);exact g _ e
theorem JH.same(h:JH k)(e1:k'.1=k.1)(e2:iC k.2.2.1->iC k'.2.2.1)(e3:k'.2.2.1.2.1=k.2.2.1.2.1)(j:k'.2.2.2.1.2.1=k.2.2.2.1.2.1)(e:k'.2.2.2.2.2.2.2=k.2.2.2.2.2.2.2)(g:k'.2.2.2.2.2.2.1=k.2.2.2.2.2.2.1):JH k':=by
 grind [JH]
theorem JH.force{m:Int}(h:JH k)(e:mT (k,m)=some k'):JH k':=by obtain⟨j,o,n,g⟩:=jc e;exact h.same j o n (by rw[g]) (by rw[g]) (by rw[g])
theorem JKn{p:JL}{x:JV}{y:jI}(e:EP (p,x)=some y)(c:y.2=0): ∃i f r,idx p.2.1 i=some f/\f.1.1=x.1/\y.1=(p.1,p.2.1.set i.toNat (x,true,r,true),p.2.2):=by
 have j:Par (EP (p,x)) λy=>y.2=0-> ∃i f r,idx p.2.1 i=some f/\f.1.1=x.1/\y.1=(p.1,p.2.1.set i.toNat (x,true,r,true),p.2.2):=by
  unfold EP;refine .b λ_ _=>.n (λ_=>.s nofun) λ_=>.b λn _=>.d (λc=>.s λh=>absurd h c) λ_=>.b λi hi=>.l (λ_=>.s nofun) λo=>.b λf hf=>.G (λ_=>.s nofun) λ_=>.n (λ_=>.b λq k=>.s λ_=>?_) λ_=>.b λq k=>.s λ_=>?_
  all_goals
   obtain⟨g,w,v⟩:=(zE hi).2.1 oo;grind [VG]
 exact j _ e c
theorem so{e:aA}{y:dC}(h:wK (k,e)=some y)(hi:JH k)(hk:e.2.1=1\/e.2.1=2)(hf: ∃f∈k.2.2.2.1.2.1,f.1.1=aT e):JH y.1:=by
 have A:Par (wK (k,e)) λy=>JH y.1:=by
  unfold wK;dsimp only;have F:e.2.1≠7:=by omega
  have E:e.2.1≠6:=by omega
  refine .b λI h2=>.d (λ_=>.s hi) λD=>.b λj B=>.b λ_ _=>.b λ_ _=>.b λW G=>.d (λ_=>.s hi) λH=>.s ?_;obtain⟨f,hf,v⟩:=hf;have x:=hi.2.2.rng f hf;rw[v]at x;obtain⟨N,e',a1,O,a3,a4,a5,Y,C,V,U,a9,R,T⟩:=TL h2 D hi (λ_=>x) (λc=>absurd c F) (λc=>absurd c E);obtain⟨i,g,r,K,n,Z⟩:=JKn G H;have M: ∃g∈k.2.2.2.1.2.1,g.1=j.1/\g.1.1=aT e:=by
   cases c3:j.2 with
   |true=>exact(CV B).1 c3
   |false=>exact absurd v ((CV B).2 c3 (PG N) f hf)
  obtain⟨g',P,S,Q⟩:=M;have w:j.1.1=aT e:=by simp_all
  have o:aT e'=aT e:=congrArg (λz:Int×aP×qQC=>z.2.1.1) O;have hc:e'.2.1=1\/e'.2.1=2:=by simp_all
  have n:g.1.1=aT e:=n.trans w;have up:=hi.2.2.upd (l':=k.2.2.1.2.1++[e']) (rows':=k.2.2.2.2.2.2.1) (f':=((j.1.1,I.2.1,bM j.1.2.2 (Int.toNat e.2.2.2.2.2.2.1.2.1) e.2.2.2.2.2.2.1.2.2.2),true,r,true)) K (w.trans n.symm)
   (λq J=>DR λh=>J (by simp_all)) (λ_ _=>rfl) (by
    grind [DE]) nofun (λr L=>by
    rw[DE,if_pos ⟨hc,by rw[o,n]⟩];have q:=(hi.2.2.row _ r L).1;have b:=zg hi.2.1 (g.1.1);omega) (OJ hi.2.2.pgs λ_=>by rw[o];exact x.2)
  refine⟨C,by simp_all,?_⟩;simp_all
 exact A _ h
end
section
variable {B S:Int} {l l':List aA} {n:Int} {fr:List aI} {lk lk' rows rows':List aB} {f f':aI} {i:Int} {k k':J6}
theorem JS1{p:JL}{x:JV}{y:Int×Int×Int×List aI}(e:tL (p,x)=some y)(c:y.2.2.1=0):y.2.2.2=p.2.1++[(x,false,0,true)]/\ ∀f∈p.2.1,f.1.1≠x.1:=by
 have g:Par (tL (p,x)) λy=>y.2.2.1=0->y.2.2.2=p.2.1++[(x,false,0,true)]/\ ∀f∈p.2.1,f.1.1≠x.1:=(by unfold tL;refine .b λ_ _=>.n (λ_=>.s nofun) λ_=>.b λn _=>.d (λc=>.s λh=>absurd h c) λ_=>.b λi hi=>.h (λ_=>.s nofun) λo=>.e (λ_=>.s nofun) λ_=>.b λq r=>.b λj k=>.s λ_=>⟨?_,(zE hi).2.2 oo⟩;grind [hC,NU]);exact g _ e c
theorem JMO{p:JL}{id j:Int}{y:jI}(e:EN (p,id,j)=some y)(c:y.2=0): ∃i f,idx p.2.1 i=some f/\f.1.1=id/\j<=f.1.2.1/\(y.1.2.1=p.2.1\/ ∃f',f'.1=f.1/\(f'.2.1=false->f.2.1=false\/f.1.2.1=j)/\y.1.2.1=p.2.1.set i.toNat f'):=by
 have o:Par (EN (p,id,j)) λy=>y.2=0-> ∃i f,idx p.2.1 i=some f/\f.1.1=id/\j<=f.1.2.1/\(y.1.2.1=p.2.1\/ ∃f',f'.1=f.1/\(f'.2.1=false->f.2.1=false\/f.1.2.1=j)/\y.1.2.1=p.2.1.set i.toNat f'):=by
  unfold EN;refine .b λ_ _=>.n (λ_=>.s nofun) λ_=>.b λi hi=>.l (λ_=>.s nofun) λx=>.b λf hf=>.g (λ_=>.s nofun) λn=>?_;obtain⟨g,v,r⟩:=(zE hi).2.1 oo;have:g=f:=by simp_all
  subst this;have n:j<=g.1.2.1:=Int.not_lt.1 n;have go: ∀{f':aI} {q:JL},f'.1=g.1->(f'.2.1=false->g.2.1=false\/g.1.2.1=j)->jO (p,i,f')=some q-> ∃i f,idx p.2.1 i=some f/\f.1.1=id/\j<=f.1.2.1/\(q.2.1=p.2.1\/ ∃f',f'.1=f.1/\(f'.2.1=false->f.2.1=false\/f.1.2.1=j)/\q.2.1=p.2.1.set i.toNat f'):=fun{f' q} h1 h2 k=>⟨i,g,v,r,n,.inr ⟨f',h1,h2,by rw[VG k]⟩⟩;refine .n (λ_=>.s λ_=>⟨i,g,v,r,n,.inl rfl⟩) λ_=>.e (λw=>.b λq k=>.s λ_=>go (f':=(g.1,false,0,g.2.2.2)) rfl (λ_=>.inr w) k) λ_=>.G (λ_=>.b λq k=>.s λ_=>go (f':=(g.1,g.2.1,J1 .i64 j 1,g.2.2.2)) rfl (λh=>.inl h) k) λ_=>.b λq k=>.s λ_=>go (f':=(g.1,g.2)) rfl (λh=>.inl h) k
 exact o _ e c
theorem JJs{p:JL}(e:JU p=some true):J0 p.2.1<=64:=by
 have g:Par (JU p) λy=>y=true->J0 p.2.1<=64:=.j (λ_=>.k (λ_=>.k (λ_=>λ_ _ _=>by omega) λ_=>.s nofun) λ_=>.s nofun) λ_=>.s nofun
 exact g _ e rfl
theorem JKm{x:JV}{y:dC}(e:tV (k,x)=some y)(c:y.2=0)(hi:JH k):JH y.1:=by
 have G:Par (tV (k,x)) λy=>y.2=0->JH y.1:=by
  unfold tV;dsimp only;refine .b λv V=>.n (λ_=>.s nofun) λL=>.j (λc0=>.h (λ_=>.s nofun) λc1=>.b λy3 h3=>.l (λ_=>.s nofun) λc3=>.b λy4 h4=>.g (λ_=>.s nofun) λc4=>.b λO T=>.d (λc=>.s λh=>absurd h c) λQ=>.b λF R=>?_) λ_=>.s nofun;subst L;obtain⟨i1,i2,i3⟩:=id hi;have J:x.2.1=cH k.2.2.1.2.1 x.1:=(by grind [us]);have H:0<=x.1/\x.1<k.1:=⟨by omega,by omega⟩;obtain⟨C,B⟩:=JS1 T Q;have A:=IM R;refine .i (λD=>.b λ_ _=>.b λy8 w=>.b λ_ _=>.b λZ j=>?_) λD=>.s λ_=>⟨i1,i2,?_⟩;have hlen: ∀z:aI,(Jn .i64 (J0 (k.2.2.2.1.2.1++[z])) 1).toNat=k.2.2.2.1.2.1.length:=λz=>by
   have o:=bI (J0 (k.2.2.2.1.2.1++[z])) 1;have q:=JJs (PG V);have N:=J8 (l:=k.2.2.2.1.2.1);rw[iL,eL]at*;grind [J0]
  have st: ∀a b:aI,(k.2.2.2.1.2.1++[a]).set k.2.2.2.1.2.1.length b=k.2.2.2.1.2.1++[b]:=λa b=>by simp
  have I: ∀a:aI,(k.2.2.2.1.2.1++[a])[k.2.2.2.1.2.1.length]?=some a:=λa=>by simp
  unfold bH bL at*;rw[C,hlen,I]at w;injection w with w;subst w;simp only[C,hlen,st,I]at j⊢;injection j with j;subst j;refine .z (λz=>z.2.1=k/\z.2.2.1=x/\z.2.2.2.2.1=k.2.2.2.1.2.1++[(x,true,F.1.2.1,true)]/\z.1<=9223372036854775807/\(0<=z.1->z.2.2.2.2.2.2.2.2=(k.2.2.2.2.2.2.2.take z.1.toNat).filter λd=>d.1≠x.1)) ⟨rfl,rfl,rfl,show(0:Int)<=9223372036854775807 by decide,λ_=>rfl⟩ ?_;rintro⟨i,g,x2,k3,fr,u1,u2,u3,out⟩ ⟨rfl,rfl,n,M,E⟩
  (try dsimp only at n M E)
  unfold eo;dsimp only;have o:=Jd i 1;have step: ∀{d:aB},idx g.2.2.2.2.2.2.2 i=some d->0<=i/\(0<=J1 .i64 i 1->g.2.2.2.2.2.2.2.take (J1 .i64 i 1).toNat=g.2.2.2.2.2.2.2.take i.toNat++[d]):=fun{d} hd=>by obtain⟨K,S⟩:=bU hd;exact⟨K,λh=>by rw[show(J1 .i64 i 1).toNat=i.toNat+1 by omega,List.take_add_one,S];rfl⟩
  refine .l (λc=>.b λd hd=>.d (λP=>.b λd2 W=>.b λa0 Y=>.s ⟨rfl,rfl,n,by grind,λh=>?_⟩) λP=>.s ⟨rfl,rfl,n,by grind,λh=>?_⟩) λc=>.s λ_=>⟨i1,i2,?_⟩;grind [hC];simp_all;show Rel g.2.2.1.2.1 g.1 fr out g.2.2.2.2.2.2.1;have N:=J8 (l:=g.2.2.2.2.2.2.2);rw[n,E oo,List.take_of_length_le (by grind [J0])];exact i3.add (f:=(x2,true,F.1.2.1,true)) B H J nofun λd=>by simp
  show Rel _ _ O.2.2.2 _ _;rw[C];refine i3.add (f:=(x,false,0,true)) B H J (λ_ r U=>?_) λd=>⟨λh=>⟨h,A.2 D d h⟩,λh=>h.1⟩;exact(i3.row x.1 r U).2 B (A.2 D)
 exact G _ e c
end
section
variable {k k':J6}
theorem JOT{y:qy}(e:tR k=some y)(c:y.2.2.2=0)(hi:JH k):JH y.1/\(y.2.2.1=true-> ∃f∈y.1.2.2.2.1.2.1,f.1=y.2.1):=by
 have w:Par (tR k) λy=>y.2.2.2=0->JH y.1/\(y.2.2.1=true-> ∃f∈y.1.2.2.2.1.2.1,f.1=y.2.1):=by
  unfold tR;refine .b λ_ _=>.n (λ_=>.s nofun) λ_=>.l (λ_=>.s λ_=>⟨hi,nofun⟩) λ_=>.b λn B=>.b λE I=>.b λf hf=>?_;have K:n.2.2=0:=by
   have C:Par (wU k.2.2.2.1) λy=>y.2.2=0\/y.1=(0,[],0):=by unfold wU;refine .b λ_ _=>.n (λ_=>.s (.inr rfl)) λ_=>.e (λ_=>.s (.inr rfl)) λ_=>.z (λ_=>True) trivial λz _=>?_;unfold em;exact .b λx T=>.i (λ_=>.b λy R=>.b λq Q=>.b λ_ _=>.s qQG) λ_=>.map (.b λ_ _=>.s (.inl rfl))
   rcases C _ B with h|h
   all_goals grind [idx]
  have i3:Rel k.2.2.1.2.1 k.1 n.1.2.1 k.2.2.2.2.2.2.2 k.2.2.2.2.2.2.1:=JKz B hi.2.2 K;refine .n (λN=>.b λA F=>.s λ_=>⟨⟨hi.1,hi.2.1,?_⟩,nofun⟩) λ_=>.b λL r=>.s λ_=>⟨JH.force (k:=(k.1,k.2.1,k.2.2.1,n.1,k.2.2.2.2)) ⟨hi.1,hi.2.1,i3⟩ r,λ_=>⟨f,?_,rfl⟩⟩;show Rel _ _ A.1.2.1 _ _;by_cases G:A.2=0;grind [JPx];refine absurd ?_ G;have H:Par (hX (n.1,n.2.1)) λi=>0<=i->JU n.1=some true/\iY (n.1,n.2.1)=some i:=.b λv J=>.n (λ_=>.s λh=>absurd h qQH) λM=>.b λi hi=>.s λ_=>⟨by simp_all,hi⟩
  obtain⟨o,_⟩:=bU hf;obtain⟨S,O⟩:=H _ I o;have D:Par (wP (n.1,n.2.1)) λy=>y.2=0:=by
   unfold wP;refine .b λv J=>.n (λc=>?_) λ_=>.b λj U=>?_;simp_all;have:j=E:=by simp_all
   subst this;refine .l (λc=>absurd o oo) λ_=>.b λg P=>.i (λc=>?_) λ_=>.b λ_ _=>.b λ_ _=>.b λ_ _=>.b λ_ _=>.l (λ_=>.h (λ_=>.s rfl) λ_=>.s rfl) λ_=>.h (λ_=>.s rfl) λ_=>.s rfl;simp_all
  exact D _ F;rw[(jc r).2.2.2];grind [pP]
 exact w _ e c
theorem JJz{id:Int}{y:tg}(e:uA (k,id)=some y)(c:y.2.2=0)(hi:JH k):JH y.1/\ ∃f∈y.1.2.2.2.1.2.1,f.1=y.2.1:=by
 have g:Par (uA (k,id)) λy=>y.2.2=0->JH y.1/\ ∃f∈y.1.2.2.2.1.2.1,f.1=y.2.1:=(by unfold uA;refine .b λ_ _=>.n (λ_=>.s nofun) λ_=>.b λq n=>.n (λ_=>.s nofun) λj=>.b λo h=>.s λ_=>⟨hi.force h,?_⟩;obtain⟨f,hf,r,_⟩:=(CV n).1 j;grind [jc]);exact g _ e c
theorem JJK{id j:Int}{y:dC}(e:uG (k,id,j)=some y)(c:y.2=0)(hi:JH k)(hf: ∃f∈k.2.2.2.1.2.1,f.1.1=id/\f.1.2.1=j):JH y.1:=by
 have D:Par (uG (k,id,j)) λy=>y.2=0->JH y.1:=by
  obtain⟨f,hf,E,T⟩:=hf;have hot:=(hi.2.2.hot f hf).1;rw[E,T]at hot;have K: ∀{g:iG},gA (k,0,7,0,0,0,j,(id,0,(false,[]),false,[]),[])=some g->g.2.2=0->JH g.1/\g.1.2.2.2.1=k.2.2.2.1/\g.1.1=k.1/\ ∀r,idx g.1.2.2.2.2.2.2.1 id=some r->r.1=cH g.1.2.2.1.2.1 id:=by intro g x z;have q:=TL x z hi (λh=>absurd h (by simp_all)) (λ_=>Int.le_of_eq hot) (λh=>absurd h (by simp_all));refine⟨q.inv hi (by simp_all) (λ_=>Int.le_of_eq hot),?_⟩;obtain⟨U,e',a1,a2,a3,a4,S,M,b0,G,W,a9,V,C⟩:=q;refine⟨G,S,λr o=>?_⟩;obtain⟨A,b1,b2⟩:=(C rfl).2 r o;have H:=(hi.2.2.row id A b1).1;have w:=pO A.1 j;have b2:r.1=bZ A.1 j:=b2;rw[M];show r.1=cH (k.2.2.1.2.1++[e']) id;rw[DR (by simp_all)];omega
  unfold uG;dsimp only;refine .b λv U=>.n (λ_=>.s nofun) λZ=>.j (λ_=>.o (λ_=>.j (λ_=>.b λ_ _=>.g (λ_=>.s nofun) λ_=>.b λy4 Q=>.h (λO=>.b λJ R=>.d (λc=>.s λh=>absurd h c) λL=>.b λg x=>.d (λc=>.s λh=>absurd h c) λz=>.s λ_=>?_) λO=>?_) λ_=>.s nofun) λ_=>.s nofun) λ_=>.s nofun;obtain⟨B,P,g3,g4⟩:=K x z;obtain⟨i,N,b1,b2,H,w⟩:=JMO R L;refine⟨B.1,B.2.1,?_⟩;show Rel g.1.2.2.1.2.1 g.1.1 J.1.2.1 g.1.2.2.2.2.2.2.2 g.1.2.2.2.2.2.2.1;have n:=B.2.2;rw[P]at n;rcases w with w|⟨f',I,Y,F⟩;grind;rw[F];have hh:=n.hot N (pP b1);refine n.upd b1 (by rw[I]) (λ_ _=>rfl) (λ_ _=>rfl) (by grind) (λ_ r o=>?_) (λr o=>(n.row _ r o).1) n.pgs;grind;refine absurd E ((jk Q).2 oo (PG ?_) f hf);grind
 exact D _ e c
theorem JHW{y:iG}(e:EO k=some y)(c:y.2.2=0)(hi:JH k):JH y.1:=by
 have g:Par (EO k) λy=>y.2.2=0->JH y.1:=.b λ_ _=>.n (λ_=>.s nofun) λ_=>.g (λ_=>.s nofun) λ_=>.b λ_ _=>.d (λc=>.s λh=>absurd h c) λ_=>.s λ_=>hi
 exact g _ e c
theorem JKR{j:Int}{a:oB}{y:eF}(e:tW (k,j,a)=some y)(hi:JH k):JH y.1:=by
 have h:Par (tW (k,j,a)) λy=>JH y.1:=by unfold tW;dsimp only;refine .b λx h2=>.n (λ_=>.s hi) λo=>.e (λ_=>.b λw r=>.b λ_ _=>.b λ_ _=>.s ⟨hi.1,hi.2.1,JRo r hi.2.2⟩) λ_=>.b λ_ _=>.b λv _=>?_;obtain⟨f,hf,_,n⟩:=(CV h2).1 o;exact .e (λ_=>.b λq g=>.d (λ_=>.b λ_ _=>.s hi) λ_=>.s (so g hi (.inl rfl) ⟨f,hf,n⟩)) λ_=>.b λq g=>.d (λ_=>.b λ_ _=>.s hi) λ_=>.s (so g hi (.inl rfl) ⟨f,hf,n⟩)
 exact h _ e
theorem UJ{t m:Int}{y:iG}(e:gA (k,0,m,t,0,0,0,(0,0,(false,[]),false,[]),[])=some y)(c:y.2.2=0)(hi:JH k)(hm:m=3\/m=4\/m=5):JH y.1:=by have q:=TL e c hi (λh=>by grind) (λh=>by simp_all) (λh=>by simp_all);exact q.inv hi (λh=>by grind) (λh=>by simp_all)
theorem JLq{h:Int}{y:eF}(e:tS (k,h)=some y)(hi:JH k):JH y.1:=by
 have g:Par (tS (k,h)) λy=>JH y.1:=.b λ_ _=>.b λ_ _=>.e (λ_=>.b λ_ _=>.b λ_ _=>.s hi) λ_=>.b λr j=>.d (λ_=>.b λ_ _=>.s hi) λo=>.b λq n=>.b λ_ _=>.s (show JH q from(UJ j o hi (.inl rfl)).force n)
 exact g _ e
theorem Nc{j st:Int}{y:eF}(e:rP (k,j,st)=some y)(hi:JH k):JH y.1:=by
 have h:Par (rP (k,j,st)) λy=>JH y.1:=by unfold rP;refine .b λ_ _=>.b λ_ _=>.b λ_ _=>.e (λ_=>.b λ_ _=>.b λ_ _=>.s hi) λ_=>.b λq o=>.d (λ_=>.b λ_ _=>.s hi) λn=>.z (λz=>JH z.2.2.2.2.2.2.2) (UJ (k:=(k.1,k.2.1,k.2.2.1,k.2.2.2.1,_,k.2.2.2.2.2)) o n hi (.inr (.inl rfl))) λz g=>?_;unfold d6;exact .l (λ_=>.b λ_ _=>.e (λ_=>.b λ_ _=>.b λ_ _=>.n (λ_=>.b λ_ _=>.b λ_ _=>.s g) λ_=>.s g) λ_=>.s g) λ_=>.s g
 exact h _ e
theorem JPR{v:Int}{a:oB}{y:eF}(e:tJ (k,v,a)=some y)(hi:JH k):JH y.1:=by
 have r:Par (tJ (k,v,a)) λy=>JH y.1:=by unfold tJ;have g: ∀{o:Option (dW)},Par (o.bind λj=>if aO j.2 0 then(Ju j.2).bind λw=>some (k,w)else some ((k.1,k.2.1,k.2.2.1,k.2.2.2.1,k.2.2.2.2.1,j.1,k.2.2.2.2.2.2),1,0,0,(false,[]),0)) λy=>JH y.1:=.b λ_ _=>.d (λ_=>.b λ_ _=>.s hi) λ_=>.s hi;refine .b λ_ _=>.d (λ_=>.b λ_ _=>.s hi) λ_=>.e (λ_=>.b λD x=>.s (JLq x hi)) λ_=>.e (λ_=>.b λC z=>.s (Nc z hi)) λ_=>.e (λ_=>.b λ_ _=>.e (λ_=>g) λ_=>.d (λ_=>.b λ_ _=>.s hi) λ_=>.s hi) λ_=>.e (λ_=>.b λ_ _=>.e (λ_=>g) λ_=>.d (λ_=>.b λ_ _=>.s hi) λ_=>.s hi) λ_=>.b λ_ _=>.b λh _=>.d (λ_=>.b λ_ _=>.s hi) λ_=>.i (λ_=>.b λA q=>.e (λ_=>.s hi) λ_=>.s (JKR (k:=(k.1,k.2.1,k.2.2.1,k.2.2.2.1,h.1,k.2.2.2.2.2)) q hi)) λ_=>.b λ_ _=>.g (λ_=>.b λB n=>.e (λ_=>.s hi) λ_=>.s (Nc (k:=(k.1,k.2.1,k.2.2.1,k.2.2.2.1,h.1,k.2.2.2.2.2)) n hi)) λ_=>.b λ_ _=>.s hi
 exact r _ e
theorem Lc{x:Js}{e:aA}{y:eF}(h:hW (k,x,e)=some y)(hi:JH k):JH y.1:=by
 have j:Par (hW (k,x,e)) λy=>JH y.1:=(by unfold hW;dsimp only;refine .b λz h2=>.n (λ_=>.s hi) λo=>.b λn A=>.b λ_ _=>.d (λ_=>.b λ_ _=>.s hi) λ_=>.b λw q=>.d (λ_=>.b λ_ _=>.s hi) λ_=>?_;obtain⟨f,hf,_,r⟩:=(CV h2).1 o;have v:n.1=e.2.2.2.2.2.2.1.1:=(by grind [RG]);have g:=so q hi (.inr rfl) ⟨f,hf,r.trans v.symm⟩;exact .e (λ_=>.b λ_ _=>.n (λ_=>.b λ_ _=>.s g) λ_=>.s g) λ_=>.s g);exact j _ h
end
section
variable {k k':J6}
theorem JM1{g:Int}{c:Jm}{y:eF}(h:mQ (k,g,c)=some y)(hi:JH k):JH y.1:=by
 have e:Par (mQ (k,g,c)) λy=>JH y.1:=.b λ_ _=>.d (λ_=>.b λ_ _=>.s hi) λ_=>.d (λ_=>.b λ_ _=>.s hi) λ_=>.b λ_ _=>.n (λ_=>.s hi) λ_=>.b λn j=>.s (Lc j hi)
 exact e _ h
theorem xj{j:Int}{y:eF}(h:gB (k,j)=some y)(hi:JH k):JH y.1:=by
 have n:Par (gB (k,j)) λy=>JH y.1:=by unfold gB;have nx: ∀x:Js,Par ((rS (k,j)).bind λe=>if Jk e.2 then(Ju 14).bind λo=>some (k,o)else(hW (k,x,e.1)).bind λg=>some (g.1,g.2)) λy=>JH y.1:=λx=>.b λ_ _=>.n (λ_=>.b λ_ _=>.s hi) λ_=>.b λz q=>.s (Lc q hi);exact .b λ_ _=>.d (λ_=>.b λ_ _=>.s hi) λ_=>.e (λ_=>.e (λ_=>.b λr w=>.d (λ_=>.b λ_ _=>.s hi) λv=>.b λ_ _=>.s (show JH r.1 from UJ w v hi (.inr (.inr rfl)))) λ_=>nx _) λ_=>nx _
 exact n _ h
end
section
variable {k k':J6}
def Fl(r:eC):Prop:=r.1=5->r.2.2.2.2≠0
theorem r9{r:eC}(h:r.1≠5):Fl r:=λe=>absurd e h
theorem NJ{n:Int}{r:eC}(h:Ju n=some r)(hn: ¬n=0):Fl r:=by unfold Ju at h;injection h with h;subst h;exact λ_=>hn
theorem JPF{x:Js}{e:aA}{y:eF}(h:hW (k,x,e)=some y):Fl y.2:=by
 have g:Par (hW (k,x,e)) λy=>Fl y.2:=by unfold hW;have d:Fl (1,x.1,0,(false,[]),0):=r9 (show(1:Int)≠5 by decide);exact .b λr h2=>.n (λ_=>.s (r9 (show(3:Int)≠5 by decide))) λj=>.b λq v=>.b λ_ _=>.d (λc=>.b λ_ h=>.s (NJ h c)) λ_=>.b λn o=>.d (λc=>.b λ_ h=>.s (NJ h c)) λ_=>.e (λ_=>.b λ_ _=>.n (λ_=>.b λ_ _=>.s d) λ_=>.s d) λ_=>.s d
 exact g _ h
theorem Pe{j:Int}{y:eF}(h:gB (k,j)=some y):Fl y.2:=by
 have n:Par (gB (k,j)) λy=>Fl y.2:=by unfold gB;have nx: ∀x:Js,Par ((rS (k,j)).bind λe=>if Jk e.2 then(Ju 14).bind λo=>some (k,o)else(hW (k,x,e.1)).bind λg=>some (g.1,g.2)) λy=>Fl y.2:=λx=>.b λ_ _=>.n (λ_=>.b λ_ h=>.s (NJ h qQH)) λ_=>.b λr q=>.s (JPF q);exact .b λ_ _=>.d (λc=>.b λ_ h=>.s (NJ h c)) λ_=>.e (λ_=>.e (λ_=>.b λv z=>.d (λc=>.b λ_ h=>.s (NJ h c)) λw=>.b λ_ _=>.s (r9 (show(1:Int)≠5 by decide))) λ_=>nx _) λ_=>nx _
 exact n _ h
end
section
variable {s:Jw}
theorem Nw{k:J6}{x:JV}{y:eG}(e:rT (s,k,x)=some y)(c:y.2=0)(hi:JH k)(hf: ∃f∈k.2.2.2.1.2.1,f.1=x):JH y.1.1:=by
 have g:Par (rT (s,k,x)) λy=>y.2=0->JH y.1.1:=(by unfold rT;refine .b λ_ _=>.b λ_ _=>.d (λc=>.s λh=>absurd h c) λ_=>.b λo n=>.d (λc=>.s λh=>absurd h c) λj=>.s λ_=>JJK n j hi ?_;grind);exact g _ e c
theorem JJD{id:Int}{y:eG}(e:FD (s,id)=some y)(c:y.2=0)(hi:JH s.1):JH y.1.1:=by
 have g:Par (FD (s,id)) λy=>y.2=0->JH y.1.1:=(by unfold FD;refine .b λn h2=>.d (λc=>.s λh=>absurd h c) λj=>.b λ_ _=>.b λ_ _=>.n (λ_=>.s λ_=>hi) λ_=>.b λo q=>.s λk=>?_;grind [JJz,Nw]);exact g _ e c
theorem JPg{y:eG}(e:tQ s=some y)(c:y.2=0)(hi:JH s.1):JH y.1.1:=by
 have g:Par (tQ s) λy=>y.2=0->JH y.1.1:=by unfold tQ;refine .z (λz=>JH z.1.1) hi λz v=>?_;unfold YW;refine .b λw r=>.d (λc=>.s λh=>absurd h c) λq=>?_;obtain⟨j,n⟩:=JOT r q v;exact .n (λ_=>.s λ_=>j) λc=>.b λx o=>.d (λc=>.s λh=>absurd h c) λk=>.s (Nw o k j (n c))
 exact g _ e c
theorem OF{id:Int}{y:eG}(e:mN (s,id)=some y)(c:y.2=0)(hi:JH s.1):JH y.1.1:=by
 have g:Par (mN (s,id)) λy=>y.2=0->JH y.1.1:=.b λ_ _=>.n (λ_=>.s nofun) λ_=>.j (λ_=>.h (λ_=>.s nofun) λ_=>.b λ_ _=>.h (λ_=>.s λ_=>hi) λ_=>.b λq o=>.d (λc=>.s λh=>absurd h c) λn=>.b λ_ _=>.d (λc=>.s λh=>absurd h c) λ_=>.b λ_ _=>.b λ_ _=>.d (λc=>.s λh=>absurd h c) λ_=>.b λ_ _=>.d (λc=>.s λh=>absurd h c) λ_=>.b λr k=>.d (λc=>.s λh=>absurd h c) λj=>.s λ_=>JKm k j (JPg o n hi)) λ_=>.s nofun
 exact g _ e c
theorem JGU{k:Int}{y:eG}(e:rX (s,k)=some y)(c:y.2=0)(hi:JH s.1):JH y.1.1:=by
 have j:Par (rX (s,k)) λy=>y.2=0->JH y.1.1:=by unfold rX;refine .b λ_ _=>.n (λ_=>.s nofun) λ_=>.b λ_ _=>.l (λ_=>.s nofun) λ_=>.z (λz=>JH z.2.1.1) hi λz g=>?_;unfold pn;exact .b λ_ _=>.i (λ_=>.b λr n=>.e (λc=>.s λh=>absurd h (Pe (by assumption) c)) λ_=>.e (λ_=>.b λv q=>.d (λc=>.s λh=>absurd h c) λo=>.s (OF q o g)) λ_=>.s (xj n g)) λ_=>.s λ_=>g
 exact j _ e c
theorem JR4{q:Int}{a:oB}{y:eN}(e:DL (s,q,a)=some y)(hi:JH s.1):JH y.1.1:=by
 have n:Par (DL (s,q,a)) λy=>JH y.1.1:=by
  unfold DL;refine .z (λz=>JH z.2.1.1) hi λz B=>?_;unfold mz;refine .b λj C=>?_;have g:=JPR C B;have rb: ∀{Q:(nA)⊕(eN)->Prop},(∀y,JH y.1.1->Q (.inr y))->Par ((wT ((j.1,z.2.1.2),z.1)).bind λw=>if w then(rX ((j.1,z.2.1.2),z.1)).bind λk=>if aO k.2 0 then(Ju k.2).bind λo=>some (.inr ((j.1,z.2.1.2),o))else some (.inr (k.1,j.2))else some (.inr ((j.1,z.2.1.2),j.2))) Q:=
   λh=>.b λ_ _=>.i (λ_=>.b λD v=>.d (λ_=>.b λ_ _=>.s (h _ g)) λr=>.s (h _ (JGU (s:=(j.1,z.2.1.2)) v r g))) λ_=>.s (h _ g)
  exact .e (λ_=>.b λE A=>.d (λ_=>.b λ_ _=>.s g) λx=>.s (OF (s:=(j.1,z.2.1.2)) A x g)) λ_=>.p (λ_=>.e (λ_=>.p (λ_=>.e (λ_=>rb λ_ h=>h) λ_=>.s g) λ_=>rb λ_ h=>h) λ_=>.s g) λ_=>rb λ_ h=>h
 exact n _ e
theorem yi{y:sN}(e:FG s=some y)(c:y.2.2=0)(hi:JH s.1):JH y.1.1:=by
 have g:Par (FG s) λy=>y.2.2=0->JH y.1.1:=.b λk h2=>.d (λc=>.s λh=>absurd h c) λj=>.s λ_=>JHW h2 j hi
 exact g _ e c
theorem jv{j:Int}{l:Jm}{y:sN}(e:DW (s,j,l)=some y)(hi:JH s.1):JH y.1.1:=by
 have h:Par (DW (s,j,l)) λy=>JH y.1.1:=by unfold DW;refine .z (λz=>JH z.2.2.1.1) hi λz g=>?_;unfold n8;exact .b λr o=>.e (λ_=>.s g) λ_=>.e (λ_=>.b λq n=>.d (λ_=>.s g) λk=>.s (OF n k g)) λ_=>.e (λ_=>.s g) λ_=>.s (JM1 o g)
 exact h _ e
theorem fx{k:Int}{a:oB}{y:eN}(e:DC (s,k,a)=some y)(hi:JH s.1):JH y.1.1:=by
 have j:Par (DC (s,k,a)) λy=>JH y.1.1:=by unfold DC;refine .z (λz=>JH z.2.1.1) hi λz o=>?_;unfold m7;refine .b λq n=>?_;have g:=JR4 n o;exact .d (λ_=>.s g) λ_=>.b λ_ _=>.n (λ_=>.s g) λ_=>.b λr h=>.d (λ_=>.b λ_ _=>.s (jv h g)) λ_=>.e (λ_=>.s (jv h g)) λ_=>.s (jv h g)
 exact j _ e
theorem JQ1{y:tq}(e:EC s=some y)(c:y.2.2=0)(hi:JH s.1):JH y.1.1:=by
 have g:Par (EC s) λy=>y.2.2=0->JH y.1.1:=by unfold EC;refine .b λ_ _=>.n (λ_=>.s nofun) λ_=>.g (λ_=>.b λ_ _=>.b λv r=>.s λq=>OF r q hi) λ_=>.b λ_ _=>.e (λ_=>.s λ_=>hi) λ_=>.z (λz=>JH z.2.1.1) hi λz j=>?_;unfold n3;exact .b λ_ _=>.b λx o=>.e (λc=>.s λh=>absurd h (Pe (by assumption) c)) λ_=>.d (λ_=>.s λ_=>xj o j) λ_=>.b λw n=>.d (λc=>.s λh=>absurd h c) λk=>.s (OF n k j)
 exact g _ e c
end
section
theorem xO{n:Int}(h1:0<=n)(h2:n<18446744073709551616):IntKind.u64.wrap n=n:=by
 grind [IntKind.wrap,IntKind.bits,IntKind.signed]
theorem ZS{n:Int}(h1: -9223372036854775808<=n)(h2:n<=9223372036854775807):IntKind.i64.wrap n=n:=by
 grind [IntKind.wrap,IntKind.bits,IntKind.signed]
theorem TM{l:qQC}{k:Nat}(h:k<l.length):nG l (k:Int)=some ((l[k]).toNat:Int):=by simp[nG,h]
theorem Kf{x b j:Nat}(hj:j<=7)(hx:x<2^(8*j))(hb:b<256):
  orI .u64 (x:Int) (IntKind.wrap .u64 (((b:Nat):Int)*2^(8*j)))=((x+b*2^(8*j):Nat):Int):=by
 have e:(2:Nat)^(8*j)*256<=2^64:=by rw[show(256:Nat)=2^8 by rfl,<-Nat.pow_add];exact GB oo oo
 have g:b*2^(8*j)+2^(8*j)<=2^64:=(by have:(b+1)*2^(8*j)<=256*2^(8*j):=zQ4 _ oo;grind);have w:IntKind.wrap .u64 (((b:Nat):Int)*2^(8*j))=((b*2^(8*j):Nat):Int):=(by grind [xO]);rw[w];have h: ∀y:Nat,y<2^64->(BitVec.ofInt 64 (y:Int)).toNat=y:=by simp_all
 show IntKind.wrap .u64 (((BitVec.ofInt 64 (x:Int)|||BitVec.ofInt 64 ((b*2^(8*j):Nat):Int)).toNat:Nat):Int)=_;grind [Nat.mul_comm,Nat.two_pow_add_eq_or_of_lt,xO]
theorem JFm{n i:Nat}(hn:n<2^64):J6V (n:Int) i=((n/2^(8*i)%256:Nat):Int):=by
 show((IntKind.wrap .u64 (n:Int)).fdiv (2^(8*i)))%256=_;grind [xO]
theorem JKs{n:Int}{k i:Nat}(h:i<k):(J0d n k)[i]?=some (UInt8.ofNat (J6V n i).toNat):=by
 grind [J0d,toStr]
theorem dT{s r:qQC}{n:Int}{k:Nat}(h1:1<=k)(E:k<=8)(h:Jz (s,n,(k:Int))=some r):r=s++J0d n k:=by
 have v:Par (Jz (s,n,(k:Int))) λr=>r=s++J0d n k:=by
  unfold Jz;refine .j (λ_=>.g (λc=>by grind) λ_=>?_) λc=>by grind
  refine .z (λz=>z.2.1=n/\z.2.2.1=(k:Int)/\ ∃j:Nat,z.2.2.2=(j:Int)/\j<=k/\z.1=s++J0d n j) ⟨rfl,rfl,0,rfl,zQ2 _,by simp[J0d,toStr]⟩ ?_;rintro⟨o,w,k',B⟩ ⟨rfl,rfl,j,rfl,G,e⟩
  (try dsimp only at e)
  subst e;unfold XY;dsimp only;have D:=Jd (j:Int) 1;have C:=pG 8 (j:Int);refine .l (λc=>.b λx q=>.b λF g=>.s ⟨rfl,rfl,j+1,by grind,by omega,?_⟩) λc=>.s (by grind);have A:aW .u8 x=J6V w j:=by
   have y:aW .u64 (bT .i64 8 (j:Int))=((8*j:Nat):Int):=(by grind [aW,xO]);rw[y]at q;simp only[gX]at q;rw[if_neg oo]at q;injection q with q;rw[<-q];have:min (((8*j:Nat):Int)).toNat IntKind.u64.bits=8*j:=by simp only[Int.toNat_natCast];exact Nat.min_eq_left (by show 8*j<=64;omega)
   rw[this];rfl
  rw[A]at g;dsimp only;unfold cS at g;split at g;injection g with g;rw[<-g,JuG,kY];rfl;cases g
 exact v _ h
def At(s w:qQC)(p:Int):Prop:= ∃pre e,s=pre++(w++e)/\(pre.length:Int)=p
theorem At.left{s a b:qQC}{p:Int}(h:At s (a++b) p):At s a p:=by obtain⟨pre,g,e,h⟩:=h;exact⟨pre,b++g,by rw[e];simp,h⟩
theorem At.right{s a b:qQC}{p:Int}(h:At s (a++b) p):At s b (p+a.length):=by obtain⟨pre,g,e,h⟩:=h;exact⟨pre++a,g,by rw[e];simp,by simp_all⟩
theorem At.bnd{s w:qQC}{p:Int}(h:At s w p):0<=p/\p+w.length<=s.length:=by
 obtain⟨pre,g,e,h⟩:=h;grind
theorem At.slc{s w r:qQC}{p q:Int}(h:At s w p)(hq:q=p+w.length)(e:bE s (some p) (some q)=some r):r=w:=by
 obtain⟨pre,g,rfl,rfl⟩:=h;obtain⟨r',e',d,_⟩:=CG (l:=pre++(w++g)) (j:=pre.length) (k:=q) oo oo (by grind [J0]);rw[e']at e;injection e with e;subst e;rw[d,show(q-(pre.length:Int)).toNat=w.length by omega];simp
theorem At.all{s:qQC}:At s s 0:=⟨[],[],by simp,rfl⟩
theorem BP{s:qQC}{p:Int}{n k:Nat}(h:At s (J0d n k) p)(h1:1<=k)(I:k<=8)(hn:n<2^(8*k))(D:n<2^63)(hl:s.length<=4611686018427387904):
  JI (s,p,(k:Int))=some ((n:Int),0):=by
 have hb:=h.bnd;rw[JP]at hb;obtain⟨pre,A,hs,rfl⟩:=h;have r:Tot (JI (s,(pre.length:Int),(k:Int))) λy=>y=((n:Int),0):=by
  unfold JI;have o:=bI (J0 s) (pre.length:Int);have E:J0 s=(s.length:Int):=rfl;refine .j (λ_=>.k (λ_=>.l (λc=>by grind) λ_=>.k (λ_=>.l (λc=>by grind) λ_=>?_) λc=>by grind) λc=>by grind) λc=>by grind
  refine Jj (τ:=Nat) (λj=>(s,(pre.length:Int),(k:Int),((n%2^(8*j):Nat):Int),(j:Int))) (λj=>j<=k) (λj=>(k:Int)-j) ?_ 0 (by simp_all) (zQ2 _);intro j K;unfold AJ;dsimp only;have G:=Jd (j:Int) 1;have F:=pG 8 (j:Int);have H:=Jd (pre.length:Int) (j:Int);refine .l (λc=>?_) λc=>.s ?_;have C:J1 .i64 (pre.length:Int) (j:Int)=((pre.length+j:Nat):Int):=by omega
  have g:pre.length+j<s.length:=by omega
  have hb:(s[pre.length+j]'g).toNat=n/2^(8*j)%256:=(by have J:s[pre.length+j]?=some (UInt8.ofNat (J6V (n:Int) j).toNat):=(by grind [JP,JKs]);grind [JqZ,JFm]);have v:n/2^(8*j)%256<256:=Nat.mod_lt _ oo;have z:aW .u64 (bT .i64 8 (j:Int))=((8*j:Nat):Int):=(by grind [aW,xO]);have B:nF .u64 (aW .u64 (((s[pre.length+j]'g).toNat:Nat):Int)) ((8*j:Nat):Int)=some (IntKind.wrap .u64 (((n/2^(8*j)%256:Nat):Int)*2^(8*j))):=by
   unfold aW;rw[hb,xO oo oo];simp only[nF];rw[if_neg oo];have:min (((8*j:Nat):Int)).toNat IntKind.u64.bits=8*j:=by simp only[Int.toNat_natCast];exact Nat.min_eq_left (by show 8*j<=64;omega)
   rw[this]
  have q:=Kf (x:=n%2^(8*j)) (b:=n/2^(8*j)%256) (j:=j) oo (Nat.mod_lt _ (Nat.two_pow_pos _)) v;have w:n%2^(8*j)+n/2^(8*j)%256*2^(8*j)=n%2^(8*(j+1)):=by rw[Nat.mul_add,Nat.pow_add,Nat.mod_mul,GP (n/2^(8*j)%256)]
  rw[w]at q;rw[C,TM g,JE,z,B,JE,q];exact .s ⟨j+1,by grind,by omega,by omega,by omega⟩;grind [Nat.mod_eq_of_lt,aW,ZS]
 obtain⟨y,e,d⟩:=r;rw[e,d]
end
section
def mC(c:fZ):Prop:=J0 c.2<=12/\(c.1=false->c.2=[])
def EV(e:aA):Prop:=(1<=e.1/\e.1<=1099511627776)/\(0<=e.2.2.2.1/\e.2.2.2.1<e.1)/\(0<=e.2.2.2.2.1/\e.2.2.2.2.1<e.1)/\(0<=e.2.2.2.2.2.1/\e.2.2.2.2.2.1<e.1)/\(1<=e.2.1/\e.2.1<=8)/\(0<=e.2.2.1/\e.2.2.1<=1073741824)/\(0<=aT e/\aT e<64)/\(0<=e.2.2.2.2.2.2.1.2.1/\e.2.2.2.2.2.2.1.2.1<16)/\mC e.2.2.2.2.2.2.1.2.2.1/\mC e.2.2.2.2.2.2.1.2.2.2/\J0 e.2.2.2.2.2.2.2<=8192
theorem O0{c:fZ}(h:JM c=some true):mC c:=by
 have e:Par (JM c) λy=>y=true->mC c:=by
  unfold JM;refine .i (λj=>.t (λg=>.s ?_) λg=>.s ?_) λj=>.s ?_
  all_goals grind [mC,eqS,bA,J0]
 exact e _ h rfl
theorem EV.of{e:aA}(h:Jl e=some true):EV e:=by
 obtain⟨G,B,A,F,E,D,⟨w,x,r,o⟩,j⟩:=e;have g: ∀{c:aP} {b:Bool},hZ c=some b->b=true->(0<=c.1/\c.1<64)/\(0<=c.2.1/\c.2.1<16)/\mC c.2.2.1/\mC c.2.2.2:=fun{c b} hb K=>by
  have C:Par (hZ c) λy=>y=true->(0<=c.1/\c.1<64)/\(0<=c.2.1/\c.2.1<16)/\mC c.2.2.1/\mC c.2.2.2:=by unfold hZ;refine .h (λJ=>.l (λL=>.h (λg=>.l (λN=>.b λa O=>.i (λI=>.b λb hb=>.s λH=>?_) λ_=>.s nofun) λ_=>.s nofun) λ_=>.s nofun) λ_=>.s nofun) λ_=>.s nofun;subst I;subst H;exact⟨⟨J,L⟩,⟨g,N⟩,O0 O,O0 hb⟩
  exact C _ hb K
 have z:mC (false,[]):=⟨show(0:Int)<=12 by decide,λ_=>rfl⟩;have V:Par (nW (G,B,A,F,E,D,(w,x,r,o),j)) λy=>y.2=true->y.1=(G,B,A,F,E,D,(w,x,r,o),j)->(1<=B/\B<=8)/\(0<=A/\A<=1073741824)/\(0<=w/\w<64)/\(0<=x/\x<16)/\mC r/\mC o/\J0 j<=8192:=by
  unfold nW;dsimp only
  repeat' first
   |refine .e (λ_=>?_) λ_=>?_
   |refine .h (λ_=>?_) λ_=>?_
   |refine .G (λ_=>?_) λ_=>?_
   |refine .g (λ_=>?_) λ_=>?_
   |exact .s λh=>absurd h Bool.false_ne_true
   |refine .b λv q=>.i (λk=>?_) λ_=>.s nofun
   |refine .b λv q=>.e (λ_=>.i (λk=>?_) λ_=>.s nofun) λ_=>.i (λk=>?_) λ_=>.s nofun
  all_goals refine .s λc P=>?_
  all_goals simp only[Prod.mk.injEq,true_and,and_true]at P
  all_goals simp only[dU,cB,iK]at c
  all_goals first
   |exact⟨by omega,by omega,(g q k).1,(g q k).2.1,(g q k).2.2.1,(g q k).2.2.2,by rw[<-P];exact(by decide:(0:Int)<=8192)⟩
   |exact⟨by omega,by omega,(g q k).1,(g q k).2.1,(g q k).2.2.1,(g q k).2.2.2,by rw[<-P.2];exact(by decide:(0:Int)<=8192)⟩
   |(have Y:r=(false,[]):=by grind
     have R:o=(false,[]):=by grind
     have Q:J0 j<=8192:=by
      first
       |exact c
       |(have:j=[]:=by grind
         rw[this];exact(by decide:(0:Int)<=8192))
     rw[Y,R];exact⟨by omega,by omega,by omega,by omega,z,z,Q⟩)
 have M: ∀{n l:Int} {b:Bool},kN (n,l)=some b->b=true->0<=n/\n<l:=fun{n l b} hb K=>WU (by rw[<-K];exact hb);have C:Par (Jl (G,B,A,F,E,D,(w,x,r,o),j)) λy=>y=true->EV (G,B,A,F,E,D,(w,x,r,o),j):=.b λa O=>.i (λJ=>.i (λL=>.h (λg=>.G (λN=>.b λb1 T=>.i (λI=>.b λb2 S=>.i (λH=>.b λZ U=>.s λW=>⟨⟨g,N⟩,M T I,M S H,M U W,V _ O J (dR.1 L)⟩) λ_=>.s nofun) λ_=>.s nofun) λ_=>.s nofun) λ_=>.s nofun) λ_=>.s nofun) λ_=>.s nofun
 exact C _ h rfl
end
section
def oX(c:fZ):qQC:=if c.1=false then J0d 255 1 else J0d (J0 c.2) 1++c.2
def jT(e:aA):qQC:=J0d e.1 8++(J0d e.2.1 1++(J0d e.2.2.1 4++(J0d e.2.2.2.1 8++(J0d e.2.2.2.2.1 8++(J0d e.2.2.2.2.2.1 8++(J0d (aT e) 4++(J0d e.2.2.2.2.2.2.1.2.1 1++(oX e.2.2.2.2.2.2.1.2.2.1++(oX e.2.2.2.2.2.2.1.2.2.2++(J0d (J0 e.2.2.2.2.2.2.2) 4++e.2.2.2.2.2.2.2))))))))))
theorem qY{a b r:qQC}(h:cS a b=some r):r=a++b:=by
 grind [cS]
theorem Ks{s r:qQC}{c:fZ}(h:tN (s,c)=some r):r=s++oX c:=by
 have e:Par (tN (s,c)) λr=>r=s++oX c:=by
  unfold tN oX;refine .n (λd=>.b λj h2=>.s ?_) λd=>.b λg o=>.b λk n=>.s ?_
  all_goals grind [dT,qY]
 exact e _ h
theorem I3{e:aA}{y:qQC×Int}(h:mV e=some y)(hv:Jl e=some true):y=(jT e,0):=by
 have r:Par (mV e) λy=>y=(jT e,0):=(by unfold mV;refine .b λv G=>.n (λc=>?_) λ_=>.b λL D=>.b λQ B=>.b λN C=>.b λO z=>.b λK w=>.b λM x=>.b λP A=>.b λE n=>.b λJ q=>.b λI o=>.b λF g=>.b λH j=>.s ?_;simp_all;rw[qY j,dT (k:=4) qQH qQH g,Ks o,Ks q,dT (k:=1) qQH qQH n,dT (k:=4) qQH qQH A,dT (k:=8) qQH qQH x,dT (k:=8) qQH qQH w,dT (k:=8) qQH qQH z,dT (k:=4) qQH qQH C,dT (k:=1) qQH qQH B,dT (k:=8) qQH qQH D];unfold jT;simp only[kY,sH];rfl);exact r _ h
variable {s:qQC} {p:Int}
theorem qR{n:Int}{k:Nat}(b:Nat)(h:At s (J0d n k) p)(hl:s.length<=1000000)(h0:0<=n)(hn:n<b)(hb:b=2^(8*k):=by rfl)(h1:1<=k:=by decide)(j:k<=8:=by decide)(q:n<9223372036854775808:=by omega):JA ((k:Int),s,p,0)=some (n,s,p+k,0):=by have e:=h.bnd;rw[JP]at e;obtain⟨m,rfl⟩:=Int.eq_ofNat_of_zero_le h0;have g:=BP h h1 j oo oo oo;have o:=Jd p (k:Int);unfold JA;dsimp only;rw[if_neg qQH,g];dsimp only[Option.bind_some];rw[if_neg qQH,show J1 .i64 p (k:Int)=p+k by omega]
theorem Ip{w:qQC}(h:At s w p)(hl:s.length<=1000000):uI (J0 w,s,p,0)=some (w,s,p+w.length,0):=by
 have hb:=h.bnd;have o:=Jd p (J0 w);have n:=bI (J0 s) p;have k:=bI (J1 .i64 p (J0 w)) (J0 w);have q:J0 w=w.length:=rfl;have hs:J0 s=s.length:=rfl;have g:Tot (uI (J0 w,s,p,0)) λy=>y=(w,s,p+w.length,0):=by unfold uI;dsimp only;refine .d (λc=>absurd rfl c) λ_=>.g (λc=>by omega) λ_=>?_;rw[show Jn .i64 (J1 .i64 p (J0 w)) (J0 w)=p by omega,show J1 .i64 p (J0 w)=p+w.length by omega];refine .b (CG (l:=s) hb.1 oo oo).eqn λr j=>.s ?_;rw[h.slc rfl j.2]
 obtain⟨y,e,d⟩:=g;rw[e,d]
theorem I0{c:fZ}(h:At s (oX c) p)(hc:mC c)(hl:s.length<=1000000):xC (s,p,0)=some (c,s,p+(oX c).length,0):=by
 unfold oX at h⊢;unfold xC;obtain⟨b,d⟩:=c;obtain⟨h1,h2⟩:=hc
 (try dsimp only at h h1 h2⊢)
 have e:=J8 (l:=d);cases b with
 |false=>rw[if_pos rfl]at h⊢;have g:=qR (k:=1) 256 h hl qQH qQH;rw[show JA (1,s,p,0)=_ from g,h2 rfl];rfl
 |true=>
  rw[if_neg qQH]at h⊢;have g:=qR (k:=1) 256 h.left hl oo oo;have j:=Ip h.right hl;grind [JA,gM,iK,JP]
theorem SU{e:aA}(hv:Jl e=some true):tU (jT e)=some (e,0)/\(jT e).length<=8300:=by
 obtain⟨N,O,M,P,Q,H,I,L,r,h,G⟩:=EV.of hv;have j: ∀{c:fZ},mC c->(oX c).length<=13:=fun{c} hc=>by
  unfold oX;have:=hc.1;grind [J0,JP]
 have J:=j r;have K:=j h;have hl:(jT e).length=46+(oX e.2.2.2.2.2.2.1.2.2.1).length+(oX e.2.2.2.2.2.2.1.2.2.2).length+e.2.2.2.2.2.2.2.length:=(by grind [jT,List.length_append,JP]);have F:J0 e.2.2.2.2.2.2.2=e.2.2.2.2.2.2.2.length:=rfl;refine⟨?_,by omega⟩;have hs:(jT e).length<=1000000:=by omega
 generalize E:jT e=s at hl hs;have g:At s (jT e) 0:=by rw[E];exact .all
 unfold jT at g;have D:=qR (k:=8) 18446744073709551616 g.left hs oo oo;replace g:=g.right;simp only[JP]at g;have C:=qR (k:=1) 256 g.left hs oo oo;replace g:=g.right;simp only[JP]at g;have B:=qR (k:=4) 4294967296 g.left hs oo oo;replace g:=g.right;simp only[JP]at g;have z:=qR (k:=8) 18446744073709551616 g.left hs oo oo;replace g:=g.right;simp only[JP]at g;have A:=qR (k:=8) 18446744073709551616 g.left hs oo oo;replace g:=g.right;simp only[JP]at g;have v:=qR (k:=8) 18446744073709551616 g.left hs oo oo;replace g:=g.right;simp only[JP]at g;have x:=qR (k:=4) 4294967296 g.left hs oo oo;replace g:=g.right;simp only[JP]at g;have y:=qR (k:=1) 256 g.left hs oo oo;replace g:=g.right;simp only[JP]at g;have w:=I0 g.left r hs;replace g:=g.right;have q:=I0 g.left h hs;replace g:=g.right;have n:=qR (k:=4) 4294967296 g.left hs oo oo;replace g:=g.right;simp only[JP]at g;have o:=Ip g hs;unfold tU;rw[show JA (8,s,0,0)=_ from D,JE];rw[show JA (1,s,_,0)=_ from C,JE];rw[show JA (4,s,_,0)=_ from B,JE];rw[show JA (8,s,_,0)=_ from z,JE];rw[show JA (8,s,_,0)=_ from A,JE];rw[show JA (8,s,_,0)=_ from v,JE];rw[show JA (4,s,_,0)=_ from x,JE];rw[show JA (1,s,_,0)=_ from y,JE];rw[w,JE];rw[q,JE];rw[show JA (4,s,_,0)=_ from n,JE];rw[o,JE];dsimp only;rw[if_neg qQH,if_neg (by grind [eR,J0])];rw[show Jl (e.1,e.2.1,e.2.2.1,e.2.2.2.1,e.2.2.2.2.1,e.2.2.2.2.2.1,(aT e,e.2.2.2.2.2.2.1.2.1,e.2.2.2.2.2.2.1.2.2.1,e.2.2.2.2.2.2.1.2.2.2),e.2.2.2.2.2.2.2)=some true from hv];rfl
end
section
variable {s r w:qQC} {p:Int}
theorem It{c:Int}(h:mP s=some c):0<=c/\c<4294967296:=by
 have e:Par (mP s) λc=>0<=c/\c<4294967296:=(by unfold mP;refine .z (λ_=>True) trivial λz _=>?_;unfold YB;refine .l (λ_=>.b λ_ _=>.z (λ_=>True) trivial λz _=>?_) λ_=>.s ?_;unfold QU;exact .l (λ_=>.e (λ_=>.b λ_ _=>.s qQG) λ_=>.b λ_ _=>.s qQG) λ_=>.s qQG;exact⟨(pR .u32 _).1,Int.lt_of_le_of_lt (pR .u32 _).2 qQH⟩);exact e _ h
def FrB(w r:qQC):Prop:=J0 w<=8392/\ ∃c,mP (J0d (J0 w) 4++w)=some c/\r=(J0d (J0 w) 4++w)++J0d c 4
theorem SJ(h:lV w=some r)(hl:J0 w<=8392):FrB w r:=by
 have e:Par (lV w) λr=>FrB w r:=(by unfold lV;refine .g (λc=>by omega) λ_=>.b λv h2=>.b λn g=>.b λc hc=>.b λo j=>.s ⟨hl,c,?_,?_⟩;rw[qY g,dT (k:=4) qQH qQH h2]at hc;exact hc;obtain⟨q,x⟩:=It hc;rw[dT (k:=4) qQH qQH j,qY g,dT (k:=4) qQH qQH h2];grind [aW,ZS]);exact e _ h
theorem FrB.len(h:FrB w r):(r.length:Int)=J0 w+8:=by
 obtain⟨_,c,_,rfl⟩:=h;grind [JP,J0]
theorem SN(h:FrB w r)(ha:At s r p)(hl:s.length<=4611686018427387904):jA (s,p)=some (w,p+r.length,0):=by
 have hb:=ha.bnd;have F:=h.len;obtain⟨h1,c,hc,rfl⟩:=h;have A:=J8 (l:=w);obtain⟨m,o⟩:=Int.eq_ofNat_of_zero_le A;obtain⟨B,L⟩:=It hc;obtain⟨O,rfl⟩:=Int.eq_ofNat_of_zero_le B;have k:=BP (n:=m) (by rw[<-o];exact ha.left.left) (by decide:1<=4) qQH oo oo hl;have j:=BP ha.right (by decide:1<=4) qQH oo oo hl;rw[<-o]at k;have H:J0 s=s.length:=rfl;have G:J0 w=w.length:=rfl;simp only[eP,JP]at F j;have T:=Jd p 4;have S:=Jd (J1 .i64 p 4) (J0 w);have U:=Jd p 8;have Q:=Jd (J1 .i64 p 8) (J0 w);have I:=bI (J0 s) p;have K:=Jd (J0 w) 8;simp only[eP,JP]at hb;have z:J1 .i64 (J1 .i64 p 4) (J0 w)=p+((4+w.length:Nat):Int):=by omega
 have g:Tot (jA (s,p)) λy=>y=(w,p+((4+w.length+4:Nat):Int),0):=by
  unfold jA;dsimp only;refine .j (λ_=>.g (λc=>by omega) λ_=>.b (dO k) λR v=>?_) λc=>by omega
  subst v;dsimp only;refine .d (λc=>absurd rfl c) λ_=>.g (λc=>by omega) λ_=>.l (λc=>by omega) λ_=>?_;rw[z];refine .b (dO j) λJ x=>.b (CG (l:=s) hb.1 oo oo).eqn λP E=>?_;subst x;rw[ha.left.slc (by simp[JP]) E.2];refine .b (dO hc) λM C=>?_;subst C;refine .d (λc=>absurd (by grind [aW,IntKind.wrap,IntKind.bits,IntKind.signed]) c) λ_=>?_;rw[show J1 .i64 p 4=p+((4:Nat):Int) by omega];refine .b (CG (l:=s) oo oo oo).eqn λN D=>.s ?_;have q:=ha.left.right;rw[JP]at q;rw[q.slc oo D.2,show J1 .i64 (J1 .i64 p 8) (J0 w)=p+((4+w.length+4:Nat):Int) by omega]
 obtain⟨y,e,d⟩:=g;grind [JP]
theorem JOg{m:Nat}(h:FrB w r)(ha:At s (r.take m) p)(hm:m<r.length)(he:p+m=s.length)(hl:s.length<=4611686018427387904):Par (jA (s,p)) λy=>y.2.2≠0:=by
 have hb:=ha.bnd;have C:=h.len;obtain⟨h1,c,hc,rfl⟩:=h;have q:J0 s=s.length:=rfl;have v:=bI (J0 s) p;have x:=Jd (J0 w) 8;have k:=J8 (l:=w);unfold jA;dsimp only;refine .j (λ_=>.g (λ_=>.s qQH) λ_=>.b λz h2=>.d (λ_=>.s qQH) λo=>.g (λ_=>.s qQH) λ_=>.l (λ_=>.s qQH) λB=>?_) λ_=>.s qQH;exfalso;by_cases A:m<4;have g:Par (JI (s,p,4)) λy=>y.2≠0:=(by unfold JI;dsimp only;exact .j (λ_=>.k (λ_=>.l (λ_=>.s qQH) λ_=>.k (λ_=>.l (λ_=>.s qQH) λc=>by omega) λ_=>.s qQH) λ_=>.s qQH) λ_=>.s qQH);exact g _ h2 o;obtain⟨n,D⟩:=Int.eq_ofNat_of_zero_le k;have E:At s (J0d (J0 w) 4) p:=(by obtain⟨pre,j,e,hp⟩:=ha;refine⟨pre,((w++J0d c 4).take (m-4))++j,?_,hp⟩;grind [List.take_append,JP,List.take_of_length_le]);grind [BP]
end
section
variable {s:qQC} {l:JG}
noncomputable def sB(e:aA):qQC:=(uB e).getD []
noncomputable def frs(l:List aA):qQC:=(l.map sB).flatten
theorem Nb(a b:List aA):frs (a++b)=frs a++frs b:=by simp[frs]
theorem iv{e:aA}{r:qQC}(h:uB e=some r)(hv:Jl e=some true):FrB (jT e) r/\sB e=r:=by
 refine⟨?_,by grind [sB]⟩;have g:Par (uB e) λr=>FrB (jT e) r:=(by unfold uB;refine .b λk h2=>.b λj n=>.s ?_;grind [I3,SJ,SU,J0]);exact g _ h
def hdB(h:qQC):Prop:=FrB ([80,77,76,71]++J0d 1 8) h
theorem JSk{r:qQC}(h:EH 1=some r):hdB r:=by
 have e:Par (EH 1) λr=>hdB r:=by unfold EH;refine .b λn h2=>.b λj g=>.s ?_;rw[dT (k:=8) qQH qQH h2]at g;refine SJ g ?_;simp[J0,JP]
 exact e _ h
def QL(l:List aA):Prop:= ∀e∈l,FrB (jT e) (sB e)/\Jl e=some true
theorem JOo{n:Int}(h:nX (l,n)=some s)(hi:iC l)(hc:dJ l.2.1):s=[]\/(QL l.2.1/\s.length<=4611686018427387904/\ ∃hd rest,hdB hd/\s=hd++rest/\rest<+:frs l.2.1):=by
 have G:Par (nX (l,n)) λs=>s=[]\/(QL l.2.1/\s.length<=4611686018427387904/\ ∃hd rest,hdB hd/\s=hd++rest/\rest<+:frs l.2.1):=by
  obtain⟨i1,i2,i3,i4⟩:=hi;unfold nX;refine .b λ_ _=>.n (λ_=>.s (.inl rfl)) λ_=>.b λhd v=>?_
  (try dsimp only at v)
  rw[i1]at v;refine .z (λz=>z.2.2.2.2=l/\ ∃i:Nat,z.2.2.2.1=(i:Int)/\i<=l.2.1.length/\QL (l.2.1.take i)/\hd<+:z.2.1/\z.2.1++z.2.2.1=hd++frs (l.2.1.take i)/\((i:Int)<=l.2.2->z.2.2.1=[])) ⟨rfl,0,rfl,zQ2 _,λe h=>by simp at h,List.prefix_refl _,by simp[frs],λ_=>rfl⟩ ?_;rintro⟨t,a,b,T,l'⟩ ⟨C,i,hi',hi,hf,hp,j,hb⟩
  (try dsimp only at C hi' hi hf hp j hb)
  subst C;subst hi';unfold oe;dsimp only;have o:=Jd (i:Int) 1;have nx: ∀{e:aA},idx l'.2.1 (i:Int)=some e->l'.2.1.take (i+1)=l'.2.1.take i++[e]/\e.1=(i:Int)+1/\Jl e=some true/\i+1<=l'.2.1.length:=fun{e} j=>by
   obtain⟨_,q⟩:=bU j;rw[Int.toNat_natCast]at q;have Q:=(dS.1 q).1;obtain⟨A,L,_⟩:=hc i e q;grind [List.take_add_one,J0]
  have S: ∀{e:aA} {r:qQC},uB e=some r->Jl e=some true->QL (l'.2.1.take i++[e]):=fun{e r} U V x B=>by
   rcases zQ9.1 B with B|B;exact hf x B;simp_all [iv]
  refine .l (λc=>.b λe k=>.G (λN=>.b λO g=>.b λM F=>.b λw y=>.s ⟨rfl,i+1,?_⟩) λN=>.b λO g=>.b λM F=>.b λw y=>.s ⟨rfl,i+1,?_⟩) λc=>.map (.b λI E=>.b λR P=>.s (.inr ?_));rw[k]at g;injection g with g;subst g;obtain⟨A,L,K,D⟩:=nx k;have H:=hb oo;subst H;refine⟨by grind,D,by grind,?_,?_,λ_=>rfl⟩;show hd<+:w;rw[qY y];simp_all;show w++[]=_;rw[qY y,A,Nb,<-kY,<-j];simp_all [frs,iv];rw[k]at g;injection g with g;subst g;obtain⟨A,L,K,D⟩:=nx k;refine⟨by grind,D,by grind,hp,?_,λh=>by exfalso;omega⟩;show a++w=_;rw[qY y,A,Nb,<-kY hd,<-j];simp[frs,(iv F K).2];have J:i=l'.2.1.length:=by grind [J0]
  rw[J,List.take_length]at hf j;refine⟨hf,?_,hd,?_⟩;grind [cS];obtain⟨a',rfl⟩:=hp;refine⟨a'++I,JSk v,by grind [qY],?_⟩;rw[kY]at j;have j:=List.append_cancel_left j;rw[<-j,(Ke E).2.2];simp[List.take_prefix]
 exact G _ h
theorem JQx{E:List aA}{hd rest:qQC}{y:jG}(h:zU s=some y)(hf:QL E)(Q:dJ E)(hl:s.length<=4611686018427387904)(hh:hdB hd)(hs:s=hd++rest)(hr:rest<+:frs E):y.2=0-> ∃m,y.1=(1,E.take m,(m:Int))/\m<=E.length/\m<=4096:=by
 have q:Par (zU s) λy=>y.2=0-> ∃m,y.1=(1,E.take m,(m:Int))/\m<=E.length/\m<=4096:=by
  have a0:At s hd 0:=⟨[],rest,by rw[hs];rfl,rfl⟩;have O:=SN hh a0 hl;unfold zU;refine .b λU h2=>.q (λ_=>.q (λ_=>.b λy3 Z=>.i (λ_=>.s nofun) λ_=>.b λy4 k=>.j (λ_=>.g (λ_=>.s nofun) λ_=>?_) λ_=>.s nofun) λ_=>.s nofun) λ_=>.s nofun;rw[O]at h2;injection h2 with h2;subst h2
  (try dsimp only at Z k⊢)
  have T:At ([80,77,76,71]++J0d 1 8) (J0d ((1:Nat):Int) 8) 4:=⟨[80,77,76,71],[],by simp,rfl⟩;have R:=BP T qQH qQH qQH qQH (by simp[JP]);have k:=k.symm.trans R;injection k with k;subst k;refine .z (λz=>z.1=s/\z.2.2.2.2.2.2.2.1=1/\ ∃m:Nat,m<=E.length/\m<=4096/\z.2.2.2.2.2.1=E.take m/\z.2.2.2.2.2.2.2.2=(m:Int)/\ ∃e,At s e z.2.1/\z.2.1+(e.length:Int)=(s.length:Int)/\e<+:frs (E.drop m)) ⟨rfl,rfl,0,zQ2 _,by decide,rfl,rfl,rest,⟨hd,[],by rw[hs];simp,by simp⟩,by simp_all,hr⟩ ?_;rintro⟨s',n,z1,z2,z3,es,z4,f,du⟩ ⟨rfl,rfl,m,hm,H,rfl,rfl,e,w,v,hp⟩
  (try dsimp only at w v hp)
  unfold n4;dsimp only;have fin: ∃r,((1,E.take m,(m:Int)):JG)=(1,E.take r,(r:Int))/\r<=E.length/\r<=4096:=⟨m,rfl,hm,H⟩;refine .l (λc=>.b λy6 C=>.d (λ_=>.s λ_=>fin) λK=>.b λy7 N=>.q (λc7=>.d (λ_=>.s λ_=>fin) λc8=>.b λy8 h8=>.s ⟨rfl,rfl,?_⟩) λ_=>.s λ_=>fin) λ_=>.s λ_=>fin;have hn:=w.bnd;by_cases j:m<E.length;have J:E.drop m=E[m]::E.drop (m+1):=List.drop_eq_getElem_cons j;have F:E[m]∈E:=mB j;obtain⟨G,S⟩:=hf _ F;rw[J]at hp;have Y:frs (E[m]::E.drop (m+1))=sB E[m]++frs (E.drop (m+1)):=by grind [frs]
  rw[Y]at hp;by_cases B:e.length<(sB E[m]).length;have e3:e=(sB E[m]).take e.length:=(by obtain⟨t,ht⟩:=hp;have:=congrArg (List.take e.length) ht;grind);exact absurd K (JOg G (by grind) B v hl _ C);obtain⟨D,rfl⟩: ∃D,e=sB E[m]++D:=(by obtain⟨t,ht⟩:=hp;refine⟨e.drop (sB E[m]).length,?_⟩;have:=congrArg (List.take (sB E[m]).length) ht;grind [List.take_append_drop]);have M:=SN G w.left hl;have A:=C.symm.trans M;injection A with A;subst A;have x:=N.symm.trans (SU S).1;injection x with x;subst x;have L:J0 (E.take m)=m:=by grind [J0]
  rw[L]at c;obtain⟨W,_⟩:=Q m _ (bC j);rw[L]at W;have tk:E.take (m+1)=E.take m++[E[m]]:=by simp_all
  rw[eP]at v;exact⟨m+1,j,by omega,by grind [hC],by simp_all,D,w.right,by grind,(List.prefix_append_right_inj _).1 hp⟩;have V:E.drop m=[]:=List.drop_eq_nil_of_le oo;rw[V]at hp;have I:e=[]:=by grind [frs]
  subst I;exfalso;have a4:J0 s'=s'.length:=rfl;have o:=bI (J0 s') n;simp only[List.length_nil]at v hn;have q:Par (jA (s',n)) λy=>y.2.2≠0:=by
   unfold jA;dsimp only;refine .j (λ_=>.g (λ_=>.s qQH) λ_=>.b λU h2=>.d (λ_=>.s qQH) λP=>?_) λ_=>.s qQH;have g:Par (JI (s',n,4)) λy=>y.2≠0:=by unfold JI;dsimp only;exact .j (λ_=>.k (λ_=>.l (λ_=>.s qQH) λ_=>.k (λ_=>.l (λ_=>.s qQH) λc=>by omega) λ_=>.s qQH) λ_=>.s qQH) λ_=>.s qQH
   exact absurd P (g _ h2)
  exact q _ C K
 exact q _ h
end
section
variable {lk lk' rows rows' out:List aB} {e:aA} {m:List aA} {n:Int}
def Chg(e:aA):Prop:=e.2.1=1\/e.2.1=2
theorem sW{b:Bool}(h:Jg e=some b):(b=true->Chg e)/\(b=false-> ¬Chg e):=by
 grind [Jg,Chg,gM]
def DG(lk:List aB)(e:aA)(d:aB):Prop:=(d.1=aT e->(Chg e->d.2.2=e.1)/\(¬Chg e-> ∃g∈lk,g.1=aT e/\d.2.2=g.2.2))/\(d.1≠aT e->d∈lk)
def DQ(e:aA)(out:List aB)(d:aB):Prop:=(d.1≠aT e->d∈out)/\(d.1=aT e-> ¬Chg e->e.2.2.2.2.2.1<d.2.2-> ∃g∈out,g.1=aT e)
def DI(lk:List aB)(e:aA)(i:Int)(dn:Bool)(out:List aB):Prop:=(∀d∈out,DG lk e d)/\upw (DQ e out) lk i/\(Chg e->dn=true-> ∃d∈out,d.1=aT e)
def DF(lk:List aB)(e:aA)(out:List aB):Prop:=(∀d∈out,DG lk e d)/\(∀d∈lk,DQ e out d)/\(Chg e-> ∃d∈out,d.1=aT e)
theorem DQ.app{d x:aB}(h:DQ e out d):DQ e (out++[x]) d:=by
 refine⟨λa=>by simp[h.1 a],λa b c=>?_⟩;obtain⟨g,h1,h2⟩:=h.2 a b c;grind
theorem upw.mono{α:Type}{P Q:α->Prop}{l:List α}{i:Int}(h:upw P l i)(e: ∀x,P x->Q x):upw Q l i:=⟨h.1,λa=>⟨(h.2 a).1,λx g=>e x ((h.2 a).2 x g)⟩⟩
theorem DI.app{i:Int}{dn:Bool}{x:aB}(h:DI lk e i dn out)(hx:DG lk e x):DI lk e i dn (out++[x]):=by
 refine⟨λd hd=>?_,h.2.1.mono λ_ q=>q.app,λa b=>?_⟩;rcases zQ9.1 hd with hd|hd;exact h.1 d hd;simp_all;obtain⟨d,h1,h2⟩:=h.2.2 a b;grind
theorem DI.new{i:Int}{dn:Bool}{t:Int}(h:DI lk e i dn out)(hc:Chg e):DI lk e i true (out++[(aT e,t,e.1)]):=by have q:=h.app (x:=(aT e,t,e.1)) ⟨λ_=>⟨λ_=>rfl,λh=>absurd hc h⟩,λh=>absurd rfl h⟩;exact⟨q.1,q.2.1,λ_ _=>⟨_,List.mem_append_right _ (eO.2 rfl),rfl⟩⟩
theorem DI.next{i:Int}{dn g:Bool}{d:aB}(h:DI lk e i dn out)(hd:idx lk i=some d)(hq:DQ e out d)(j:g=true->Chg e-> ∃d∈out,d.1=aT e):DI lk e (J1 .i64 i 1) g out:=
 ⟨h.1,CZ h.2.1 hd hq,λa b=>j b a⟩
theorem JOx{y:List aB}(h:lY (lk,e)=some y):(Chg e\/e.2.1=7->DF lk e y)/\(¬(Chg e\/e.2.1=7)->y=lk):=by
 have lp:Par (J4 ou (lk,false,0,e,[])) λy=>DF lk e y:=by
  refine .z (λz=>z.1=lk/\z.2.2.2.1=e/\DI lk e z.2.2.1 z.2.1 z.2.2.2.2) ⟨rfl,rfl,λd h=>by simp at h,HB,nofun⟩ ?_;rintro⟨l,dn,i,e',out⟩ ⟨h1,h2,hi⟩
  (try dsimp only at h1 h2 hi)
  subst h1 h2;unfold ou;dsimp only;have same: ∀{d:aB} {dn:Bool} {out:List aB},DI l e' i dn out->idx l i=some d->
    Par (if aM d.1 e'.2.2.2.2.2.2.1.1 then
      (Jg e').bind λL=>
      if L then
       (JB 24 out [(d.1,d.2.1,e'.1)]).bind λF=>
       some (.inl (l,true,J1 .i64 i 1,e',F))
      else
       if aS e'.2.2.2.2.2.1 d.2.2 then
        some (.inl (l,true,J1 .i64 i 1,e',out))
       else
        if aS e'.2.2.2.2.2.1 d.2.1 then
         (JB 24 out [(d.1,J1 .i64 e'.2.2.2.2.2.1 1,d.2.2)]).bind λk=>
         some (.inl (l,true,J1 .i64 i 1,e',k))
        else
         (JB 24 out [d]).bind λD=>
         some (.inl (l,true,J1 .i64 i 1,e',D))
     else
      (JB 24 out [d]).bind λw=>
      some (.inl (l,dn,J1 .i64 i 1,e',w))) λr:(jC)⊕(List aB)=> ∃z,r=.inl z/\z.1=l/\z.2.2.2.1=e'/\DI l e' z.2.2.1 z.2.1 z.2.2.2.2:=by
   intro d dn out hi hd;have K:=pP hd;have keep: ∀{t:Int} {k:List aB},d.1=aT e'-> ¬Chg e'->JB 24 out [(d.1,t,d.2.2)]=some k->DI l e' (J1 .i64 i 1) true k:=fun{t k} v I n=>by rw[hC n];refine(hi.app (x:=(d.1,t,d.2.2)) ⟨λ_=>⟨λa=>absurd a I,λ_=>⟨d,K,v,rfl⟩⟩,λa=>absurd v a⟩).next hd ⟨λa=>absurd v a,λ_ _ _=>⟨(d.1,t,d.2.2),List.mem_append_right _ (eO.2 rfl),v⟩⟩ λ_ a=>absurd a I
   refine .e (λc=>.b λb hb=>.i (λg=>.b λF O=>.s ⟨_,rfl,rfl,rfl,?_⟩) λg=>.h (λH=>.s ⟨_,rfl,rfl,rfl,?_⟩) λH=>.h (λ_=>.b λk n=>.s ⟨_,rfl,rfl,rfl,keep c ((sW hb).2 g) n⟩) λ_=>.b λk n=>.s ⟨_,rfl,rfl,rfl,keep c ((sW hb).2 g) n⟩) λc=>.b λw G=>.s ⟨_,rfl,rfl,rfl,?_⟩;have hc:=(sW hb).1 g;dsimp only;rw[hC O,show d.1=aT e' from c];have q:=hi.new (t:=d.2.1) hc;exact q.next hd ⟨λa=>absurd c a,λ_ b=>absurd hc b⟩ λ_ a=>q.2.2 a rfl;exact hi.next hd ⟨λa=>absurd c a,λ_ _ a=>absurd H oo⟩ λ_ a=>absurd a ((sW hb).2 g);dsimp only;rw[hC G];have q:=hi.app (x:=d) ⟨λa=>absurd a c,λ_=>K⟩;exact q.next hd ⟨λ_=>by simp,λa=>absurd a c⟩ λa b=>q.2.2 b a
  have j: ∀{d:aB} {dn:Bool} {out:List aB} {o:Option ((jC)⊕(List aB))} {Q:((jC)⊕(List aB))->Prop},(∀z,z.1=l/\z.2.2.2.1=e'/\DI l e' z.2.2.1 z.2.1 z.2.2.2.2->Q (.inl z))->Par o (λr=> ∃z,r=.inl z/\z.1=l/\z.2.2.2.1=e'/\DI l e' z.2.2.1 z.2.1 z.2.2.2.2)->Par o Q:=fun{d dn out o Q} h1 h2=>h2.mono λr ⟨z,R,h⟩=>by grind
  refine .l (λ_=>.b λd hd=>.g (λ_=>.n (λ_=>.b λb hb=>.i (λg=>.b λM B=>j (d:=d) (dn:=dn) (out:=out) (λz h=>h) (same (dn:=true) ?_ hd)) λ_=>j (d:=d) (dn:=dn) (out:=out) (λz h=>h) (same hi hd)) λ_=>j (d:=d) (dn:=dn) (out:=out) (λz h=>h) (same hi hd)) λ_=>j (d:=d) (dn:=dn) (out:=out) (λz h=>h) (same hi hd)) λc=>.map ?_;rw[hC B];exact hi.new ((sW hb).1 g);have A:=IJ hi.2.1 c;refine .n (λ_=>.b λb hb=>.i (λg=>.b λM B=>.s ?_) λg=>.s ⟨hi.1,A,λa=>absurd a ((sW hb).2 g)⟩) λN=>.s ⟨hi.1,A,λa=>hi.2.2 a N⟩;dsimp only;rw[hC B];have q:=hi.new (t:=e'.1) ((sW hb).1 g);exact⟨q.1,λd hd=>(A d hd).app,λa=>q.2.2 a rfl⟩
 have J:Par (lY (lk,e)) λy=>(Chg e\/e.2.1=7->DF lk e y)/\(¬(Chg e\/e.2.1=7)->y=lk):=(by unfold lY;refine .b λb hb=>.n (λg=>.d (λE=>.s ⟨λh=>?_,λ_=>rfl⟩) λE=>Par.mono (P:=λy=>DF lk e y) lp λy C=>⟨λ_=>C,λh=>absurd (.inr E) h⟩) λg=>lp.mono λy C=>⟨λ_=>C,λh=>absurd (.inl ((sW hb).1 g)) h⟩;grind [sW]);exact J _ h
end
section
variable {lk lk' rows rows' out:List aB} {e:aA} {m:List aA} {n:Int}
theorem Rel.noted(h:Rel m n [] lk rows)(hm:dJ m)(he:SV m e)(hp:Chg e->aT e<n)(hd:(Chg e\/e.2.1=7->DF lk e lk')/\(¬(Chg e\/e.2.1=7)->lk'=lk))(hr:(e.2.1≠7->rows'=rows)/\(e.2.1=7->(∀q,q≠aT e->idx rows' q=idx rows q)/\ ∀r,idx rows' (aT e)=some r-> ∃r0,idx rows (aT e)=some r0/\r.1=bZ r0.1 e.2.2.2.2.2.1)):Rel (m++[e]) n [] lk' rows':=by
 obtain⟨I,_,_,y,_⟩:=he;by_cases hc:Chg e;have D:e.2.1≠7:=by rcases hc with h|h<;>omega
 obtain⟨g,k,G⟩:=hd.1 (.inl hc);rw[hr.1 D];refine⟨nofun,.nil,nofun,nofun,λd hd=>?_,λq r j=>?_,OJ h.pgs hp⟩;by_cases c:d.1=aT e;rw[DE,if_pos ⟨hc,c.symm⟩];exact((g d hd).1 c).1 hc;rw[DR λh=>c h.2.symm];exact h.lak d ((g d hd).2 c);obtain⟨v,w⟩:=h.row q r j;by_cases c:q=aT e;subst c;rw[DE,if_pos ⟨hc,rfl⟩];have:=zg hm (aT e);grind;rw[DR λh=>c h.2.symm];exact⟨v,λa b=>w a λd hd hp=>b d ((k d hd).1 (by simp_all)) hp⟩;have z: ∀p,cH (m++[e]) p=cH m p:=λp=>DR λh=>hc h.1;by_cases o:e.2.1=7;obtain⟨g,k,_⟩:=hd.1 (.inr o);obtain⟨E,F⟩:=hr.2 o;have y:=y o;refine⟨nofun,.nil,nofun,nofun,λd hd=>?_,λq r j=>?_,OJ h.pgs hp⟩;rw[z];by_cases c:d.1=aT e;obtain⟨C,x,h1,h2⟩:=((g d hd).1 c).2 hc;rw[h2,h.lak C x,h1,c];exact h.lak d ((g d hd).2 c);rw[z];by_cases c:q=aT e;subst c;obtain⟨r0,x,h1⟩:=F r j;obtain⟨v,w⟩:=h.row _ r0 x;have mx:=pO r0.1 e.2.2.2.2.2.1;refine⟨by omega,λ_ b=>?_⟩;by_cases A: ∀d∈lk,d.1≠aT e;grind;obtain⟨d,hd,hp⟩: ∃d,d∈lk/\d.1=aT e:=by simpa using A
 have hl:=h.lak d hd;rw[hp]at hl;by_cases B:e.2.2.2.2.2.1<d.2.2;obtain⟨H,h1,h2⟩:=(k d hd).2 hp hc B;grind;omega;rw[E _ c]at j;obtain⟨v,w⟩:=h.row q r j;exact⟨v,λa b=>w a λd hd hp=>b d ((k d hd).1 (by simp_all)) hp⟩;rw[hd.2 (λh=>by simp_all),hr.1 o];exact h.ent hc
theorem JP7{a:oF}{y:yC}(h:EI (a,e)=some y)(c:y.2=0)(hr:Rel m a.1 [] a.2.2.2.2.2.1 a.2.2.2.2.2.2)(hm:dJ m)(he:SV m e):y.1.1=a.1/\y.1.2.2.1=a.2.2.1/\Rel (m++[e]) y.1.1 [] y.1.2.2.2.2.2.1 y.1.2.2.2.2.2.2:=by
 have q:Par (EI (a,e)) λy=>y.2=0->y.1.1=a.1/\y.1.2.2.1=a.2.2.1/\Rel (m++[e]) y.1.1 [] y.1.2.2.2.2.2.1 y.1.2.2.2.2.2.2:=by
  unfold EI;have o: ∀{t:Int} {j l2:List Js},Par ((kO (a.2.2.2.2.2.2,e)).bind λg=>
   if aO g.2 0 then
    some ((a.1,t,a.2.2.1,j,a.2.2.2.2),g.2)
   else
    (Jg e).bind λw=>
    if w then
     if aS e.2.2.2.2.2.2.1.1 a.1 then
      some ((a.1,t,a.2.2.1,j,a.2.2.2.2.1,a.2.2.2.2.2.1,g.1),1)
     else
      (lY (a.2.2.2.2.2.1,e)).bind λn=>
      some ((a.1,t,a.2.2.1,j,a.2.2.2.2.1,n,g.1),0)
    else
     (lY (a.2.2.2.2.2.1,e)).bind λv=>
     some ((a.1,t,a.2.2.1,j,a.2.2.2.2.1,v,g.1),0)) λy=>y.2=0->y.1.1=a.1/\y.1.2.2.1=a.2.2.1/\Rel (m++[e]) y.1.1 [] y.1.2.2.2.2.2.1 y.1.2.2.2.2.2.2:=fun{t j l2}=>by
    refine .b λg z=>.d (λc=>.s λh=>absurd h c) λx=>?_;have dn:(Chg e->aT e<a.1)->Par ((lY (a.2.2.2.2.2.1,e)).bind λn=>some ((a.1,t,a.2.2.1,j,a.2.2.2.2.1,n,g.1),(0:Int))) λy=>y.2=0->y.1.1=a.1/\y.1.2.2.1=a.2.2.1/\Rel (m++[e]) y.1.1 [] y.1.2.2.2.2.2.1 y.1.2.2.2.2.2.2:=λhp=>.b λn r=>.s λ_=>⟨rfl,rfl,hr.noted hm he hp (JOx r) (wy z x).2⟩;exact .b λ_ hb=>.i (λ_=>.h (λ_=>.s nofun) λc=>dn λ_=>by unfold aT;omega) λc=>dn λk=>absurd k ((sW hb).2 c)
  refine .g (λ_=>.b λ_ _=>.l (λ_=>.b λ_ _=>.d (λc=>.s λh=>absurd h c) λ_=>.b λ_ _=>.d (λc=>.s λh=>absurd h c) λ_=>o (l2:=[])) λ_=>.b λ_ _=>.d (λc=>.s λh=>absurd h c) λ_=>o (l2:=[])) λ_=>.b λ_ _=>.d (λc=>.s λh=>absurd h c) λ_=>o (l2:=[])
 exact q _ h c
variable {l:JG}
theorem JKP{y:ue}(h:EU l=some y)(hc:dJ l.2.1):y.2.2=true-> ∃(j:Nat),y.2.1=(j:Int)+1/\j+1<=l.2.1.length/\Rel (l.2.1.take (j+1)) y.1.1 [] y.1.2.2.2.1 y.1.2.2.2.2:=by
 have r:Par (EU l) λy=>y.2.2=true-> ∃(j:Nat),y.2.1=(j:Int)+1/\j+1<=l.2.1.length/\Rel (l.2.1.take (j+1)) y.1.1 [] y.1.2.2.2.1 y.1.2.2.2.2:=by
  unfold EU;refine .b λ_ _=>.n (λ_=>.s nofun) λ_=>.z (λz=>z.2.1=l) rfl ?_;rintro⟨i,l',z⟩ o
  (try dsimp only at o)
  subst o;unfold Fc;refine .h (λ_=>.b λF v=>.d (λ_=>.s rfl) λB=>.b λD k=>.b λA G=>.e (λH=>.b λC e=>.s λ_=>?_) λ_=>.s rfl) λ_=>.s nofun;rw[v]at k e;injection k with k;injection e with e;subst k;subst e;obtain⟨x,q⟩:=bU v
  (try dsimp only at x q)
  obtain⟨E,_,_,_,w⟩:=hc _ _ q;have n:=(dS.1 q).1;have hl:J0 (l'.2.1.take i.toNat)=i:=by grind [J0]
  refine⟨i.toNat,by grind,n,?_⟩;have g:=w B A.1 (by grind);rw[List.take_add_one,q];exact g.ent oo
 exact r _ h
theorem Nn{n:Int}{y:vK}(h:DO n=some y): ∀r∈y.1,r.1=0:=by
 grind [DO,mkS]
theorem JN1{pages:Int}{y:yC}(hp:1<=pages/\pages<=64)(h:FF (l,pages)=some y)(c:y.2=0)(hc:dJ l.2.1):y.1.1=pages/\ ∃j:Nat,y.1.2.2.1=(j:Int)/\j<=l.2.1.length/\Rel (l.2.1.take j) y.1.1 [] y.1.2.2.2.2.2.1 y.1.2.2.2.2.2.2:=by
 have e:Par (FF (l,pages)) λy=>y.2=0->y.1.1=pages/\ ∃j:Nat,y.1.2.2.1=(j:Int)/\j<=l.2.1.length/\Rel (l.2.1.take j) y.1.1 [] y.1.2.2.2.2.2.1 y.1.2.2.2.2.2.2:=(by unfold FF;refine .b λq h2=>.n (λ_=>.g (λ_=>.s nofun) λ_=>.b λn k=>.s λ_=>⟨rfl,0,rfl,zQ2 _,?_⟩) λo=>.d (λ_=>.s nofun) λcp=>.s λ_=>?_;refine⟨nofun,.nil,nofun,nofun,nofun,λp r g=>?_,hp,nofun⟩;have z:r.1=0:=Nn k r (pP g);rw[z];exact⟨aZ _,λ_ _=>rfl⟩;grind [JKP]);exact e _ h c
theorem JJ6{pages:Int}{y:yC}(h:FN (l,pages)=some y)(c:y.2=0)(hc:dJ l.2.1):y.1.1=pages/\Rel l.2.1 pages [] y.1.2.2.2.2.2.1 y.1.2.2.2.2.2.2:=by
 have C:Par (FN (l,pages)) λy=>y.2=0->y.1.1=pages/\Rel l.2.1 pages [] y.1.2.2.2.2.2.1 y.1.2.2.2.2.2.2:=by
  unfold FN;refine .b λ_ _=>.n (λ_=>.s nofun) λ_=>.j (λn=>.g (λ_=>.s nofun) λr=>.b λP K=>.d (λc=>.s λh=>absurd h c) λJ=>?_) λ_=>.s nofun;obtain⟨b1,j,b2,O,R⟩:=JN1 (by(try dsimp only at n r);omega) K J hc;refine .z (λz=>z.2.1=l/\z.2.2.2.1=pages/\z.2.2.2.2.2.1=(j:Int)/\z.1<=9223372036854775807/\(0<=z.1->Rel (l.2.1.take (max j z.1.toNat)) pages [] z.2.2.2.2.2.2.2.2.1 z.2.2.2.2.2.2.2.2.2)) ⟨rfl,b1,b2,show(0:Int)<=9223372036854775807 by decide,λ_=>by simp_all⟩ ?_;rintro⟨i,l',T,a⟩ ⟨h1,h2,v,I,D⟩
  (try dsimp only at h1 h2 v I D)
  subst h1;unfold pb;dsimp only;have o:=Jd i 1;refine .l (λ_=>.b λe w=>.G (λG=>.s ⟨rfl,h2,v,by grind,λhp=>?_⟩) λG=>.b λS k=>.b λN F=>.d (λc=>.s λh=>absurd h c) λE=>.s ?_) λQ=>.map (.z (λz=>z.2.2.2.1=a) rfl ?_);obtain⟨B,q⟩:=bU w;have L:=(hc _ _ q).1;have x:=(dS.1 q).1;have hl:J0 (l'.2.1.take i.toNat)=i:=by grind [J0]
  grind;rw[w]at k;injection k with k;subst k;obtain⟨B,q⟩:=bU w;have x:=(dS.1 q).1;have ea:=hc _ _ q;have hl:J0 (l'.2.1.take i.toNat)=i:=by grind [J0]
  have L:=ea.1;have g:=D B;rw[show max j i.toNat=i.toNat by omega]at g;obtain⟨n,r,H⟩:=JP7 F E (by simp_all) (hc.take _) ea;refine⟨rfl,n.trans h2,r.trans v,by grind,λhp=>?_⟩
  (try dsimp only at hp⊢)
  rw[show max j (J1 .i64 i 1).toNat=i.toNat+1 by omega,List.take_add_one,q,<-h2,<-n];exact H;rintro⟨i2,V,M,U,out⟩ A
  (try dsimp only at A)
  subst A;unfold pa;refine .l (λ_=>.b λ_ _=>.g (λ_=>.b λ_ _=>.b λ_ _=>.s rfl) λ_=>.s rfl) λ_=>.map (.b λ_ _=>.d (λc=>.s λh=>absurd h c) λ_=>.s λ_=>⟨h2,?_⟩);grind [List.take_of_length_le,J0]
 exact C _ h c
theorem JNi{a:oF}{j:Int}{y:dC}(h:EZ (l,a,j)=some y)(c:y.2=0)(hl:iC l)(hc:dJ l.2.1)(hr:Rel l.2.1 a.1 [] a.2.2.2.2.2.1 a.2.2.2.2.2.2):JH y.1:=by
 have g:Par (EZ (l,a,j)) λy=>y.2=0->JH y.1:=(by unfold EZ;refine .b λr h2=>.d (λc=>.s λh=>absurd h qQH) λo=>.b λ_ _=>.n (λ_=>.s nofun) λ_=>.z (λz=>JH z.2.2.2.2.2) ⟨hl,hc,?_⟩ ?_;grind [zQ];intro z e;unfold oc;exact .l (λ_=>.b λ_ _=>.e (λ_=>.s e) λ_=>.b λ_ _=>.b λq n=>.d (λc=>.s λh=>absurd h c) λk=>.s (UJ n k e (.inr (.inl rfl)))) λ_=>.s λ_=>e);exact g _ h c
end
section
variable {s:qQC} {p:Int}
theorem sY{n:Int}{k:Nat}(b:Nat)(h:At s (J0d n k) p)(hl:s.length<=4611686018427387904)(h0:0<=n)(hn:n<b)(hb:b=2^(8*k):=by rfl)(h1:1<=k:=by decide)(g:k<=8:=by decide)(e:n<9223372036854775808:=by omega):JI (s,p,(k:Int))=some (n,0):=by
 grind [Int.eq_ofNat_of_zero_le,BP]
def xL(r:aB):qQC:=J0d r.1 8++(J0d r.2.1 8++J0d r.2.2 8)
def iD(l:List aB):qQC:=(l.map xL).flatten
def QH(r:aB):Prop:=(0<=r.1/\r.1<=1099511627776)/\(0<=r.2.1/\r.2.1<=1099511627776)/\0<=r.2.2/\r.2.2<=1099511627776
def xS(r:aB):qQC:=J0d r.1 1++(J0d r.2.1 8++J0d r.2.2 8)
def qV(l:List aB):qQC:=(l.map xS).flatten
def LO(r:aB):Prop:=(0<=r.1/\r.1<64)/\(0<=r.2.1/\r.2.1<=1099511627776)/\0<=r.2.2/\r.2.2<=1099511627776
theorem JOu{l:List aB}(h:iO l=some true):J0 l<=64/\ ∀r∈l,QH r:=by
 have ls: ∀{n:Int} {b:Bool},pU n=some b->b=true->0<=n/\n<=1099511627776:=fun{n b} hb C=>by
  have k:Par (pU n) λb=>b=true->0<=n/\n<=1099511627776:=.h (λc=>.s λd=>⟨c,dU.1 d⟩) λ_=>.s nofun
  exact k _ hb C
 have B:Par (iO l) λy=>y=true->J0 l<=64/\ ∀r∈l,QH r:=by
  unfold iO;refine .j (λ_=>.g (λ_=>.s nofun) λc=>.z (λz=>z.2=l/\upw QH l z.1) ⟨rfl,HB⟩ ?_) λ_=>.s nofun;rintro⟨i,l'⟩ ⟨h1,w⟩
  (try dsimp only at h1 w)
  subst h1;unfold oh;have go: ∀{r:aB} {x A v:Bool},idx l' i=some r->pU r.1=some x->x=true->pU r.2.1=some A->A=true->pU r.2.2=some v->v=true->upw QH l' (J1 .i64 i 1):=λj h1 e h2 g q o=>CZ w j ⟨ls h1 e,ls h2 g,ls q o⟩;exact .l (λ_=>.b λr j=>.b λx h1=>.r (λe=>.b λA h2=>.r (λg=>.b λv q=>.r (λo=>.e (λ_=>.d (λ_=>.s nofun) λ_=>.s ⟨rfl,go j h1 e h2 g q o⟩) λ_=>.s ⟨rfl,go j h1 e h2 g q o⟩) λ_=>.s nofun) λ_=>.s nofun) λ_=>.s nofun) λD=>.s λ_=>⟨Int.not_lt.1 c,IJ w D⟩
 exact B _ h rfl
theorem JR7{l:List aB}{n:Int}(h:mY (l,n)=some true)(hn:n<=64):J0 l<=64/\ ∀r∈l,LO r:=by
 have v:Par (mY (l,n)) λy=>y=true->J0 l<=64/\ ∀r∈l,LO r:=by
  unfold mY;refine .z (λz=>z.1=l/\z.2.1=n/\upw LO l z.2.2/\(0<=z.2.2->z.2.2<=J0 l/\z.2.2<=64/\ ∀r,idx l (z.2.2-1)=some r->z.2.2-1<=r.1)) ⟨rfl,rfl,HB,λ_=>⟨J8,show(0:Int)<=64 by decide,λr e=>absurd (bU e).1 (show¬(0:Int)<=0-1 by decide)⟩⟩ ?_;rintro⟨l',j,i⟩ ⟨h1,h2,g,hi⟩
  (try dsimp only at h1 h2 g hi)
  subst h1 h2;unfold fc;dsimp only;have o:=Jd i 1;have G:=bI i 1;refine .l (λK=>.b λr e=>.j (λH=>.o (λI=>.j (λN=>.k (λL=>.k (λJ=>?_) λ_=>.s nofun) λ_=>.s nofun) λ_=>.s nofun) λ_=>.s nofun) λ_=>.s nofun) λA=>.s λ_=>⟨?_,IJ g A⟩;obtain⟨x,q⟩:=bU e;obtain⟨D,M,E⟩:=hi x;have w:LO r:=⟨⟨by omega,by omega⟩,⟨by omega,by omega⟩,by omega,by omega⟩;have nx:i<=r.1->(l'=l'/\j=j/\upw LO l' (J1 .i64 i 1)/\(0<=J1 .i64 i 1->J1 .i64 i 1<=J0 l'/\J1 .i64 i 1<=64/\ ∀r,idx l' (J1 .i64 i 1-1)=some r->J1 .i64 i 1-1<=r.1)):=λC=>⟨rfl,rfl,CZ g e w,λhp=>⟨by omega,by omega,λr' k=>by
   grind⟩⟩
  refine .g (λB=>.b λr' k=>.h (λ_=>.s nofun) λF=>.s (nx ?_)) λB=>.s (nx oo);grind;grind
 exact v _ h rfl
theorem JRV{l:List aB}{y:qQC×Int}(h:EQ l=some y)(hv:iO l=some true):y.1=J0d (J0 l) 2++iD l:=by
 have n:Par (EQ l) λy=>y.1=J0d (J0 l) 2++iD l:=by
  unfold EQ;refine .b λv E=>.n (λc=>by simp_all) λ_=>.b λG C=>.z (λz=>z.2.2=l/\z.2.1<=9223372036854775807/\(0<=z.2.1->z.1=J0d (J0 l) 2++iD (l.take z.2.1.toNat))) ⟨rfl,show(0:Int)<=9223372036854775807 by decide,λ_=>by rw[dT (k:=2) qQH qQH C];simp[iD]⟩ ?_;rintro⟨o,i,l'⟩ ⟨h1,h2,hi⟩
  (try dsimp only at h1 h2 hi)
  subst h1;unfold o8;dsimp only;have oq:=Jd i 1;refine .l (λ_=>.b λr w=>.b λI B=>.b λK e=>.b λH A=>.b λF g=>.b λD j=>.s ⟨rfl,by grind,λhp=>?_⟩) λJ=>.s ?_;rw[w]at e g;injection e with e;injection g with g;subst e;subst g;obtain⟨x,q⟩:=bU w
  (try dsimp only at hp⊢)
  rw[dT (k:=8) qQH qQH j,dT (k:=8) qQH qQH A,dT (k:=8) qQH qQH B,hi x,show(J1 .i64 i 1).toNat=i.toNat+1 by omega,List.take_add_one,q];simp[iD,xL];grind [List.take_of_length_le,J0]
 exact n _ h
theorem At.rows{l:List aB}(h:At s (iD l) p): ∀{i:Nat} {r:aB},l[i]?=some r->At s (xL r) (p+24*i):=by
 induction l generalizing p with
 |nil=>simp_all
 |cons x l ih=>
  intro i r g;have e:iD (x::l)=xL x++iD l:=by simp[iD]
  rw[e]at h;cases i with
  |zero=>simp at g;subst g;simpa using h.left
  |succ i=>
   have q:=ih h.right (i:=i) (r:=r) (by simpa using g);have j:(xL x).length=24:=by simp[xL,JP]
   grind
theorem At.dirs{l:List aB}(h:At s (qV l) p): ∀{i:Nat} {r:aB},l[i]?=some r->At s (xS r) (p+17*i):=by
 induction l generalizing p with
 |nil=>simp_all
 |cons x l ih=>
  intro i r g;have e:qV (x::l)=xS x++qV l:=by simp[qV]
  rw[e]at h;cases i with
  |zero=>simp at g;subst g;simpa using h.left
  |succ i=>
   have q:=ih h.right (i:=i) (r:=r) (by simpa using g);have j:(xS x).length=17:=by simp[xS,JP]
   grind
theorem JRY{l:List aB}{y:vK}(h:ES (J0d (J0 l) 2++iD l)=some y)(hl:J0 l<=64)(A: ∀r∈l,QH r)(c:y.2=0):y.1=l:=by
 have len:(iD l).length=24*l.length:=by
  clear h hl A
  induction l with
  |nil=>rfl
  |cons x l ih=>grind [iD,xL,JP]
 have G:=J8 (l:=l);have L:J0 l=l.length:=rfl;have B:Par (ES (J0d (J0 l) 2++iD l)) λy=>y.2=0->y.1=l:=by
  generalize K:J0d (J0 l) 2++iD l=s;have D:At s (J0d (J0 l) 2++iD l) 0:=by rw[K];exact .all
  have hs:s.length<=4611686018427387904:=by grind [JP]
  have g:=sY (k:=2) 65536 D.left hs G oo;have E:=D.right;rw[JP]at E;unfold ES;refine .b λY h2=>.q (λ_=>.l (λ_=>.s nofun) λ_=>.g (λ_=>.s nofun) λ_=>?_) λ_=>.s nofun;have w:=h2.symm.trans g;injection w with w;subst w;refine .z (λz=>z.1=s/\z.2.1=J0 l/\ ∃i:Nat,z.2.2.1=(i:Int)/\i<=l.length/\z.2.2.2.2=l.take i) ⟨rfl,rfl,0,rfl,zQ2 _,rfl⟩ ?_;rintro⟨s',n,W,z,o⟩ ⟨h1,C,i,j,v,e⟩
  (try dsimp only at h1 C j v e)
  subst h1 C j e;unfold pd;dsimp only;have oq:=Jd (i:Int) 1;have om:=pG 24 (i:Int);have O:=Jd 2 (bT .i64 24 (i:Int));have S:=Jd 10 (bT .i64 24 (i:Int));have U:=Jd 18 (bT .i64 24 (i:Int));refine .l (λT=>.b λV j=>.b λP v=>.b λQ e=>.b λM N=>.s ⟨rfl,rfl,i+1,by grind,by omega,?_⟩) λR=>.map (.b λ_ _=>.n (λ_=>.s nofun) λ_=>.s λ_=>by grind);have q:i<l.length:=by omega
  have J:=bC q;obtain⟨F,H,I⟩:=A _ (mB q);have ar:=E.rows J;unfold xL at ar;have g1:=sY (k:=8) 18446744073709551616 ar.left hs F.1 oo;have ar:=ar.right;rw[JP]at ar;have g2:=sY (k:=8) 18446744073709551616 ar.left hs H.1 oo;have ar:=ar.right;rw[JP]at ar;have Z:=sY (k:=8) 18446744073709551616 ar hs I.1 oo;rw[show J1 .i64 2 (bT .i64 24 (i:Int))=0+((2:Nat):Int)+24*(i:Int) by omega]at j;rw[show J1 .i64 10 (bT .i64 24 (i:Int))=0+((2:Nat):Int)+24*(i:Int)+((8:Nat):Int) by omega]at v;rw[show J1 .i64 18 (bT .i64 24 (i:Int))=0+((2:Nat):Int)+24*(i:Int)+((8:Nat):Int)+((8:Nat):Int) by omega]at e;grind [hC,List.take_add_one]
 exact B _ h c
end
section
variable {s:qQC} {p:Int}
theorem Mv{c:kR}(h:pX c=some true):(1<=c.1/\c.1<=64)/\mY (c.2.2.2.1,c.1)=some true/\iO c.2.2.2.2=some true:=by
 have e:Par (pX c) λy=>y=true->(1<=c.1/\c.1<=64)/\mY (c.2.2.2.1,c.1)=some true/\iO c.2.2.2.2=some true:=.j (λn=>.k (λj=>.j (λ_=>.k (λ_=>.b λ_ _=>.r (λ_=>.b λa o=>.r (λk=>.b λb hb=>.r (λg=>.d (λ_=>.s nofun) λ_=>λ_ _ _=>⟨⟨by omega,by omega⟩,by simp_all,by simp_all⟩) λ_=>.s nofun) λ_=>.s nofun) λ_=>.s nofun) λ_=>.s nofun) λ_=>.s nofun) λ_=>.s nofun) λ_=>.s nofun
 exact e _ h rfl
def ckB(c:kR)(t:qQC):qQC:=J0d c.1 2++(J0d c.2.1 4++(J0d (J0 t) 4++(t++(J0d (J0 c.2.2.2.1) 1++(qV c.2.2.2.1++(J0d (J0 c.2.2.2.2) 2++iD c.2.2.2.2))))))
theorem JRw{c:kR}{y:qQC×Int}(h:EW c=some y):y.1=[]\/(pX c=some true/\ ∃t,y.1=ckB c t):=by
 have A:Par (EW c) λy=>y.1=[]\/(pX c=some true/\ ∃t,y.1=ckB c t):=by
  unfold EW;refine .b λv x=>.n (λ_=>.s (.inl rfl)) λO=>.b λw V=>.b λU I=>.b λR J=>.b λS F=>.b λM C=>.b λQ E=>?_;have x:pX c=some true:=by simp_all
  obtain⟨_,_,G⟩:=Mv x;refine .z (λz=>z.2.2=c/\z.2.1<=9223372036854775807/\(0<=z.2.1->z.1=J0d c.1 2++(J0d c.2.1 4++(J0d (J0 w.1) 4++(w.1++(J0d (J0 c.2.2.2.1) 1++qV (c.2.2.2.1.take z.2.1.toNat))))))) ⟨rfl,show(0:Int)<=9223372036854775807 by decide,λ_=>?_⟩ ?_;dsimp only;rw[dT (k:=1) qQH qQH E,qY C,dT (k:=4) qQH qQH F,dT (k:=4) qQH qQH J,dT (k:=2) qQH qQH I];simp[qV];rintro⟨o,i,c'⟩ ⟨h1,h2,hi⟩
  (try dsimp only at h1 h2 hi)
  subst h1;unfold o3;dsimp only;have oq:=Jd i 1;refine .l (λ_=>.b λr B=>.b λa K=>.b λW j=>.b λb hb=>.b λN n=>.b λd hd=>.s ⟨rfl,by grind,λhp=>?_⟩) λT=>.map (.b λe L=>.b λg H=>.s (.inr ⟨x,w.1,?_⟩));rw[B]at j n;injection j with j;injection n with n;subst j;subst n;obtain⟨D,q⟩:=bU B
  (try dsimp only at hp⊢)
  rw[dT (k:=8) qQH qQH hd,dT (k:=8) qQH qQH hb,dT (k:=1) qQH qQH K,hi D,show(J1 .i64 i 1).toNat=i.toNat+1 by omega,List.take_add_one,q];simp[qV,xS];have P:=J8 (l:=c'.2.2.2.1);show g=_;rw[qY H,JRV L G,hi oo,List.take_of_length_le (by grind [J0])];simp[ckB]
 exact A _ h
theorem yj(l:List aB):(qV l).length=17*l.length:=by
 induction l with
 |nil=>rfl
 |cons x l ih=>grind [qV,xS,JP]
theorem JRM{c c':kR}{t:qQC}(hv:pX c=some true)(hl:(ckB c t).length<=8192)(h:wY (ckB c t)=some (c',0)):c'.1=c.1/\c'.2.2.2.1=c.2.2.2.1/\c'.2.2.2.2=c.2.2.2.2:=by
 obtain⟨v1,v2,v3⟩:=Mv hv;obtain⟨d1,T⟩:=JR7 v2 v1.2;obtain⟨r1,r2⟩:=JOu v3;have N:Par (wY (ckB c t)) λy=>y.2=0->y.1.1=c.1/\y.1.2.2.2.1=c.2.2.2.1/\y.1.2.2.2.2=c.2.2.2.2:=by
  generalize Q:ckB c t=s at hl;have x:At s (ckB c t) 0:=by rw[Q];exact .all
  have hs:s.length<=4611686018427387904:=by omega
  unfold ckB at x;have S:=sY (k:=2) 65536 x.left hs oo oo;have j:=x.right.right;simp only[JP]at j;have b1:=j.bnd;simp only[eP,JP]at b1;have lt:J0 t=t.length:=rfl;have ld:J0 c.2.2.2.1=c.2.2.2.1.length:=rfl;have ls:J0 s=s.length:=rfl;have P:=sY (k:=4) 4294967296 j.left hs oo oo;have A:=j.right.right;simp only[JP]at A;have W:=sY (k:=1) 256 A.left hs oo oo;have C:=A.right;simp only[JP]at C;have R:=C.right;rw[yj]at R;have o1:=Jd 10 (J0 t);have o2:=Jd (J1 .i64 10 (J0 t)) 1;unfold wY;refine .b λy2 h2=>.b λy3 h3=>.b λy4 h4=>?_;have w:=h2.symm.trans S;have v:=h4.symm.trans P;injection w with w;injection v with v;subst w;subst v;dsimp only;refine .q (λ_=>.g (λ_=>.s nofun) λ_=>.b λy5 h5=>.b λy6 O=>?_) λ_=>.s nofun;rw[show J1 .i64 10 (J0 t)=0+((2:Nat):Int)+((4:Nat):Int)+((4:Nat):Int)+(t.length:Int) by omega]at O;have r:=O.symm.trans W;injection r with r;subst r;refine .q (λ_=>.l (λ_=>.s nofun) λ_=>?_) λ_=>.s nofun;refine .z (λz=>z.1=s/\z.2.2.2.1=J0 c.2.2.2.1/\z.2.2.2.2.2.2.2.2.2.2.2.1=c.1/\ ∃i:Nat,z.2.2.2.2.1=(i:Int)/\i<=c.2.2.2.1.length/\z.2.2.1=11+J0 t+17*(i:Int)/\z.2.2.2.2.2.2.2.2.2.2.1=c.2.2.2.1.take i) ⟨rfl,rfl,rfl,0,rfl,zQ2 _,by grind,rfl⟩ ?_;rintro⟨s',B,aj,n,i',q2,q3,q4,q5,q6,D,pg,q7⟩ ⟨K,I,J,i,G,Z,M,q⟩
  (try dsimp only at K I J G Z M q)
  subst K I J G M q;unfold oj;dsimp only;have p1:=Jd (i:Int) 1;have p2:=Jd (11+J0 t+17*(i:Int)) 1;have p3:=Jd (11+J0 t+17*(i:Int)) 9;have p4:=Jd (11+J0 t+17*(i:Int)) 17;refine .l (λci=>.b λy8 Y=>.b λy9 h9=>.b λaf H=>.b λai al=>.s ⟨rfl,rfl,rfl,i+1,by grind,by omega,by grind,?_⟩) λcn=>.map (.b λah _=>.d (λc=>.s λh=>absurd h c) λ_=>.b λL E=>.b λak ae=>.d (λc=>.s λh=>absurd h c) λag=>.b λ_ _=>.n (λ_=>.s nofun) λ_=>.s λ_=>⟨rfl,?_,?_⟩);have o:i<c.2.2.2.1.length:=by omega
  have hr:=bC o;obtain⟨V,U,f3⟩:=T _ (mB o);have ar:=C.left.dirs hr;unfold xS at ar;have S:=sY (k:=1) 256 ar.left hs V.1 oo;have ar:=ar.right;rw[JP]at ar;have g2:=sY (k:=8) 18446744073709551616 ar.left hs U.1 oo;have ar:=ar.right;rw[JP]at ar;have P:=sY (k:=8) 18446744073709551616 ar hs f3.1 oo;rw[show 11+J0 t+17*(i:Int)=0+((2:Nat):Int)+((4:Nat):Int)+((4:Nat):Int)+(t.length:Int)+((1:Nat):Int)+17*(i:Int) by omega]at Y;rw[show J1 .i64 (11+J0 t+17*(i:Int)) 1=0+((2:Nat):Int)+((4:Nat):Int)+((4:Nat):Int)+(t.length:Int)+((1:Nat):Int)+17*(i:Int)+((1:Nat):Int) by omega]at h9;rw[show J1 .i64 (11+J0 t+17*(i:Int)) 9=0+((2:Nat):Int)+((4:Nat):Int)+((4:Nat):Int)+(t.length:Int)+((1:Nat):Int)+17*(i:Int)+((1:Nat):Int)+((8:Nat):Int) by omega]at H;grind [hC,List.take_add_one];grind;have hi:i=c.2.2.2.1.length:=by omega
  obtain⟨_,F⟩:=xd E;have e:L=J0d (J0 c.2.2.2.2) 2++iD c.2.2.2.2:=by
   obtain⟨pre,g,B,q2⟩:=R;have b4:(pre++((J0d (J0 c.2.2.2.2) 2++iD c.2.2.2.2)++g)).length=(J0d c.1 2++(J0d c.2.1 4++(J0d (J0 t) 4++(t++(J0d (J0 c.2.2.2.1) 1++(qV c.2.2.2.1++(J0d (J0 c.2.2.2.2) 2++iD c.2.2.2.2))))))).length:=by rw[<-B,<-Q];rfl
   simp only[eP,JP,yj]at b4;have hp:g=[]:=List.length_eq_zero_iff.1 oo;subst hp;rw[F,B,iQ,show(11+J0 t+17*(i:Int)).toNat=pre.length by omega];simp
  grind [JRY]
 exact N _ h rfl
end
section
variable {k:J6}
theorem JIJ{p:JL}{y:List aB}(h:wL p=some y)(hv:JU p=some true)(one:p.2.1.Pairwise λa b=>a.1.1≠b.1.1):(∀d∈y,∃f∈p.2.1,f.1.1=d.1/\d.2.2=f.1.2.1)/\ ∀f∈p.2.1,f.2.1=true->0<=f.1.1->f.1.1<64-> ∃d∈y,d.1=f.1.1:=by
 have A:Par (wL p) λy=>(∀d∈y,∃f∈p.2.1,f.1.1=d.1/\d.2.2=f.1.2.1)/\ ∀f∈p.2.1,f.2.1=true->0<=f.1.1->f.1.1<64-> ∃d∈y,d.1=f.1.1:=by
  unfold wL;refine .b λv K=>.n (λc=>by simp_all) λ_=>.z (λz=>z.2.1=p/\(0<=z.1/\z.1<=64)/\(∀d∈z.2.2,∃f∈p.2.1,f.1.1=d.1/\d.2.2=f.1.2.1)/\ ∀f∈p.2.1,f.2.1=true->0<=f.1.1->f.1.1<z.1-> ∃d∈z.2.2,d.1=f.1.1) ⟨rfl,⟨aZ _,show(0:Int)<=64 by decide⟩,nofun,λf _ _ a b=>by grind⟩ ?_;rintro⟨i,G,o⟩ ⟨h1,⟨h2,I⟩,k,r⟩
  (try dsimp only at h1 h2 I k r)
  subst h1;unfold oz;dsimp only;have oq:=Jd i 1;refine .l (λF=>.b λj C=>.h (λw=>.b λf hf=>?_) λw=>.s ⟨rfl,by grind,k,λg H a b c=>?_⟩) λF=>.s ⟨k,λf hf a b c=>r f hf a b oo⟩;obtain⟨g,n,P⟩:=(zE C).2.1 w;rw[hf]at n;injection n with n;subst n;have E: ∀x∈G.2.1,x.1.1=i->x=f:=λx q e=>by
   obtain⟨a,R⟩:=fA.1 q;obtain⟨_,hb⟩:=bU hf;grind [Lh]
  refine .i (λD=>.b λN L=>.b λO J=>.b λM B=>.s ⟨rfl,by grind,λd hd=>?_,λx q a b c=>?_⟩) λD=>.s ⟨rfl,by grind,k,λx q a b c=>?_⟩
  (try dsimp only at hd)
  rw[hC B]at hd;grind [pP]
  (try dsimp only at c⊢)
  rw[hC B];by_cases e:x.1.1=i;exact⟨_,List.mem_append_right _ (eO.2 rfl),e.symm⟩;obtain⟨d,Q,S⟩:=r x q a b oo;grind;grind
  (try dsimp only at c)
  by_cases e:g.1.1=i;exact absurd e ((zE C).2.2 oo g H);grind
 exact A _ h
def OfQ(k:J6)(n:Int)(D:List aB):Prop:=(∀d∈D,d.2.2=cH k.2.2.1.2.1 d.1)/\ ∀q,0<=q->q<n->((∃d∈k.2.2.2.2.2.2.2,d.1=q)\/(∃f∈k.2.2.2.1.2.1,f.2.1=true/\f.1.1=q))-> ∃d∈D,d.1=q
theorem JSO{y:vJ}(h:DH k=some y)(c:y.2=0)(hi:JH k):y.1.1=k.1/\y.1.2.2.2.2=k.2.2.2.2.2.2.1/\OfQ k k.1 y.1.2.2.2.1/\Jt k=some true:=by
 have Z:Par (DH k) λy=>y.2=0->y.1.1=k.1/\y.1.2.2.2.2=k.2.2.2.2.2.2.1/\OfQ k k.1 y.1.2.2.2.1/\Jt k=some true:=by
  unfold DH;refine .b λv K=>.n (λ_=>.s nofun) λcv=>?_;have K:Jt k=some true:=by simp_all
  have an:k.1<=64:=by
   have k1:Par (nV k) λy=>y=true->k.1<=64:=.h (λ_=>.G (λc=>λ_ _ _=>c) λ_=>.s nofun) λ_=>.s nofun
   have O:Par (Jt k) λy=>y=true->k.1<=64:=.b λa ha=>.n (λ_=>.s nofun) λc=>λ_ _ _=>k1 _ ha c
   exact O _ K rfl
  refine .z (λz=>z.2.1=k/\z.2.2.2.2.2.2.2.2.2.1=k.1/\z.2.2.2.2.2.2.2.2.2.2.2.2=k.2.2.2.2.2.2.1/\(0<=z.1/\z.1<=1000)/\OfQ k z.1 z.2.2.2.2.2.2.2.1) ⟨rfl,rfl,rfl,⟨aZ _,show(0:Int)<=1000 by decide⟩,nofun,λq a b=>by grind⟩ ?_;rintro⟨i,k',u1,u2,u3,u4,u5,D,u6,pg,u7,u8,rw⟩ ⟨h1,h2,h3,⟨h4,E⟩,B⟩
  (try dsimp only at h1 h2 h3 h4 E B)
  subst h1 h2 h3;unfold m8;have oq:=Jd i 1;have S:m5=PU:=rfl;rw[S];have lp: ∀{A w:List aB},i<k'.1->wL k'.2.2.2.1=some w->(∀d∈A,d.2.2=cH k'.2.2.1.2.1 d.1)->(∀d∈D,d∈A)->((∃d∈k'.2.2.2.2.2.2.2,d.1=i)-> ∃d∈A,d.1=i)->
    Par (J4 PU (i,w,J0 w,0,k',u1,u2,u3,u4,u5,A,u6,k'.1,u7,u8,k'.2.2.2.2.2.2.1)) λr=> ∃z,r=.inl z/\z.2.1=k'/\z.2.2.2.2.2.2.2.2.2.1=k'.1/\z.2.2.2.2.2.2.2.2.2.2.2.2=k'.2.2.2.2.2.2.1/\(0<=z.1/\z.1<=1000)/\OfQ k' z.1 z.2.2.2.2.2.2.2.1:=by
   intro A w I F hl ae ao;obtain⟨d1,d2⟩:=JIJ F (PG K) hi.2.2.one;refine .z (λz=>z.1=i/\z.2.1=w/\z.2.2.1=J0 w/\z.2.2.2.2.1=k'/\z.2.2.2.2.2.2.2.2.2.2.2.2.1=k'.1/\z.2.2.2.2.2.2.2.2.2.2.2.2.2.2.2=k'.2.2.2.2.2.2.1/\(∀d∈z.2.2.2.2.2.2.2.2.2.2.1,d.2.2=cH k'.2.2.1.2.1 d.1)/\(∀d∈A,d∈z.2.2.2.2.2.2.2.2.2.2.1)/\upw (λd=>d.1=i->d∈z.2.2.2.2.2.2.2.2.2.2.1) w z.2.2.2.1) ⟨rfl,rfl,rfl,rfl,rfl,rfl,hl,λ_ h=>h,HB⟩ ?_;rintro⟨i',ap,n,j,O,t1,t2,t3,t4,t5,D2,t6,pg,t7,t8,rw⟩ ⟨g1,g2,g3,U,R,P,H,Y,J⟩
   (try dsimp only at g1 g2 g3 U R P H Y J)
   subst g1 g2 g3 U R P;unfold PU;refine .l (λW=>.b λd hd=>.e (λcd=>.b λy9 L=>.s ⟨rfl,rfl,rfl,rfl,rfl,rfl,λx g=>?_,λx g=>?_,?_⟩) λcd=>.s ⟨rfl,rfl,rfl,rfl,rfl,rfl,H,Y,CZ J hd λh=>absurd h cd⟩) λW=>.s ⟨_,rfl,rfl,rfl,rfl,by grind,H,λq M q2 G=>?_⟩
   (try dsimp only at g)
   rw[hC L]at g;rcases zQ9.1 g with g|g;exact H x g;simp at g;subst g;obtain⟨f,T,N,f3⟩:=d1 _ (pP hd);rw[f3,(hi.2.2.hot f T).1,N];dsimp only;rw[hC L];grind;dsimp only;rw[hC L];exact CZ (J.mono λx h e=>List.mem_append_left _ (h e)) hd λ_=>List.mem_append_right _ (eO.2 rfl)
   ·(try dsimp only at q2)
    have al:=IJ J W;by_cases e:q=i'
    ·subst e;rcases G with G|⟨f,T,N,f3⟩
     all_goals grind
    obtain⟨d,a,b⟩:=B.2 q M oo G;grind
  have fin: ∀{o:Option ((GG)⊕(vJ))} {Q:((GG)⊕(vJ))->Prop},Par o (λr=> ∃z,r=.inl z/\z.2.1=k'/\z.2.2.2.2.2.2.2.2.2.1=k'.1/\z.2.2.2.2.2.2.2.2.2.2.2.2=k'.2.2.2.2.2.2.1/\(0<=z.1/\z.1<=1000)/\OfQ k' z.1 z.2.2.2.2.2.2.2.1)->
   (∀z,z.2.1=k'/\z.2.2.2.2.2.2.2.2.2.1=k'.1/\z.2.2.2.2.2.2.2.2.2.2.2.2=k'.2.2.2.2.2.2.1/\(0<=z.1/\z.1<=1000)/\OfQ k' z.1 z.2.2.2.2.2.2.2.1->Q (.inl z))->Par o Q:=λh1 h2=>h1.mono λr ⟨z,hz,h⟩=>by grind
  refine .l (λI=>.b λy4 E=>.i (λV=>.b λy5 C=>.b λw F=>fin (lp I F (λd hd=>?_) (λd hd=>?_) λ_=>?_) λz h=>h) λV=>.b λw F=>fin (lp I F B.1 (λd hd=>hd) λg=>?_) λz h=>h) λI=>.s λ_=>⟨rfl,rfl,⟨B.1,λq M q2 G=>B.2 q M (by grind) G⟩,K⟩;rw[hC C]at hd;rcases zQ9.1 hd with hd|hd;exact B.1 d hd;simp at hd;subst hd;exact hi.2.2.lak _ ((IM E).1 V).1;rw[hC C];grind;rw[hC C];grind [IM];grind [IM]
 exact Z _ h c
theorem ie{l:JG}(hi:iC l)(hc:dJ l.2.1):Par (JY l) λy=>y=true:=by
 obtain⟨i1,i2,i3,i4⟩:=hi;have o:=bI l.1 1;unfold JY;refine .j (λ_=>.k (λ_=>.k (λ_=>.j (λ_=>.b λm r=>.g (λc=>?_) λ_=>.z (λz=>z.2=l) rfl ?_) λc=>by omega) λc=>by omega) λc=>by omega) λc=>by omega
 grind [NM];rintro⟨i,l'⟩ h
 (try dsimp only at h)
 subst h;unfold KW;refine .l (λ_=>.b λe j=>.q (λ_=>.b λn g=>.b λv x=>.n (λc=>?_) λ_=>.s rfl) λc=>?_) λ_=>.s rfl;rw[j]at g;injection g with g;subst g;obtain⟨_,q⟩:=bU j;have:=(hc _ _ q).2.1;simp_all;obtain⟨k,q⟩:=bU j
 (try dsimp only at k q c)
 have w:=(hc _ _ q).1;grind [J0,Jd]
theorem Ow{l:JG}{n:Int}(hi:iC l)(hc:dJ l.2.1)(hn:n<=J0 l.2.1):Par (iM (l,n)) λy=>y.2=0:=by
 have v:=ie hi hc;obtain⟨i1,i2,i3,i4⟩:=hi;unfold iM;refine .b λb hb=>.n (λc=>by rw[v _ hb]at c;cases c) λ_=>.b λm e=>.g (λc=>?_) λ_=>.s rfl;grind [NM]
theorem JPA{y:iG}(h:DY k=some y)(c:y.2.2=0)(hi:JH k):JH y.1:=by
 have w:Par (DY k) λy=>y.2.2=0->JH y.1:=by
  unfold DY;refine .b λZ h2=>.d (λc=>.s λh=>absurd h c) λK=>.b λG S=>.g (λ_=>.s nofun) λN=>.b λW Q=>.d (λc=>.s λh=>absurd h c) λP=>.b λn C=>.s λ_=>?_;obtain⟨J,I,⟨L,A⟩,U⟩:=JSO h2 K hi;have cp:dv k.2.2.1.2.1 G.1:=by
   intro c' hc';rcases JRw S with e|⟨v,t,e⟩;rw[e]at hc';exact absurd hc' (by have:wY []=some ((0,0,[],[],[]),5):=rfl;simp_all);rw[e]at hc' N;obtain⟨H,E,F⟩:=JRM v (by grind [J0]) hc';rw[H,E,F,J,I];refine⟨nofun,.nil,nofun,nofun,L,λp r hp=>?_,hi.2.2.pgs⟩;obtain⟨R,V⟩:=hi.2.2.row p r hp;refine⟨R,λ_ b=>?_⟩;have p0:=(bU hp).1;have x:p<k.1:=by
    have:=iU (bU hp).2;have D:Par (nV k) λy=>y=true->J0 k.2.2.2.2.2.2.1=k.1:=.h (λ_=>.G (λ_=>.h (λ_=>.G (λ_=>.b λ_ _=>.i (λ_=>.b λ_ _=>.i (λ_=>.b λ_ _=>.i (λ_=>.b λ_ _=>.i (λ_=>.b λ_ _=>.i (λ_=>.e (λc=>λ_ _ _=>c) λ_=>.s nofun) λ_=>.s nofun) λ_=>.s nofun) λ_=>.s nofun) λ_=>.s nofun) λ_=>.s nofun) λ_=>.s nofun) λ_=>.s nofun) λ_=>.s nofun) λ_=>.s nofun
    have O:Par (Jt k) λy=>y=true->J0 k.2.2.2.2.2.2.1=k.1:=.b λa T=>.n (λ_=>.s nofun) λc=>λ_ _ _=>D _ T c
    have:=O _ U rfl;omega
   by_cases hf: ∃f∈k.2.2.2.1.2.1,f.1.1=p;obtain⟨f,j,o⟩:=hf;cases fd:f.2.1 with
   |true=>
    obtain⟨d,a,e⟩:=A p p0 x (.inr ⟨f,j,fd,o⟩);grind
   |false=>
    have:=(hi.2.2.hot f j).2 fd r (by grind);grind
   refine V (λf B e=>hf ⟨f,B,e⟩) λd hd e=>?_;obtain⟨M,a,e'⟩:=A p p0 x (.inl ⟨d,hd,e⟩);exact b M a e'
  have q:=TL Q P hi (λh=>absurd h (by simp_all)) (λh=>absurd h (by simp_all)) λ_=>cp;have g:=q.inv hi (by simp_all) λh=>absurd h (by simp_all);by_cases z:n.2=0;obtain⟨j,o⟩:=WL C z;exact⟨o g.1,by show dJ n.1.2.1;rw[j];exact g.2.1,by show Rel n.1.2.1 _ _ _ _;rw[j];exact g.2.2⟩;obtain⟨_,e',_,_,a3,a4,_,Y,_⟩:=q;exact absurd (Ow g.1 g.2.1 (by grind [iL,eL]) _ C) z
 exact w _ h c
end
section
variable {s:Jw}
theorem Q3{y:sN}(e:FO s=some y)(c:y.2.2=0)(hi:JH s.1):JH y.1.1:=by
 have g:Par (FO s) λy=>y.2.2=0->JH y.1.1:=.b λk h2=>.d (λc=>.s λh=>absurd h c) λj=>.s λ_=>JPA h2 j hi
 exact g _ e c
end
section
variable {s:Jw}
abbrev TFl:=Int×Int×Int×(List aA)×Int×Int×(List aI)×Int×(List aG)×(List aG)×(List Js)×(List aB)×(List aB)×(List qQC)×Int×qQD×Bool×(List JT)×Bool×qQD×(List wF)
def krn(t:TFl):J6:=(t.1,t.2.1,(t.2.2.1,t.2.2.2.1,t.2.2.2.2.1),(t.2.2.2.2.2.1,t.2.2.2.2.2.2.1,t.2.2.2.2.2.2.2.1),(t.2.2.2.2.2.2.2.2.1,t.2.2.2.2.2.2.2.2.2.1),t.2.2.2.2.2.2.2.2.2.2.1,t.2.2.2.2.2.2.2.2.2.2.2.1,t.2.2.2.2.2.2.2.2.2.2.2.2.1)
theorem JAe{k:J6}{t n m:Int}{b:qQC}{d:eB}{y:eG}(hi:JH k)(hb:nX (k.2.2.1,t)=some b)(h:zS (d,b,n,m)=some y)(c:y.2=0):JH y.1.1:=by
 have g:Par (zS (d,b,n,m)) λy=>y.2=0->JH y.1.1:=by
  unfold zS;dsimp only;refine .b λo h2=>.d (λc=>.s λh=>absurd h c) λr=>.b λD z=>.d (λc=>.s λh=>absurd h c) λx=>.b λE H=>.d (λc=>.s λh=>absurd h c) λF=>.s λ_=>?_;rcases JOo hb hi.1 hi.2.1 with e|⟨f,hl,hd,rest,A,w,B⟩;rw[e]at h2;have:zU []=some ((0,[],0),4):=rfl;grind;obtain⟨j,v,K,I⟩:=JQx h2 f hi.2.1 hl A w B r;have hc:=hi.2.1.take j;have C:J0 (k.2.2.1.2.1.take j)=j:=by grind [J0]
  have hL:iC o.1:=by rw[v];exact⟨rfl,by simp_all,by simp_all,by grind⟩
  have q:dJ o.1.2.1:=by simp_all
  obtain⟨G,J⟩:=JJ6 z x q;grind [JNi]
 exact g _ h c
theorem JJ4{t id g:Int}{y:eB×qQC}(h:EX (s,t,id,g)=some y)(hi:JH s.1): ∃k,JH k/\ ∃t,nX (k.2.2.1,t)=some y.2:=by
 have n:Par (EX (s,t,id,g)) λy=> ∃k,JH k/\ ∃t,nX (k.2.2.1,t)=some y.2:=.b λ_ _=>.h (λ_=>.b λ_ _=>.i (λ_=>.b λ_ _=>.b λ_ _=>.b λ_ _=>.b λo q=>.b λ_ _=>.e (λ_=>.b λj e=>.s ⟨o,hi.force q,_,e⟩) λ_=>.b λj e=>.s ⟨o,hi.force q,_,e⟩) λ_=>.b λj e=>.s ⟨s.1,hi,_,e⟩) λ_=>.b λj e=>.s ⟨s.1,hi,_,e⟩
 exact n _ h
variable {x:rL} {t:TFl}
theorem NI{e:Int}{y:eC×TFl}(h:rZ (s,e,t)=some y)(hi:JH (krn t))(hs:e=0->JH s.1):JH (krn y.2):=by
 have g:Par (rZ (s,e,t)) λy=>JH (krn y.2):=.e (λc=>.b λ_ _=>.s (hs c)) λ_=>.b λ_ _=>.s hi
 exact g _ h
theorem JRj{y:eC×TFl}(h:FS (x,t)=some y)(hi:JH (krn t)):JH (krn y.2):=by
 have g:Par (FS (x,t)) λy=>JH (krn y.2):=.j (λ_=>.k (λ_=>.b λ_ _=>.b λ_ _=>.e (λ_=>.b λ_ _=>.s hi) λ_=>.b λ_ _=>.b λ_ _=>.b λj e=>.e (λ_=>.s hi) λ_=>.e (λ_=>.e (λ_=>.b λ_ _=>.b λ_ _=>.s (fx e hi)) λ_=>.s (fx e hi)) λ_=>.s (fx e hi)) λ_=>.b λ_ _=>.s hi) λ_=>.b λ_ _=>.s hi
 exact g _ h
theorem JN9{y:eC×TFl}(h:FW (x,t)=some y)(hi:JH (krn t)):JH (krn y.2):=by
 have n:Par (FW (x,t)) λy=>JH (krn y.2):=by
  unfold FW;refine .b λe h2=>.b λj q=>?_;obtain⟨k,A,t',hb⟩:=JJ4 h2 hi;have E:j.2=0->JH j.1.1:=by unfold QV at q;have w:Par ((zS (e.1,e.2,t.1,t.2.2.2.2.2.1)).bind λe=>some (e.1,e.2)) λy=>y.2=0->JH y.1.1:=.b λF B=>.s λc=>JAe A hb B c;exact w _ q
  refine .z (λz=>z.1=j.2/\z.2.2.2.2.2.2.2.2.2.2.2.2.2.2.2.2.2.2.2.2.2.2.2.2.2.2=j.1/\ ∃u v:qQD,True/\JH (krn (z.2.2.1,z.2.2.2.1,z.2.2.2.2.1,z.2.2.2.2.2.1,z.2.2.2.2.2.2.1,z.2.2.2.2.2.2.2.1,z.2.2.2.2.2.2.2.2.1,z.2.2.2.2.2.2.2.2.2.1,z.2.2.2.2.2.2.2.2.2.2.1,z.2.2.2.2.2.2.2.2.2.2.2.1,z.2.2.2.2.2.2.2.2.2.2.2.2.1,z.2.2.2.2.2.2.2.2.2.2.2.2.2.1,z.2.2.2.2.2.2.2.2.2.2.2.2.2.2.1,[],0,[],false,[],false,u,[]))) ⟨rfl,rfl,[],[],qQG,hi⟩ λz D=>?_;obtain⟨C,o,u,v,_,r⟩:=D;unfold vp;refine .l (λ_=>.b λ_ _=>.b λ_ _=>.s ⟨C,o,u,v,qQG,r⟩) λ_=>.map (.d (λ_=>.b λ_ _=>.s r) λc=>.b λ_ _=>.s ?_);have g:=E (by simp_all);rw[<-o]at g;exact g
 exact n _ h
theorem JPo{y:eC×TFl}(h:FV (x,t)=some y)(hi:JH (krn t)):JH (krn y.2):=by
 have z:Par (FV (x,t)) λy=>JH (krn y.2):=(by unfold FV;refine .e (λ_=>.b λF h2=>.e (λ_=>.b λA _=>.b λk n=>.s ?_) λ_=>.b λk n=>.s (show JH (krn k.2)from NI n hi λc=>yi h2 c hi)) λ_=>.e (λ_=>.b λE C=>.s (JRj C hi)) λ_=>.e (λ_=>.b λo e=>.b λw g=>.s (NI g hi λc=>JJD e c hi)) λ_=>.e (λ_=>.b λo e=>.b λw g=>.s (NI g hi λc=>Q3 e c hi)) λ_=>.e (λ_=>.b λ_ _=>.b λj r=>.e (λc=>.b λ_ _=>.s ?_) λ_=>.b λ_ _=>.s hi) λ_=>.e (λ_=>.b λD v=>.s (JN9 v hi)) λ_=>.e (λ_=>.b λo e=>.b λw g=>.s (NI g hi λc=>JQ1 e c hi)) λ_=>.b λ_ _=>.s hi;show JH (krn k.2);exact NI (t:=(_,_,_,_,_,_,_,_,_,_,_,_,_,_,_,_,_,_,_,A,_)) n hi λc=>yi h2 c hi;obtain⟨q,B⟩:=WL r c;exact⟨B hi.1,by show dJ j.1.2.1;rw[q];exact hi.2.1,by show Rel j.1.2.1 _ _ _ _;rw[q];exact hi.2.2⟩);exact z _ h
theorem JS0{l:List rL}{y:Jw×(List eC)×List wF}(h:DM (s,l)=some y)(hi:JH s.1):JH y.1.1:=by
 have g:Par (DM (s,l)) λy=>JH y.1.1:=by unfold DM;refine .z (λz=>JH (krn (z.2.2.2.2.2.2.1,z.2.2.2.2.2.2.2.1,z.2.2.2.2.2.2.2.2.1,z.2.2.2.2.2.2.2.2.2.1,z.2.2.2.2.2.2.2.2.2.2.1,z.2.2.2.2.2.2.2.2.2.2.2.1,z.2.2.2.2.2.2.2.2.2.2.2.2.1,z.2.2.2.2.2.2.2.2.2.2.2.2.2.1,z.2.2.2.2.2.2.2.2.2.2.2.2.2.2.1,z.2.2.2.2.2.2.2.2.2.2.2.2.2.2.2.1,z.2.2.2.2.2.2.2.2.2.2.2.2.2.2.2.2.1,z.2.2.2.2.2.2.2.2.2.2.2.2.2.2.2.2.2.1,z.2.2.2.2.2.2.2.2.2.2.2.2.2.2.2.2.2.2.1,[],0,[],false,[],false,[],[]))) (by exact hi) λz e=>?_;unfold nc;exact .l (λ_=>.l (λ_=>.n (λ_=>.b λ_ _=>.b λk j=>.b λ_ _=>.s (JPo j e)) λ_=>.s e) λ_=>.s e) λ_=>.s e
 exact g _ h
theorem JNK{p f:Int}{y:eG}(h:wH (p,f)=some y)(c:y.2=0):JH y.1.1:=by
 have j:Par (zR (p,f)) λy=>y.2=0->JH y.1:=by
  unfold zR;refine .j (λw=>.k (λv=>.j (λ_=>.g (λ_=>.s nofun) λ_=>.b λk h2=>.b λn A=>.s λ_=>⟨⟨rfl,aZ _,J8,show(0:Int)<=4096 by decide⟩,λi e h=>by simp at h,?_⟩) λ_=>.s nofun) λ_=>.s nofun) λ_=>.s nofun;have q:Par (zQ f) λy=>y.1.2.1=[]:=.j (λ_=>.g (λ_=>.s rfl) λ_=>.s rfl) λ_=>.s rfl
  show Rel [] p k.1.2.1 [] n.1;rw[q _ h2];refine⟨nofun,.nil,nofun,nofun,nofun,λp r x=>?_,by(try dsimp only at w v);omega,nofun⟩;have z:r.1=0:=Nn A r (pP x);rw[z];exact⟨aZ _,λ_ _=>rfl⟩
 have g:Par (wH (p,f)) λy=>y.2=0->JH y.1.1:=.b λk h2=>.d (λc=>.s λh=>absurd h c) λo=>.b λ_ _=>.d (λc=>.s λh=>absurd h c) λ_=>.s λ_=>j _ h2 o
 exact g _ h c
end
section
variable {B S:Int}
theorem JQA{p f:Int}(h1:1<=p)(h2:p<=64)(h3:1<=f)(h4:f<=64):Par (wH (p,f)) λy=>y.2=0:=by
 have e:Par (zR (p,f)) λy=>y.2=0:=.j (λ_=>.k (λ_=>.j (λ_=>.g (λc=>by grind) λ_=>.b λj h2=>.b λg h3=>.s rfl) λc=>by grind) λc=>by grind) λc=>by grind
 have h:Par (IY p) λy=>y.2=0:=.j (λ_=>.g (λc=>by omega) λ_=>.b λ_ _=>.s rfl) λc=>by omega
 unfold wH;exact .b λj h2=>.d (λc=>absurd (e _ h2) c) λk=>.b λg h3=>.d (λc=>absurd (h _ h3) c) λ_=>.s rfl
theorem JIC{c:Je}{n:Int}{b:Bool}{y:Jw×Je}(hf:aC 16384 1073741824 J5 c)(h0:0<=c.2)(h:FT (n,b,c)=some y):JH y.1.1:=by
 have o:Par (FT (n,b,c)) λy=>JH y.1.1:=(by unfold FT;refine .b λg h2=>.b λk r=>.b λC q=>.b λx F=>.b λz D=>.s ?_;have e:=(Jv (B:=16384) (S:=1073741824) (X:=(4,c)) ⟨lG .i64 4,hf⟩ h0).get h2;have j:=(Jv (B:=16384) (S:=1073741824) (X:=(3,g.2)) ⟨lG .i64 3,e.1.2⟩ e.2.2.2).get r;have H:=e.2.2.1 (show(1:Int)<=4 by decide);have G:=j.2.2.1 (show(1:Int)<=3 by decide);have b2:=e.2.1;have v:=j.2.1;have w:=Jd 1 g.1;have A:=Jd 1 k.1;have E:=JQA (p:=J1 .i64 1 g.1) (f:=J1 .i64 1 k.1) oo (by grind) oo (by grind) _ q;grind [JS0,JNK]);exact o _ h
theorem Oz{c:Je}{n:Int}{b:Bool}{y:J6×Je}(hf:aC 16384 1073741824 J5 c)(h0:0<=c.2)(h:FP (n,b,c)=some y):JH y.1:=by
 have e:Par (FP (n,b,c)) λy=>JH y.1:=.b λg h2=>.s (JIC hf h0 h2)
 exact e _ h
def Ie(l:JG):Prop:=iC l/\dJ l.2.1
theorem JJj{c:Je}{n:Int}{y:qj}(hf:aC 16384 1073741824 J5 c)(h0:0<=c.2)(h:tI (n,c)=some y):Ie y.2.1/\y.2.1.2.2=J0 y.2.1.2.1:=by
 have o:Par (tI (n,c)) λy=>Ie y.2.1/\y.2.1.2.2=J0 y.2.1.2.1:=by
  unfold tI;refine .b λe h2=>.b λj A=>.b λC k=>.s ?_;have g:=Oz hf h0 h2;have E:j=J0 e.1.2.2.1.2.1:=(by have w:Par (tP e.1.2.2.1) λy=>y=J0 e.1.2.2.1.2.1:=(by unfold tP;refine .b λv B=>.n (λc=>by rw[ie g.1 g.2.1 _ B]at c;cases c) λ_=>.b λm D=>.s ?_;obtain⟨i1,i2,i3,i4⟩:=g.1;grind [NM]);exact w _ A);have q:=Ow g.1 g.2.1 (n:=j) oo _ k;obtain⟨r,x⟩:=WL k q;refine⟨⟨x g.1,by rw[r];exact g.2.1⟩,?_⟩;have z:Par (iM (e.1.2.2.1,j)) λy=>y.2=0->y.1.2.2=bZ e.1.2.2.1.2.2 j:=.b λ_ _=>.n (λ_=>.s nofun) λ_=>.b λ_ _=>.g (λ_=>.s nofun) λ_=>.s λ_=>rfl
  have:=z _ k q;have mx:=pO e.1.2.2.1.2.2 j;have i3:=g.1.2.2.1;grind
 exact o _ h
theorem JI6{c:Je}{n:Int}{y:qj}(hf:aC 16384 1073741824 J5 c)(h0:0<=c.2)(h:tI (n,c)=some y):(1<=y.1/\y.1<=64)/\ ∀e∈y.2.1.2.1,(e.2.1=1\/e.2.1=2)->aT e<y.1:=by
 have k:Par (tI (n,c)) λy=>(1<=y.1/\y.1<=64)/\ ∀e∈y.2.1.2.1,(e.2.1=1\/e.2.1=2)->aT e<y.1:=by
  unfold tI;refine .b λo h2=>.b λr z=>.b λv x=>.s ?_;have g:=(Oz hf h0 h2).2.2.pgs;have w:Par (iM (o.1.2.2.1,r)) λy=>y.1.2.1=[]\/y.1.2.1=o.1.2.2.1.2.1:=.b λ_ _=>.n (λ_=>.s (.inl rfl)) λ_=>.b λ_ _=>.g (λ_=>.s (.inl rfl)) λ_=>.s (.inr rfl)
  refine⟨g.1,λe j=>g.2 e ?_⟩;have j:e∈v.1.2.1:=j;rcases w _ x with q|q;rw[q]at j;cases j;rw[q]at j;exact j
 exact k _ h
end
theorem i1(c x:Bool):(if c=true then some x else some false)=some (c&&x):=by cases c<;>rfl
theorem i2(c x:Bool):(if c=false then some x else some false)=some (!c&&x):=by cases c<;>rfl
theorem i3(c x:Bool):(if c=true then some false else some x)=some (!c&&x):=by cases c<;>rfl
theorem i4{α:Type}(c x:Bool)(E:α):(if c=true then some (E,x)else some (E,false))=some (E,c&&x):=by cases c<;>rfl
theorem JN2(c:fZ):JM c=JM c:=rfl
theorem Nr(c:fZ): ∃b,JM c=some b:=by unfold JM;split<;>(try split)<;>exact⟨_,rfl⟩
theorem JIl(c:aP): ∃b,wW c=some b/\hZ c=some b:=by
 obtain⟨b1,e⟩:=Nr c.2.2.1;obtain⟨b2,g⟩:=Nr c.2.2.2;grind [wW,ER,hZ,JN2]
theorem JFR{x:Jm}(e:kN x=some true):0<=x.1/\x.1<x.2:=by
 grind [kN,nT,cB]
theorem k0(x:Jm): ∃b,kN x=some b:=by unfold kN;split<;>exact⟨_,rfl⟩
theorem JOl(c:aP): ∃z,zT c=some z/\(z=true↔c=(0,0,(false,[]),false,[])):=⟨_,rfl,dR (t:=gO)⟩
theorem JRF(c:aP): ∃z,FH c=some z/\(z=true↔c=(c.1,0,(false,[]),false,[])/\0<=c.1/\c.1<64):=by
 have e:Tot (FH c) λz=>(z=true↔c=(c.1,0,(false,[]),false,[])/\0<=c.1/\c.1<64):=.i (λh=>.h (λg=>.s ⟨λk=>⟨(dR (t:=gO)).1 h,g,cB.1 k⟩,λk=>cB.2 k.2.2⟩) λg=>.s ⟨nofun,λk=>absurd k.2.1 g⟩) λh=>.s ⟨nofun,λk=>(Bool.false_ne_true (h.symm.trans ((dR (t:=gO)).2 k.1))).elim⟩
 exact e
theorem TU(e:aA):kM e=Jl e:=by
 obtain⟨l,k,t,n,q,o,c,bl⟩:=e;obtain⟨N,v,w⟩:=JIl c;obtain⟨b1,r⟩:=k0 (n,l);obtain⟨b2,A⟩:=k0 (q,l);obtain⟨G,B⟩:=k0 (o,l);have C:rY (n,l,k,t,n,q,o,c,bl)=some b1:=r;have D:rY (q,l,k,t,n,q,o,c,bl)=some b2:=A;have E:rY (o,l,k,t,n,q,o,c,bl)=some G:=B;have M: ∀b:Bool,Jk b= !b:=λ_=>rfl;unfold kM Jl nW;dsimp only;rw[C,D,E,r,A,B,v,w];have O: ∀a b:aA,(eqT J3 a b=true)=(a=b):=λa b=>propext (dR (t:=J3));have L: ∀a b:aP,(eqT gO a b=true)=(a=b):=λa b=>propext (dR (t:=gO));have hb:b1=true->0<=n/\n<l:=λh=>by subst h;exact JFR r
 have x:k=1\/k=2\/k=3\/k=4\/k=5\/k=6\/k=7\/k=8\/k<1\/8<k:=by omega
 clear r A B C D E v w;have P:J0 ([]:qQC)=0:=rfl;obtain⟨z,g,K⟩:=JOl c;obtain⟨y,j,J⟩:=JRF c;rcases x with rfl|rfl|rfl|rfl|rfl|rfl|rfl|rfl|x|x;simp only[show aL 1 1=false from rfl,show aR 1 8=false from rfl,show aM 1 8=false from rfl,show aM 1 7=false from rfl,show aM 1 6=false from rfl,show aM 1 5=false from rfl,show aM 1 4=false from rfl,show aM 1 3=false from rfl,show aM 1 2=false from rfl,show aM 1 1=true from rfl,if_true,if_false,fF,reduceCtorEq,JE,jB,mU,g,j,i1,i2,i3,i4]
 congr 1
 grind [aL,aR,aS,bA,aO,neS];simp only[show aL 2 1=false from rfl,show aR 2 8=false from rfl,show aM 2 8=false from rfl,show aM 2 7=false from rfl,show aM 2 6=false from rfl,show aM 2 5=false from rfl,show aM 2 4=false from rfl,show aM 2 3=false from rfl,show aM 2 2=true from rfl,show aM 2 1=false from rfl,if_true,if_false,fF,reduceCtorEq,JE,jB,mU,g,j,i1,i2,i3,i4]
 congr 1
 grind [aL,aR,aS,bA,aM,neS];simp only[show aL 3 1=false from rfl,show aR 3 8=false from rfl,show aM 3 8=false from rfl,show aM 3 7=false from rfl,show aM 3 6=false from rfl,show aM 3 5=false from rfl,show aM 3 4=false from rfl,show aM 3 3=true from rfl,show aM 3 2=false from rfl,show aM 3 1=false from rfl,if_true,if_false,fF,reduceCtorEq,JE,jB,mU,g,j,i1,i2,i3,i4]
 congr 1
 grind [aL,aR,aS,bA,aO,aM,neS];simp only[show aL 4 1=false from rfl,show aR 4 8=false from rfl,show aM 4 8=false from rfl,show aM 4 7=false from rfl,show aM 4 6=false from rfl,show aM 4 5=false from rfl,show aM 4 4=true from rfl,show aM 4 3=false from rfl,show aM 4 2=false from rfl,show aM 4 1=false from rfl,if_true,if_false,fF,reduceCtorEq,JE,jB,mU,g,j,i1,i2,i3,i4]
 congr 1
 grind [aL,aR,aS,bA,aO,aM,neS];simp only[show aL 5 1=false from rfl,show aR 5 8=false from rfl,show aM 5 8=false from rfl,show aM 5 7=false from rfl,show aM 5 6=false from rfl,show aM 5 5=true from rfl,show aM 5 4=false from rfl,show aM 5 3=false from rfl,show aM 5 2=false from rfl,show aM 5 1=false from rfl,if_true,if_false,fF,reduceCtorEq,JE,jB,mU,g,j,i1,i2,i3,i4]
 congr 1
 grind [aL,aR,aS,bA,aO,aM,neS];simp only[show aL 6 1=false from rfl,show aR 6 8=false from rfl,show aM 6 8=false from rfl,show aM 6 7=false from rfl,show aM 6 6=true from rfl,show aM 6 5=false from rfl,show aM 6 4=false from rfl,show aM 6 3=false from rfl,show aM 6 2=false from rfl,show aM 6 1=false from rfl,if_true,if_false,fF,reduceCtorEq,JE,jB,mU,g,j,i1,i2,i3,i4];grind [aL,aR,aS,bA,aO,Prod.mk.injEq];simp only[show aL 7 1=false from rfl,show aR 7 8=false from rfl,show aM 7 8=false from rfl,show aM 7 7=true from rfl,show aM 7 6=false from rfl,show aM 7 5=false from rfl,show aM 7 4=false from rfl,show aM 7 3=false from rfl,show aM 7 2=false from rfl,show aM 7 1=false from rfl,if_true,if_false,fF,reduceCtorEq,JE,jB,mU,g,j,i1,i2,i3,i4];grind [aL,aR,aS,bA,aO,neS,Prod.mk.injEq];simp only[show aL 8 1=false from rfl,show aR 8 8=false from rfl,show aM 8 8=true from rfl,show aM 8 7=false from rfl,show aM 8 6=false from rfl,show aM 8 5=false from rfl,show aM 8 4=false from rfl,show aM 8 3=false from rfl,show aM 8 2=false from rfl,show aM 8 1=false from rfl,if_true,if_false,fF,reduceCtorEq,JE,jB,mU,g,j,i1,i2,i3,i4];grind [aL,aR,aS,bA,aO,Prod.mk.injEq];have H:aM k 1=false:=by grind [aM]
 have I:aM k 2=false:=by grind [aM]
 have F:aM k 3=false:=by grind [aM]
 grind [aM,aL];have H:aM k 1=false:=by grind [aM]
 have I:aM k 2=false:=by grind [aM]
 have F:aM k 3=false:=by grind [aM]
 grind [aM,aR]
theorem JI9{x0:qQD}{y:Je}(w0:Ty.inR (.l (.i .u8)) x0)(h:wG (x0,400)=some y):aC 16384 1073741824 J5 y/\0<=y.2:=by
 have j:aC (J0 x0) 0 (.l (.i .u8)) x0:=⟨aZ _,λa e=>by
  grind [TY,Ty.inR,IntKind.min,IntKind.max,IntKind.signed,IntKind.bits]⟩
 have k:0<=J0 x0:=J8;have g:=(Ab (B:=J0 x0) (S:=0) (X:=(x0,400)) ⟨j,lG .i64 400⟩ (show(0:Int)<=400 by decide)).get h;obtain⟨n,o⟩:=JMP h;exact⟨⟨⟨by grind,λa e=>g.1.1.2 a e⟩,g.1.2⟩,by omega⟩
theorem JIA{x0:qQD}(w0:Ty.inR (.l (.i .u8)) x0):Tot (wG (x0,400)) λy=>aC 16384 1073741824 J5 y/\0<=y.2:=by
 have g:aC (J0 x0) 0 (.l (.i .u8)) x0:=⟨aZ _,λa j=>by
  grind [TY,Ty.inR,IntKind.min,IntKind.max,IntKind.signed,IntKind.bits]⟩
 have h:0<=J0 x0:=J8;obtain⟨y,e,_⟩:=Ab (B:=J0 x0) (S:=0) (X:=(x0,400)) ⟨g,lG .i64 400⟩ (show(0:Int)<=400 by decide);exact⟨y,e,JI9 w0 e⟩
theorem JOZ(f t lo hi lv:Int)(es:List aA): ∃b,rU (f,t,lo,hi,lv)=some b/\fb (f,t,lo,hi,lv,es)=some (b,es):=by
 unfold rU fb;dsimp only
 repeat' split
 all_goals simp_all
theorem JRC(f t lo hi lv:Int)(x:aA)(es:List aA):RK (f,t,lo,hi,lv,x,es)=some (inB f t lo hi x,es):=by
 have j:Tot (RK (f,t,lo,hi,lv,x,es)) λy=>y=(inB f t lo hi x,es):=by
  unfold RK;have hc:Tot (Jg x) λy=>(y=true↔x.2.1=1\/x.2.1=2):=.p (λc=>.s ⟨λd=>.inr (gM.1 d),λd=>gM.2 (d.resolve_left c)⟩) λc=>.s ⟨λ_=>.inl c,λ_=>rfl⟩
  have g: ¬((x.2.1=1\/x.2.1=2)/\(lo<=aT x/\aT x<=hi)/\f<=x.1/\x.1<=t)->(false,es)=(inB f t lo hi x,es):=λh=>by
   grind [inB]
  refine .b hc λy h=>.i (λd=>.h (λn=>.G (λo=>.h (λr=>.s ?_) λc=>.s (g λh=>c h.2.2.1)) λc=>.s (g λh=>c h.2.1.2)) λc=>.s (g λh=>c h.2.1.1)) λc=>.s (g λq=>by simp_all);show(bA x.1 t,es)=_;by_cases k:x.1<=t;rw[dU.2 k,tC.2 ⟨h.1 d,⟨n,o⟩,r,k⟩];grind [bA]
 obtain⟨y,e,d⟩:=j;rw[e,d]
def leL(a b:aA):Bool:=decide (a.1<=b.1)
theorem JP0:HP AB leL:=λx y=>by
 refine⟨gG x.1 y.1,?_,?_⟩
 all_goals grind [AB,MK,gG,leL,aL]
theorem JRD(a b c:aA)(h:leL a b=true)(k:leL b c=true):leL a c=true:=by grind [leL]
theorem JSb(a b:aA):leL a b=true\/leL b a=true:=by grind [leL]
theorem JLb{l:List aA}(h: ∀x∈l,kM x=some true)(hl:J0 l<=16384):fq l=some false:=by
 have g:Tot (fo l) λy=>y= -1:=by
  unfold fo;refine Jj (τ:=Int) (λq=>(l,J0 l,q)) (λi=>0<=i/\i<=J0 l) (λi=>J0 l-i) ?_ 0 rfl ⟨aZ _,J8⟩;rintro i ⟨k,h1⟩;unfold Po;dsimp only;refine .l (λc=>?_) λ_=>.s rfl;obtain⟨a,e,q⟩:=gZ k c;refine .w e ?_;have j:YZ a=some false:=by unfold YZ;rw[h a (zQ5 q)];rfl
  refine .w j (.i (λd=>by cases d) λ_=>.s ⟨J1 .i64 i 1,rfl,?_,?_,?_⟩)
  all_goals grind [Jd]
 obtain⟨y,e,rfl⟩:=g;unfold fq;rw[e];rfl
theorem JPh{l:List aA}(hl:J0 l<=16384)(hd: ∀(j:Nat) (a b:aA),l[j]?=some a->l[j+1]?=some b->a.1≠b.1):RU l=some l:=by
 have k:Tot (RU l) λy=>y=l:=by
  unfold RU;refine .l (λ_=>.s rfl) λx=>Jj (τ:=Int) (λq=>(q,l)) (λi=>1<=i/\i<=J0 l) (λi=>J0 l-i) ?_ 1 rfl ⟨aZ _,by omega⟩;rintro i ⟨z,h1⟩;unfold Pl;dsimp only;refine .l (λc=>?_) λ_=>.s rfl;have o:Jn .i64 i 1=i-1:=by grind [bI]
  rw[o];obtain⟨a,ea,n⟩:=gZ (l:=l) (i:=i) oo c;obtain⟨b,r,h⟩:=gZ (l:=l) (i:=i-1) oo oo;have v:((l.length:Nat):Int)=J0 l:=rfl;refine .w (w:=()) (by unfold bB;grind) (.w n (.w (w:=()) (by unfold bB;grind) (.w h (.i (λd=>?_) λ_=>.s ⟨J1 .i64 i 1,rfl,?_,?_,?_⟩))));have g:a=b:=dR.1 d;exact absurd (by rw[g]) (hd (i-1).toNat b a h (by rw[show(i-1).toNat+1=i.toNat by omega];exact n))
  all_goals have:=Jd i 1
  all_goals omega
 obtain⟨y,e,d⟩:=k;rw[e,d]
noncomputable def mkO(f t lo hi lv:Int)(es:List aA):Option (aF×Int):=if J0 es>4096 then some ((0,0,0,0,0,[]),21)else(lX (f,t,lo,hi,lv,es)).bind λv=>if v=true then some ((f,t,lo,hi,lv,es),0)else some ((0,0,0,0,0,[]),13)
theorem K1{l:List aA}(h:l.Pairwise λx y=>x.1≠y.1):(srt l).Pairwise ltE/\(∀x,x∈srt l↔x∈l)/\(srt l).length=l.length:=by
 have g: ∀{n:Nat} {l:List aA},l.length=n->(l.Pairwise λx y=>x.1≠y.1)->(srt l).Pairwise ltE/\(∀x,x∈srt l↔x∈l)/\(srt l).length=l.length:=by
  intro n
  induction n with
  |zero=>simp[srt]
  |succ n ih=>
   intro l h hi;obtain⟨m,e,rfl⟩: ∃m e,l=m++[e]:=⟨l.dropLast,l.getLast (by grind),(List.dropLast_concat_getLast _).symm⟩;have k:m.length=n:=by simpa using h
   obtain⟨i1,i2,i3⟩:=List.pairwise_append.1 hi;obtain⟨s1,j,q⟩:=ih k i1;have hd: ∀x∈srt m,x.1≠e.1:=λx o=>i3 x ((j x).1 o) e (by simp);rw[M8];refine⟨A1 s1 hd,λx=>by rw[ke hd,j];simp,?_⟩;grind [xb]
 exact g rfl h
theorem JKG{x y:aA}(hx:J9w x=true)(hy:J9w y=true):J89 x<J89 y↔ltE x y:=by
 grind [J9w,J89,ltE,aT]
theorem Mm: ∀{l:qQD},(l.Pairwise λx y=>x≠y)->DB l=true
 |[],_=>rfl
 |x::l,h=>by rw[List.pairwise_cons]at h;simp only[DB,aY,GY,List.contains_eq_mem,decide_eq_false_iff_not];exact⟨λe=>h.1 x e rfl,Mm h.2⟩
theorem JOC{s E:List aA}(hf: ∀x∈s,J9w x=true)(hl:J0 s<=16384)(hd:s.Pairwise λx y=>x.1≠y.1)(r:E.Pairwise ltE)(hm: ∀x,x∈E↔x∈s):RS s=some E:=by
 have v:(s.map J89).Pairwise λx y=>x≠y:=(by rw[List.pairwise_map];refine hd.imp_of_mem fun{x y} q o h=>?_;grind [J9w,J89]);have hs:nN J89 s=some (s.mergeSort (kE J89)):=(by grind [nN,J0,Mm]);have hp:=List.mergeSort_perm s (kE J89);have j:(s.mergeSort (kE J89)).Pairwise ltE:=(by have h1:=List.pairwise_mergeSort (le:=kE J89) (λa b c h k=>by grind [kE]) (λa b=>by grind [kE]) s;have h2:(s.mergeSort (kE J89)).Pairwise λx y=>x.1≠y.1:=hp.symm.pairwise hd (λh k=>h k.symm);refine(h1.and h2).imp_of_mem fun{x y} q o h=>?_;have g:=hf x (hp.mem_iff.1 q);have n:=hf y (hp.mem_iff.1 o);rw[<-JKG g n];grind [kE,J9w,J89]);have e:s.mergeSort (kE J89)=E:=zf j r λx=>by grind
 show(if s.all J9w=true then nN J89 s else none)=some E;simp_all
theorem JQT{s E:List aA}{f t lo hi lv:Int}(hl:J0 s<=16384)(hd: ∀(j:Nat) (a b:aA),s[j]?=some a->s[j+1]?=some b->a.1≠b.1)(x:J0 E=J0 s)
  (hs:RS s=some E) (hv: ∃v,jQ (f,t,lo,hi,lv,E)=some v/\lX (f,t,lo,hi,lv,E)=some v):
  Tot (J4 ni (1,[],0,0,0,0,0,s,[],f,t,lo,hi,lv)) λy=>mkO f t lo hi lv E=some y:=by
 refine Jj (τ:=Int) (λq=>(q,[],0,0,0,0,0,s,[],f,t,lo,hi,lv)) (λi=>1<=i/\i<=J0 s+1) (λi=>J0 s-i) ?_ 1 rfl ⟨aZ _,by have:=J8 (l:=s);omega⟩;rintro i ⟨A,h1⟩;unfold ni;dsimp only;have z:((s.length:Nat):Int)=J0 s:=rfl;have n:Jn .i64 i 1=i-1:=by grind [bI]
 refine .l (λc=>?_) λ_=>.map (P:=λy=>mkO f t lo hi lv E=some y) (.g (λc=>.s ?_) λc=>.w hs ?_) λ_ h=>h
 ·rw[n];obtain⟨a,ea,g⟩:=gZ (l:=s) (i:=i) oo c;obtain⟨b,r,e⟩:=gZ (l:=s) (i:=i-1) oo oo;refine .w (w:=()) (by unfold bB;grind) (.w e (.w (w:=()) (by unfold bB;grind) (.w g (.e (λd=>?_) λ_=>.s ⟨J1 .i64 i 1,rfl,?_,?_,?_⟩))))
  exact absurd d (hd (i-1).toNat b a e (by rw[show(i-1).toNat+1=i.toNat by omega];exact g))
  all_goals have:=Jd i 1
  all_goals omega
 grind [mkO]
 ·have o:nE (List.length E) (List.length s)=true:=by
   have:E.length=s.length:=by grind [J0]
   grind [Nat.beq_refl]
  obtain⟨v,k,B⟩:=hv;have C:mkO f t lo hi lv E=if v=true then some ((f,t,lo,hi,lv,E),0)else some ((0,0,0,0,0,[]),13):=(by grind [mkO])
  refine .i (λ_=>.w k (.n (λd=>.s ?_) λd=>.s ?_)) λd=>by grind
  all_goals grind
theorem fy{l:List aA}(hd:l.Pairwise λx y=>x.1≠y.1)(f t lo hi:Int):(sel l f t lo hi).Pairwise ltE/\(∀x,x∈sel l f t lo hi↔x∈l/\inB f t lo hi x=true)/\(sel l f t lo hi).length=(l.filter (inB f t lo hi)).length:=by
 grind [K1,sel]
theorem JKw{l:List aA}{f t lo hi lv:Int}(hv: ∀x∈l,kM x=some true)(hf: ∀x∈l,aC 16384 9223372036854775807 J3 x)(hl:J0 l<=8192)(hn:rU (f,t,lo,hi,lv)=some true)
  (hd:l.Pairwise λx y=>x.1≠y.1) (hr:nD (f,t,lo,hi,lv,[])):Tot (XJ (l,f,t,lo,hi,lv)) λy=>mkO f t lo hi lv (sel l f t lo hi)=some y:=by
 obtain⟨s1,D,L⟩:=fy hd f t lo hi;have I:=List.length_filter_le (inB f t lo hi) l;unfold J0 at hl;have n: ∀x∈l,J9w x=true:=λx g=>by have h1:=(hf x g).1;have h1:IntKind.i64.min<=x.1/\x.1<=IntKind.i64.max:=h1;unfold J9w;simp only[decide_eq_true_eq];have C:IntKind.i64.min= -9223372036854775808:=rfl;have N:IntKind.i64.max=9223372036854775807:=rfl;omega
 unfold XJ;obtain⟨b,b1,b2⟩:=JOZ f t lo hi lv [];rw[hn]at b1;injection b1 with b1;subst b1;refine .w b2 (.i (λ_=>.n (λc=>by cases c) λ_=>.w (JLb hv (show J0 l<=16384 by grind [J0])) (.i (λc=>by cases c) λ_=>?_)) λc=>by cases c);refine Jj (τ:=Int×List aA) (λq=>(l,J0 l,q.1,[],0,0,0,0,0,q.2,[],f,t,lo,hi,lv)) (λq=>0<=q.1/\q.1<=J0 l/\q.2=(l.take q.1.toNat).filter (inB f t lo hi)) (λq=>J0 l-q.1) ?_ (0,[]) rfl ⟨aZ _,J8,rfl⟩;rintro⟨i,es⟩ ⟨B,h1,h2⟩
 (try dsimp only at B h1 h2)
 unfold B7;dsimp only;have o:=Jd i 1;have M:((l.length:Nat):Int)=J0 l:=rfl;have H:es.length<=l.length:=(by grind);have E: ∀{m:List aA},nE (List.length m) (List.length m)=true:=fun{m}=>Nat.beq_refl _;refine .l (λc=>?_) λc=>.map (P:=λy=>mkO f t lo hi lv (sel l f t lo hi)=some y) ?_ λ_ h=>h;obtain⟨x,e,q⟩:=gZ B c;have K:l.take (J1 .i64 i 1).toNat=l.take i.toNat++[x]:=by rw[show(J1 .i64 i 1).toNat=i.toNat+1 by omega,List.take_add_one,q];rfl
 refine .w e (.w (JRC f t lo hi lv x es) (.i (λ_=>.i (λd=>?_) λd=>.s ⟨(J1 .i64 i 1,es),rfl,⟨by grind,by grind,?_⟩,by grind,by grind⟩) λd=>by grind));have d:inB f t lo hi x=true:=d;refine .w (rD (bytes:=128) (l:=es) (m:=[x]) (by grind [J0]) qQH) (.s ⟨(J1 .i64 i 1,es++[x]),rfl,⟨by grind,by grind,?_⟩,by grind,by grind⟩);grind;grind;have J:es=l.filter (inB f t lo hi):=by grind
 have hp:(ST leL es).Perm es:=CN (le:=leL) es;have w:=Kv (c:=AB) (le:=leL) (X:=es) JRD JSb JP0 oo;have r:(ST leL es).Pairwise λx y=>x.1≠y.1:=hp.symm.pairwise (by grind) (λh k=>h k.symm);have A: ∀x∈ST leL es,x∈l:=λx g=>by grind
 have hlen:(ST leL es).length=es.length:=hp.length_eq;have adj: ∀(j:Nat) (a b:aA),(ST leL es)[j]?=some a->(ST leL es)[j+1]?=some b->a.1≠b.1:=λj a b O hb=>by
  grind [List.pairwise_iff_getElem]
 have hs:RS (ST leL es)=some (sel l f t lo hi):=JOC (λx g=>n x (A x g)) (by grind [J0]) r s1 λx=>by
  grind
 have C:vx es=some (ST leL es):=w;refine .w C (.i (λ_=>.w (JPh (by grind [J0]) adj) (.i (λ_=>?_) λd=>by grind)) λd=>by
  grind)
 have z:nD (f,t,lo,hi,lv,sel l f t lo hi):=⟨hr.1,hr.2.1,hr.2.2.1,hr.2.2.2.1,hr.2.2.2.2.1,by
  refine⟨?_,λx g=>hf x ((D x).1 g).1⟩;show J0 (sel l f t lo hi)<=16384;grind [J0]⟩
 obtain⟨v,F,G,_⟩:=vv z;exact(JQT (by grind [J0]) adj (by grind [J0]) hs ⟨v,F,G⟩).mono λy h=>h
theorem JGR{σ ρ α:Type}{L:σ->Option (σ⊕ρ)}{z:σ}{o:Option α}{k:α->σ}(h:L z=o.bind λy=>some (.inl (k y))):J4 L z=o.bind λy=>J4 L (k y):=by cases o<;>grind [JGn,eX]
theorem JSP(a b:Int):vat (bM (bM (Vector.replicate 2 0) 0 a) 1 b) (Int.toNat 0)=some a:=by simp[vat,bM]
theorem JSI(a b:Int):vat (bM (bM (Vector.replicate 2 0) 0 a) 1 b) (Int.toNat 1)=some b:=by simp[vat,bM]
theorem IH{s:qQC}{vs:List (Vector Int 2)}{n i:Int}{r:aF}{a b:Int}(hi:i<n)(hx:idx vs i=some (bM (bM (Vector.replicate 2 0) 0 a) 1 b)):
  J4 KJ (s,vs,n,i,r)=(fI (s,a,b)).bind λy=>J4 KJ (y,vs,n,J1 .i64 i 1,r):=by
 refine JGR ?_;unfold KJ;dsimp only;rw[cB.2 hi,hx];simp only[if_true,JE,JSP,JSI];rfl
theorem JKF(r:aF):zP r=(fI ([80,77,82,78],r.1,8)).bind λa=>(fI (a,r.2.1,8)).bind λa=>(fI (a,r.2.2.1,4)).bind λa=>(fI (a,r.2.2.2.1,4)).bind λa=>
  (fI (a,r.2.2.2.2.1,1)).bind λa=>fI (a,J0 r.2.2.2.2.2,4):=by
 have e:zP r=J4 KJ ([80,77,82,78],[bM (bM (Vector.replicate 2 0) 0 r.1) 1 8,bM (bM (Vector.replicate 2 0) 0 r.2.1) 1 8,bM (bM (Vector.replicate 2 0) 0 r.2.2.1) 1 4,bM (bM (Vector.replicate 2 0) 0 r.2.2.2.1) 1 4,bM (bM (Vector.replicate 2 0) 0 r.2.2.2.2.1) 1 1,bM (bM (Vector.replicate 2 0) 0 (J0 r.2.2.2.2.2)) 1 4],6,0,r):=rfl;rw[e];rw[IH (show(0:Int)<6 by decide) rfl];refine congrArg (Option.bind _) (funext λa=>?_);rw[show J1 .i64 0 1=1 from rfl,IH (show(1:Int)<6 by decide) rfl];refine congrArg (Option.bind _) (funext λa=>?_);rw[show J1 .i64 1 1=2 from rfl,IH (show(2:Int)<6 by decide) rfl];refine congrArg (Option.bind _) (funext λa=>?_);rw[show J1 .i64 2 1=3 from rfl,IH (show(3:Int)<6 by decide) rfl];refine congrArg (Option.bind _) (funext λa=>?_);rw[show J1 .i64 3 1=4 from rfl,IH (show(4:Int)<6 by decide) rfl];refine congrArg (Option.bind _) (funext λa=>?_);rw[show J1 .i64 4 1=5 from rfl,IH (show(5:Int)<6 by decide) rfl];cases fI (a,J0 r.2.2.2.2.2,4)with
 |none=>rfl
 |some y=>refine dV ?_;unfold KJ;rfl
section
theorem Tot.step{σ ρ:Type}{L:σ->Option (σ⊕ρ)}{Q:ρ->Prop}{s:σ}(h:Tot (L s) λr=>match r with| .inl z=>Tot (J4 L z) Q| .inr y=>Q y):Tot (J4 L s) Q:=by
 obtain⟨r,e,h⟩:=h;cases r with
 |inl z=>rw[eX e];exact h
 |inr y=>rw[dV e];exact⟨y,rfl,h⟩
abbrev px{σ ρ:Type}(Q:ρ->Prop):σ⊕ρ->Prop
 | .inl _=>False
 | .inr y=>Q y
abbrev JS4{σ ρ β:Type}(e:β->σ)(P:β->Prop)(Q:ρ->Prop):σ⊕ρ->Prop
 | .inl z=> ∃g,z=e g/\P g
 | .inr y=>Q y
theorem Tot.endq{σ ρ:Type}{Q:ρ->Prop}{o:Option ρ}(h:Tot o Q):Tot (Option.map (Sum.inr:ρ->σ⊕ρ) o) (px Q):=h.map λ_ h=>h
theorem rK{σ ρ α β:Type}{L:σ->Option (σ⊕ρ)}{Q:ρ->Prop}{l:List α}(e:Int->β->σ)(P:List α->β->Prop)
  (hs: ∀(pre:List α) (x:α) (t:List α) (b:β),l=pre++x::t->P pre b->Tot (L (e (J0 pre) b)) (JS4 (e (J0 (pre++[x]))) (P (pre++[x])) Q))
  (he: ∀b,P l b->Tot (L (e (J0 l) b)) (px Q)):
  ∀(t pre:List α) (b:β) (s:σ),l=pre++t->s=e (J0 pre) b->P pre b->Tot (J4 L s) Q
 |[],pre,b,s,hl,g,hp=>by
  rw[iQ]at hl;subst hl g;refine .step ((he b hp).mono λr h=>?_);cases r with
  |inl z=>exact h.elim
  |inr y=>exact h
 |x::t,pre,b,s,hl,g,hp=>by
  subst g;refine .step ((hs pre x t b hl hp).mono λr h=>?_);cases r with
  |inl z=>obtain⟨j,k,h1⟩:=h;exact rK e P hs he t (pre++[x]) j z (by rw[hl];simp) k h1
  |inr y=>exact h
section
variable {α:Type} {l pre t:List α} {x:α}
theorem tD(h:l=pre++x::t):idx l (J0 pre)=some x:=by subst h;unfold idx J0;simp
theorem nR(h:l=pre++x::t):J0 pre<J0 l:=by subst h;unfold J0;simp;omega
theorem L2(h:l=pre++x::t)(hl:J0 l<=4611686018427387904):J1 .i64 (J0 pre) 1=J0 (pre++[x]):=by have h1:=nR h;have h2:=J8 (l:=pre);have e:=Jd (J0 pre) 1;rw[iL,eL];omega
theorem JOD(h:l=pre++x::t):bB (List.length l) (J0 pre)=some ():=by subst h;unfold bB J0;simp;omega
theorem JOr(h:l=pre++x::t):bL l (Int.toNat (J0 pre))=some x:=by subst h;unfold bL J0;simp
end
end
section
theorem Iv{α:Type}{lt:α->α->Prop}(hi: ∀a,¬lt a a)(ha: ∀a b,lt a b-> ¬lt b a): ∀{a b:List α},a.Pairwise lt->b.Pairwise lt->(∀x,x∈a↔x∈b)->a=b
 |[],[],_,_,_=>rfl
 |[],y::b,_,_,h=>absurd ((h y).2 List.mem_cons_self) (by simp)
 |x::a,[],_,_,h=>absurd ((h x).1 List.mem_cons_self) (by simp)
 |x::a,y::b,n,k,h=>by
  obtain⟨j,o⟩:=List.pairwise_cons.1 n;obtain⟨b1,b2⟩:=List.pairwise_cons.1 k;have e:x=y:=(by rcases cV.1 ((h x).1 List.mem_cons_self)with e|e;exact e;rcases cV.1 ((h y).2 List.mem_cons_self)with f|f;exact f.symm;exact absurd (j y f) (ha _ _ (b1 x e)));subst e;refine congrArg _ (Iv hi ha o b2 λz=>⟨λg=>?_,λg=>?_⟩);rcases cV.1 ((h z).1 (kU _ g))with e|e;subst e;exact absurd (j z g) (hi z);exact e;rcases cV.1 ((h z).2 (kU _ g))with e|e;subst e;exact absurd (b1 z g) (hi z);exact e
abbrev TX:=aF×Int×Bool
def ltN(x y:aD):Prop:=x.1.2.2.1<y.1.2.2.1\/(x.1.2.2.1=y.1.2.2.1/\(x.1.1<y.1.1\/(x.1.1=y.1.1/\x.2<y.2)))
theorem ltN.irr(a:aD): ¬ltN a a:=by unfold ltN;omega
theorem ltN.asym(a b:aD)(h:ltN a b): ¬ltN b a:=by unfold ltN at*;omega
theorem ltN.trans{a b c:aD}(h:ltN a b)(g:ltN b c):ltN a c:=by unfold ltN at*;omega
theorem ltN.tri(a b:aD):ltN a b\/ltN b a\/a.2=b.2:=by unfold ltN;omega
def abv(r:aF)(to:Int):aF:=if to<r.1 then r else(to+1,r.2.1,r.2.2.1,r.2.2.2.1,r.2.2.2.2.1,(ent r).filter λe=>decide (to<e.1))
def clp:Int->Int->List aD->List TX
 |_,_,[]=>[]
 |lo,to,x::t=>
  if x.1.2.1<=(if x.1.2.2.1=lo then to else 0)then clp x.1.2.2.1 (if x.1.2.2.1=lo then to else 0) t
  else(abv x.1 (if x.1.2.2.1=lo then to else 0),x.2,decide ((if x.1.2.2.1=lo then to else 0)<x.1.1))::clp x.1.2.2.1 x.1.2.1 t
theorem JMm(lo to:Int)(x:aD)(t:List aD):clp lo to (x::t)=if x.1.2.1<=(if x.1.2.2.1=lo then to else 0)then clp x.1.2.2.1 (if x.1.2.2.1=lo then to else 0) t
 else(abv x.1 (if x.1.2.2.1=lo then to else 0),x.2,decide ((if x.1.2.2.1=lo then to else 0)<x.1.1))::clp x.1.2.2.1 x.1.2.1 t:=rfl
def qg{α β:Type}(n:Nat)(g:List α->Option β):List α->Option (β×List α)|[]=>none|x::t=>if(x::t).length<n then none else match g ((x::t).take n)with|some b=>some (b,(x::t).take n)|none=>qg n g t
def JSM(r s:aF):Prop:=r.2.2.1=s.2.2.1/\r.2.2.2.1=s.2.2.2.1/\s.1=r.2.1+1
end
section
def G6:List aA->List TX->List aA|acc,[]=>acc|acc,x::t=>G6 (mrg acc (ent x.1)) t
def toW:Int->List TX->Int|z,[]=>z|_,x::t=>toW x.1.2.1 t
def chX(L:Int):aF->List TX->Prop|_,[]=>True|p,x::t=>JSM p x.1/\x.1.2.2.2.2.1=L/\chX L x.1 t
def jn(x:TX)(t:List TX):aF:=(x.1.1,toW x.1.2.1 t,x.1.2.2.1,x.1.2.2.2.1,J1 .i64 x.1.2.2.2.2.1 1,G6 (ent x.1) t)
noncomputable def gW:List TX->Option aF|[]=>none|x::t=> @ite _ ((∀e∈x::t,e.2.2=true)/\chX x.1.2.2.2.2.1 x.1 t/\lX (jn x t)=some true) (Classical.propDecidable _) (some (jn x t)) none
end
section
theorem JNf{α:Type}{lt:α->α->Prop}(ht: ∀a b c,lt a b->lt b c->lt a c){p:List α}{z x:α}(h:(p++[z]).Pairwise lt)(hz:lt z x):(p++[z]++[x]).Pairwise lt:=by
 refine List.pairwise_append.2 ⟨h,List.pairwise_singleton _ _,λa e b hb=>?_⟩;rw[eO.1 hb];obtain⟨_,_,g⟩:=List.pairwise_append.1 h;rcases zQ9.1 e with h1|h1;exact ht _ _ _ (g a h1 z (by simp)) hz;rw[eO.1 h1];exact hz
def Asc(l:qQD):Prop:=l.Pairwise (· < ·)
structure kG(a:Ji):Prop where
 pages:1<=a.2.1/\a.2.1<=64
 len:1<=J0 a.1/\J0 a.1<=16
 zero:idx a.1 0=some 0
 asc:Asc a.1
 last: ∀z,idx a.1 (J0 a.1-1)=some z->z<a.2.1
 next:1<=a.2.2.2.1/\a.2.2.2.1<=1099511627777
 ser:1<=a.2.2.2.2/\a.2.2.2.2<=1073741825
 few:J0 a.2.2.1<=256
 ids:a.2.2.1.Pairwise λf g=>f.2.1<g.2.1
 inr: ∀f∈a.2.2.1,0<f.2.1/\f.2.1<a.2.2.2.2
theorem JLl{α:Type}{l p t:List α}{z x:α}(h:l=(p++[z])++x::t):idx l (J0 (p++[z])-1)=some z:=by subst h;unfold idx J0;rw[if_pos (by simp<;>omega)];simp
theorem JHp{T:Int}{fs:List aQ}{σ:Type}{L:σ->Option (σ⊕Bool)}(e:Int->Int->σ)
  (hs: ∀pre x t last,fs=pre++x::t->(last<x.2.1->x.2.1<T->L (e (J0 pre) last)=some (.inl (e (J0 (pre++[x])) x.2.1)))/\(¬(last<x.2.1/\x.2.1<T)->L (e (J0 pre) last)=some (.inr false)))
  (he: ∀last,L (e (J0 fs) last)=some (.inr true)):Tot (J4 L (e 0 0)) λy=>y=true↔fs.Pairwise (λf g=>f.2.1<g.2.1)/\ ∀f∈fs,0<f.2.1/\f.2.1<T:=by
 refine rK (l:=fs) (λi (b:Int)=>e i b) (λpre last=>pre.Pairwise (λf g=>f.2.1<g.2.1)/\(∀f∈pre,0<f.2.1/\f.2.1<T/\f.2.1<=last)/\0<=last/\(last=0\/ ∃f∈pre,f.2.1=last)) (λpre x t last hl hp=>?_) (λlast hp=>?_) fs [] 0 _ rfl rfl ⟨.nil,nofun,aZ _,.inl rfl⟩;obtain⟨n,j,w,k⟩:=hp;by_cases c:last<x.2.1/\x.2.1<T;rw[(hs pre x t last hl).1 c.1 c.2];refine .s ⟨x.2.1,rfl,List.pairwise_append.2 ⟨n,List.pairwise_singleton _ _,λf hf g o=>?_⟩,λf hf=>?_,by omega,.inr ⟨x,by simp,rfl⟩⟩;rw[eO.1 o];have:=j f hf;omega;rcases zQ9.1 hf with h|h;have:=j f h;omega;rw[eO.1 h];omega;rw[(hs pre x t last hl).2 c];refine .s ⟨nofun,fun⟨q,v⟩=>absurd ?_ c⟩;subst hl;have r:=v x (by simp);refine⟨?_,r.2⟩;rcases k with h|⟨f,hf,h⟩;omega;rw[<-h];exact(List.pairwise_append.1 q).2.2 f hf x List.mem_cons_self;rw[he];exact .s ⟨λ_=>⟨hp.1,λf hf=>⟨(hp.2.1 f hf).1,(hp.2.1 f hf).2.1⟩⟩,λ_=>rfl⟩
theorem JK2{l:qQD}{σ:Type}{L:σ->Option (σ⊕Bool)}{Q:Bool->Prop}(e:Int->σ)(h1:1<=J0 l)
  (hs: ∀p z x t,l=(p++[z])++x::t->(z<x->L (e (J0 (p++[z])))=some (.inl (e (J0 (p++[z]++[x])))))/\(¬z<x->L (e (J0 (p++[z])))=some (.inr false)))
  (hq: ¬Asc l->Q false)
  (he:Asc l->Tot (L (e (J0 l))) (px Q)):Tot (J4 L (e 1)) Q:=by
 cases l with
 |nil=>simp[J0]at h1
 |cons a l=>
  refine rK (l:=a::l) (λi (_:Unit)=>e i) (λpre _=>pre≠[]/\Asc pre) (λpre x t _ hl hp=>?_) (λ_ hp=>he hp.2) l [a] () _ rfl rfl ⟨by simp,List.pairwise_singleton _ _⟩;obtain⟨j,k⟩:=hp;obtain⟨p,z,rfl⟩: ∃p z,pre=p++[z]:=⟨pre.dropLast,pre.getLast j,(List.dropLast_concat_getLast j).symm⟩;by_cases c:z<x;rw[(hs p z x t hl).1 c];exact .s ⟨(),rfl,by simp,JNf (lt:=λa b:Int=>a<b) (λa b c h g=>Int.lt_trans h g) k c⟩;rw[(hs p z x t hl).2 c];refine .s (hq λh=>absurd ?_ c);rw[hl]at h;exact(List.pairwise_append.1 h).2.2 z (by simp) x List.mem_cons_self
theorem vP{α:Type}{p t l:List α}{x:α}{n:Int}(h:l=p++x::t)(hl:J0 l<=n)(hn:n<=4611686018427387904:=by decide):J1 .i64 (J0 p) 1=J0 (p++[x]):=L2 h oo
theorem df(a:Ji):Tot (wZ a) λy=>y=true↔kG a:=by
 have e: ∀{p:Prop},¬p->(kG a->p)->Tot (some false) λy=>y=true↔kG a:=λhp h=>.s ⟨nofun,λk=>absurd (h k) hp⟩;unfold wZ;refine .j (λA=>.k (λB=>.j (λE=>.k (λC=>?_) λc=>e (p:=J0 a.1<=16) oo λk=>k.len.2) λc=>e (p:=1<=J0 a.1) oo λk=>k.len.1) λc=>e (p:=a.2.1<=64) oo λk=>k.pages.2) λc=>e (p:=1<=a.2.1) oo λk=>k.pages.1;obtain⟨z,r,_⟩:=gZ (l:=a.1) (i:=0) qQH oo;have os:=bI (J0 a.1) 1;obtain⟨w,j,_⟩:=gZ (l:=a.1) (i:=J0 a.1-1) oo oo;refine .w r (.q (λv=>?_) λc=>e (p:=idx a.1 0=some 0) (by rw[r];simpa using c) λk=>k.zero);subst v;rw[show Jn .i64 (J0 a.1) 1=J0 a.1-1 by omega];refine .w j (.h (λc=>e (p:=w<a.2.1) oo λk=>k.last w j) λF=>?_);refine JK2 (l:=a.1) (λi=>(J0 a.1,i,a)) oo (λp z x t h=>?_) (λh=>⟨nofun,λk=>absurd k.asc h⟩) λh=>?_;unfold po
 (try dsimp only)
 have:=J8 (l:=p);have os:=bI (J0 (p++[z])) 1;have G:J0 (p++[z])=J0 p+1:=by rw[iL,eL]
 have lt:=nR h;rw[if_pos (cB.2 lt),show Jn .i64 (J0 (p++[z])) 1=J0 (p++[z])-1 by omega,JLl h,tD h];dsimp only[Option.bind_some];exact⟨λc=>by rw[if_neg (by rw[nT];omega),vP h (n:=16) oo],λc=>by rw[if_pos (nT.2 oo)]⟩;unfold po
 (try dsimp only)
 rw[if_neg (by rw[cB];omega)];refine .endq ?_;refine .j (λA=>.k (λB=>.j (λE=>.k (λC=>.g (λc=>e (p:=J0 a.2.2.1<=256) oo λk=>k.few) λv=>?_) λc=>e (p:=a.2.2.2.2<=1073741825) oo λk=>k.ser.2) λc=>e (p:=1<=a.2.2.2.2) oo λk=>k.ser.1) λc=>e (p:=a.2.2.2.1<=1099511627777) oo λk=>k.next.2) λc=>e (p:=1<=a.2.2.2.1) oo λk=>k.next.1;refine(JHp (T:=a.2.2.2.2) (fs:=a.2.2.1) (λi l=>(l,a.2.2.1,J0 a.2.2.1,i,a)) (λpre x t last g=>?_) λlast=>?_).mono λy g=>g.trans ⟨λk=>⟨⟨by omega,by omega⟩,⟨by omega,by omega⟩,r,h,λz o=>by rw[j]at o;injection o with o;omega,⟨by omega,by omega⟩,⟨by omega,by omega⟩,by omega,k.1,k.2⟩,λk=>⟨k.ids,k.inr⟩⟩;unfold pm;dsimp only;rw[if_pos (cB.2 (nR g)),tD g];dsimp only[Option.bind_some];refine⟨λD H=>?_,λq=>?_⟩;rw[if_pos (show bA x.2.1 last=false by rw[<-Bool.not_eq_true,dU];omega),if_neg (by rw[nT];omega),vP g (n:=256) oo];by_cases D:last<x.2.1;rw[if_pos (show bA x.2.1 last=false by rw[<-Bool.not_eq_true,dU];omega),if_pos (nT.2 oo)];rw[if_neg (by rw[dU.2 oo];decide)];unfold pm;dsimp only;rw[if_neg (by rw[cB];omega)]
end
def P32:Nat:=2197175160
def gb(c:Nat):Nat:=if c%2=1 then c/2^^^P32 else c/2
def gN:Nat->Nat->Nat|0,c=>c|j+1,c=>gN j (gb c)
def sl(b:Nat):Nat:=if b=1 then P32 else 0
theorem MT(c:Nat):gb c=c/2^^^sl (c%2):=by
 unfold gb sl;split;rfl;rw[Nat.xor_zero]
theorem JQf(x y:Nat):gb (x^^^y)=gb x^^^gb y:=by
 have g:(x^^^y)/2=x/2^^^y/2:=by have:= @Nat.xor_div_two_pow x y 1;simpa using this
 have k:(x^^^y)%2=x%2^^^y%2:=by have:= @Nat.xor_mod_two_pow x y 1;simpa using this
 simp only[MT,g,k];have j:sl (x%2^^^y%2)=sl (x%2)^^^sl (y%2):=by rcases Nat.mod_two_eq_zero_or_one x with h|h<;>rcases Nat.mod_two_eq_zero_or_one y with e|e<;>rw[h,e]<;>decide
 rw[j]
 ac_rfl
theorem UA: ∀(j x y:Nat),gN j (x^^^y)=gN j x^^^gN j y|0,_,_=>rfl|j+1,x,y=>by simp only[gN];rw[JQf,UA j]
theorem Ln: ∀(i j x:Nat),gN (i+j) x=gN j (gN i x)|0,j,x=>by simp[gN]|i+1,j,x=>by rw[Nat.succ_add];simp only[gN];exact Ln i j _
theorem Ly(c:Nat):gN 4 c=c/16^^^(sl (c/8%2)^^^gN 1 (sl (c/4%2))^^^gN 2 (sl (c/2%2))^^^gN 3 (sl (c%2))):=by
 have s1:gN 4 c=gN 3 (c/2)^^^gN 3 (sl (c%2)):=by rw[<-UA,<-MT];rfl
 have h:gN 3 (c/2)=gN 2 (c/4)^^^gN 2 (sl (c/2%2)):=by rw[<-UA,show c/4=c/2/2 by omega,<-MT];rfl
 have e:gN 2 (c/4)=gN 1 (c/8)^^^gN 1 (sl (c/4%2)):=by rw[<-UA,show c/8=c/4/2 by omega,<-MT];rfl
 have g:gN 1 (c/8)=c/16^^^sl (c/8%2):=by rw[show c/16=c/8/2 by omega,<-MT];rfl
 rw[s1,h,e,g]
 ac_rfl
theorem JLB(c:Nat):gN 4 c=c/16^^^gN 4 (c%16):=by
 rw[Ly c,Ly (c%16)];have g:c%16/16=0:=by omega
 have h:c%16/8%2=c/8%2:=by omega
 have j:c%16/4%2=c/4%2:=by omega
 have k:c%16/2%2=c/2%2:=by omega
 have e:c%16%2=c%2:=by omega
 rw[g,h,j,k,e,Nat.zero_xor]
theorem gd:P32<2^32:=by decide
theorem MS{c:Nat}(h:c<2^32):gb c<2^32:=by
 unfold gb;split;exact Nat.xor_lt_two_pow oo gd;omega
theorem BN: ∀{j c:Nat},c<2^32->gN j c<2^32|0,_,h=>h|j+1,_,h=>BN (j:=j) (MS h)
theorem CO(n:Nat)(h:n<2^32):IntKind.wrap .u32 (n:Int)=(n:Int):=by rw[show IntKind.wrap .u32 (n:Int)=(n:Int)%4294967296 from rfl];omega
theorem GW{n:Nat}(h:n<2^32):(BitVec.ofInt 32 (n:Int)).toNat=n:=by rw[BitVec.toNat_ofInt];omega
theorem PB{x y:Nat}(hx:x<2^32)(hy:y<2^32):gU .u32 (x:Int) (y:Int)=((x^^^y:Nat):Int):=by show IntKind.wrap .u32 (((BitVec.ofInt 32 (x:Int)^^^BitVec.ofInt 32 (y:Int)).toNat:Nat):Int)=_;rw[BitVec.toNat_xor,GW hx,GW hy,CO _ (Nat.xor_lt_two_pow hx hy)]
theorem wt{x:Nat}(hx:x<2^32)(k:Nat)(hk:k<=20):kX .u32 (x:Int) ((2^k-1:Nat):Int)=((x%2^k:Nat):Int):=by
 show IntKind.wrap .u32 (((BitVec.ofInt 32 (x:Int)&&&BitVec.ofInt 32 ((2^k-1:Nat):Int)).toNat:Nat):Int)=_;have h2:2^k-1<2^32:=by have:(2:Nat)^k<=2^20:=GB oo hk;omega
 rw[BitVec.toNat_and,GW hx,GW h2,Nat.and_two_pow_sub_one_eq_mod,CO _ (Nat.lt_of_le_of_lt (Nat.mod_le _ _) hx)]
theorem H5{x:Nat}(hx:x<2^32):kX .u32 (x:Int) 1=((x%2:Nat):Int):=wt hx 1 oo
theorem JQL{x:Nat}(hx:x<2^32):kX .u32 (x:Int) 15=((x%16:Nat):Int):=wt hx 4 oo
theorem ct(x:Nat):gX .u32 (x:Int) 1=some ((x/2:Nat):Int):=by show some ((x:Int).fdiv 2)=_;rw[Int.fdiv_eq_ediv_of_nonneg _ oo];simp
theorem Gk(x:Nat):gX .u32 (x:Int) 4=some ((x/16:Nat):Int):=by show some ((x:Int).fdiv 16)=_;rw[Int.fdiv_eq_ediv_of_nonneg _ oo];simp
def uQ:qQC->Nat->Nat|[],c=>c|b::r,c=>uQ r (gN 8 (c^^^b.toNat))
theorem CL(b:UInt8):b.toNat<2^32:=by have:=UInt8.toNat_lt b;omega
theorem N8: ∀{l:qQC} {c:Nat},c<2^32->uQ l c<2^32|[],_,h=>h|b::r,_,h=>N8 (l:=r) (BN (Nat.xor_lt_two_pow h (CL b)))
def crc(l:qQC):Nat:=uQ l 4294967295^^^4294967295
theorem JPZ(l:qQC):crc l<2^32:=Nat.xor_lt_two_pow (N8 qQH) qQH
theorem xc{x:Nat}(hx:x<2^32):MB .u32 (x:Int)=((x^^^4294967295:Nat):Int):=by show IntKind.wrap .u32 (((BitVec.ofInt 32 4294967295^^^BitVec.ofInt 32 (x:Int)).toNat:Nat):Int)=_;rw[BitVec.toNat_xor,GW hx,show(4294967295:Int)=((4294967295:Nat):Int) by rfl,GW qQH,Nat.xor_comm,CO _ (Nat.xor_lt_two_pow hx qQH)]
theorem it(l:qQC)(hl:J0 l<=1073741824):mP l=some ((crc l:Nat):Int):=by
 have n: ∀(x c:Nat),c<2^32->Tot (J4 QU (l,(c:Int),(x:Int),0)) λr=>r=.inl (l,((gN 8 c:Nat):Int),J1 .i64 (x:Int) 1):=λx c hc=>by
  refine Jj (τ:=Nat×Nat) (λq=>(l,(q.2:Int),(x:Int),(q.1:Int))) (λq=>q.1<=8/\q.2<2^32/\gN (8-q.1) q.2=gN 8 c) (λq=>8-(q.1:Int)) ?_ (0,c) rfl ⟨by omega,hc,rfl⟩;rintro⟨k,d⟩ ⟨h1,h2,g⟩;unfold QU;dsimp only at h1 h2 g⊢;have o:=Jd (k:Int) 1;refine .l (λw=>?_) λw=>.map (P:=λr=>r=.inl (l,((gN 8 c:Nat):Int),J1 .i64 (x:Int) 1)) (.s ?_) λ_ h=>h;have E:=H5 h2;have A:gN (8-(k+1)) (gb d)=gN 8 c:=by rw[<-g,show 8-k=(8-(k+1))+1 by omega];rfl
  have y:J1 .i64 (k:Int) 1=((k+1:Nat):Int):=by omega
  rw[E];refine .e (λhb=>.w (ct d) (.s ⟨(k+1,gb d),?_,⟨by omega,MS h2,A⟩,by omega,by omega⟩)) λhb=>.w (ct d) (.s ⟨(k+1,gb d),?_,⟨by omega,MS h2,A⟩,by omega,by omega⟩);have hb:d%2=1:=by omega
  have v:gb d=d/2^^^P32:=by unfold gb;rw[if_pos hb]
  rw[y,v,show(2197175160:Int)=((P32:Nat):Int)from rfl,PB oo gd];have hb: ¬d%2=1:=by omega
  have v:gb d=d/2:=by unfold gb;rw[if_neg hb]
  rw[y,v];have j:k=8:=by omega
  subst j;rw[<-g];rfl
 have z:Tot (mP l) λr=>r=((crc l:Nat):Int):=by
  unfold mP;refine Jj (τ:=Nat×Nat) (λq=>(l,(q.2:Int),(q.1:Int))) (λq=>q.1<=l.length/\q.2<2^32/\uQ (l.drop q.1) q.2=uQ l 4294967295) (λq=>(l.length:Int)-(q.1:Int)) ?_ (0,4294967295) rfl ⟨by omega,by decide,rfl⟩;rintro⟨k,d⟩ ⟨h1,h2,g⟩;unfold YB;dsimp only at h1 h2 g⊢;have F:J0 l=(l.length:Int):=rfl;have o:=Jd (k:Int) 1;refine .l (λw=>?_) λw=>.s ?_;have j:k<l.length:=by omega
  have B:=Nat.xor_lt_two_pow h2 (CL l[k]);refine .w (TM j) ?_;have C:aW .u32 ((l[k]).toNat:Int)=((l[k]).toNat:Int):=CO _ (CL _);rw[C,PB h2 (CL _)];obtain⟨r,D,rfl⟩:=n k _ B;rw[D];refine .s ⟨(k+1,gN 8 (d^^^(l[k]).toNat)),?_,⟨by omega,BN B,?_⟩,by omega,by omega⟩;rw[show J1 .i64 (k:Int) 1=((k+1:Nat):Int) by omega];rw[<-g,List.drop_eq_getElem_cons j];rfl;have j:k=l.length:=by omega
  subst j;rw[List.drop_length]at g;have g:d=uQ l 4294967295:=g;rw[xc h2,g];rfl
 obtain⟨r,e,rfl⟩:=z;exact e
theorem Lz{n k:Nat}(h:k<n):bB n (k:Int)=some ():=by
 have e:(0:Int)<=k/\(k:Int)<n:=by omega
 simp[bB,e]
theorem JKA:Tot (e8 ()) λv=> ∀(i:Nat) (h:i<16),v[i]=((gN 4 i:Nat):Int):=by
 have w: ∀(x:Nat) (n g:Vector Int 16),x<16->Tot (J4 vn ((x:Int),(x:Int),(x:Int),0,n,g)) λr=>r=.inl (J1 .i64 (x:Int) 1,n,bM g x ((gN 4 x:Nat):Int)):=λx n g D=>by
  refine Jj (τ:=Nat×Nat) (λq=>((x:Int),(q.2:Int),(x:Int),(q.1:Int),n,g)) (λq=>q.1<=4/\q.2<2^32/\gN (4-q.1) q.2=gN 4 x) (λq=>4-(q.1:Int)) ?_ (0,x) rfl ⟨by omega,by omega,rfl⟩;rintro⟨k,d⟩ ⟨h1,h2,j⟩;unfold vn;dsimp only at h1 h2 j⊢;have o:=Jd (k:Int) 1;refine .l (λz=>?_) λz=>.map (P:=λr=>r=.inl (J1 .i64 (x:Int) 1,n,bM g x ((gN 4 x:Nat):Int))) ?_ λ_ h=>h;have G:=H5 h2;have C:gN (4-(k+1)) (gb d)=gN 4 x:=by rw[<-j,show 4-k=(4-(k+1))+1 by omega];rfl
  have B:J1 .i64 (k:Int) 1=((k+1:Nat):Int):=by omega
  rw[G];refine .e (λhb=>.w (ct d) (.s ⟨(k+1,gb d),?_,⟨by omega,MS h2,C⟩,by omega,by omega⟩)) λhb=>.w (ct d) (.s ⟨(k+1,gb d),?_,⟨by omega,MS h2,C⟩,by omega,by omega⟩);have hb:d%2=1:=by omega
  have y:gb d=d/2^^^P32:=by unfold gb;rw[if_pos hb]
  rw[B,y,show(2197175160:Int)=((P32:Nat):Int)from rfl,PB oo gd];have hb: ¬d%2=1:=by omega
  have y:gb d=d/2:=by unfold gb;rw[if_neg hb]
  rw[B,y];have A:k=4:=by omega
  subst A;have j:d=gN 4 x:=j;have H:vat g (Int.toNat (x:Int))=some g[x]:=by simp[vat,D]
  refine .w (Lz D) (.w H (.s ?_));rw[j];rfl
 unfold e8;refine Jj (τ:=Nat×Vector Int 16) (λq=>((q.1:Int),Vector.replicate 16 0,q.2)) (λq=>q.1<=16/\ ∀(i:Nat) (h:i<16),i<q.1->q.2[i]=((gN 4 i:Nat):Int)) (λq=>16-(q.1:Int)) ?_ (0,Vector.replicate 16 0) rfl ⟨by omega,λi h I=>by omega⟩;rintro⟨k,v⟩ ⟨h1,h2⟩;unfold Gf;dsimp only at h1 h2⊢;have o:=Jd (k:Int) 1;refine .l (λz=>?_) λz=>.s λi h=>h2 i h oo;have A:k<16:=by omega
 have E:aW .u32 (k:Int)=(k:Int):=CO _ oo;rw[E];obtain⟨r,F,rfl⟩:=w k (Vector.replicate 16 0) v A;rw[F];refine .s ⟨(k+1,bM v k ((gN 4 k:Nat):Int)),by rw[show J1 .i64 (k:Int) 1=((k+1:Nat):Int) by omega],⟨by omega,λi h hi=>?_⟩,by omega,by omega⟩;simp only[bM,Vector.getElem_setIfInBounds];by_cases e:k=i;subst e;simp;rw[if_neg e];exact h2 i h oo
theorem Mb(l:qQC)(hl:J0 l<=1073741824):KC l=some ((crc l:Nat):Int):=by
 have w:Tot (KC l) λr=>r=((crc l:Nat):Int):=by
  unfold KC;refine .b JKA λv ht=>Jj (τ:=Nat×Nat) (λq=>(l,(q.2:Int),J0 l,(q.1:Int),v)) (λq=>q.1<=l.length/\q.2<2^32/\uQ (l.drop q.1) q.2=uQ l 4294967295) (λq=>(l.length:Int)-(q.1:Int)) ?_ (0,4294967295) rfl ⟨by omega,by decide,rfl⟩;rintro⟨k,d⟩ ⟨h1,h2,g⟩;unfold Ci;dsimp only at h1 h2 g⊢;have E:J0 l=(l.length:Int):=rfl;have o:=Jd (k:Int) 1;refine .l (λA=>?_) λA=>.s ?_;have n:k<l.length:=by omega
  have j:=Nat.xor_lt_two_pow h2 (CL l[k]);have step: ∀x:Nat,x<2^32->bB 16 (kX .u32 (x:Int) 15)=some ()/\vat v (Int.toNat (kX .u32 (x:Int) 15))=some ((gN 4 (x%16):Nat):Int)/\gU .u32 ((x/16:Nat):Int) ((gN 4 (x%16):Nat):Int)=((gN 4 x:Nat):Int):=by
   intro x j;have h:x%16<16:=by omega
   rw[JQL j];refine⟨Lz h,by rw[Int.toNat_natCast,<-ht _ h];simp[vat,h],?_⟩;rw[PB oo (BN oo),<-JLB]
  obtain⟨C,D,B⟩:=step _ j;obtain⟨b1,b2,z⟩:=step (gN 4 (d^^^(l[k]).toNat)) (BN j);have y:aW .u32 ((l[k]).toNat:Int)=((l[k]).toNat:Int):=CO _ (CL _);refine .w (TM n) ?_;rw[y,PB h2 (CL _)];refine .w (Gk _) (.w C (.w D ?_));rw[B];refine .w (Gk _) (.w b1 (.w b2 ?_));rw[z];refine .s ⟨(k+1,gN 4 (gN 4 (d^^^(l[k]).toNat))),by rw[show J1 .i64 (k:Int) 1=((k+1:Nat):Int) by omega],⟨by omega,BN (BN j),?_⟩,by omega,by omega⟩;rw[<-g,List.drop_eq_getElem_cons n,<-Ln 4 4];rfl;have n:k=l.length:=by omega
  subst n;rw[List.drop_length]at g;have g:d=uQ l 4294967295:=g;rw[xc h2,g];rfl
 obtain⟨r,e,rfl⟩:=w;exact e
theorem wu{n:Int}(h1:0<=n)(h2:n<18446744073709551616):IntKind.u64.wrap n=n:=by rw[show IntKind.u64.wrap n=n%18446744073709551616 by simp[IntKind.wrap,IntKind.bits,IntKind.signed]];omega
theorem kr{σ τ ρ:Type}{f:σ->Option (σ⊕ρ)}{g:τ->Option (τ⊕ρ)}(R:σ->τ->Prop)
  (h: ∀s t,R s t->(f s=none/\g t=none)\/(∃r,f s=some (.inr r)/\g t=some (.inr r))\/ ∃s' t',f s=some (.inl s')/\g t=some (.inl t')/\R s' t'):
  ∀(n:Nat) s t,R s t->dE f n s=dE g n t
 |0,s,t,_=>rfl
 |n+1,s,t,hR=>by
  rcases h s t hR with⟨h1,h2⟩|⟨r,h1,h2⟩|⟨s',t',h1,h2,e⟩;simp only[dE,h1,h2];simp only[dE,h1,h2];simp only[dE,h1,h2];exact kr R h n s' t' e
theorem PD{σ τ ρ:Type}{f:σ->Option (σ⊕ρ)}{g:τ->Option (τ⊕ρ)}(R:σ->τ->Prop)
  (h: ∀s t,R s t->(f s=none/\g t=none)\/(∃r,f s=some (.inr r)/\g t=some (.inr r))\/ ∃s' t',f s=some (.inl s')/\g t=some (.inl t')/\R s' t') {s:σ} {t:τ} (hR:R s t):
  J4 f s=J4 g t:=by
 apply Option.ext;intro r;rw[lR,lR];constructor;rintro⟨n,e⟩;exact⟨n,by rw[<-kr R h n s t hR];exact e⟩;rintro⟨n,e⟩;exact⟨n,by rw[kr R h n s t hR];exact e⟩
theorem UI(x:qQC×Jm):DP x=JI x:=by
 obtain⟨s,a,n⟩:=x;unfold DP JI;dsimp only;by_cases h1:aL n 1=false;rw[if_pos h1,if_pos h1];by_cases h2:aR n 8=false;rw[if_pos h2,if_pos h2];split;rfl;split;split;rfl;have M:1<=n:=by
  have: ¬n<1:=λh=>by rw[cB.2 h]at h1;cases h1
  omega
 have F:n<=8:=by
  have: ¬8<n:=λh=>by rw[iK.2 h]at h2;cases h2
  omega
 refine PD (fun(z:qQC×Int×Int×Int×Int) (w:qQC×Int×Int×Int×Int)=>z.1=w.1/\z.2.1=w.2.1/\z.2.2.1=w.2.2.2.1/\z.2.2.2.1=w.2.2.1/\z.2.2.2.2=w.2.2.2.2/\0<=z.2.2.2.2/\z.2.2.2.1<=8) ?_ ⟨rfl,rfl,rfl,rfl,rfl,aZ _,F⟩;rintro⟨s1,H,J,G,g⟩ ⟨I,O,N,K,L⟩ ⟨B,A,C,r,k,D,v⟩;dsimp only at B A C r k D v;subst B A C r k;unfold Bx AJ;dsimp only;by_cases j:aL g G=true;rw[if_pos j,if_pos j];have j:=cB.1 j;have E:aW .u64 (bT .i64 8 g)=bT .i64 8 g:=by
  have o:=pG 8 g;have e:bT .i64 8 g=8*g:=by omega
  rw[e];exact wu oo oo
 rw[E];cases nG s1 (J1 .i64 H g)with
 |none=>exact .inl ⟨rfl,rfl⟩
 |some y=>
  simp only[JE];cases nF .u64 (aW .u64 y) (bT .i64 8 g)with
  |none=>exact .inl ⟨rfl,rfl⟩
  |some q=>have o:=Jd g 1;exact .inr (.inr ⟨_,_,rfl,rfl,rfl,rfl,rfl,rfl,rfl,by dsimp only;omega,v⟩)
 rw[if_neg j,if_neg j];exact .inr (.inl ⟨_,rfl,rfl⟩);rfl;rw[if_neg h2,if_neg h2];rw[if_neg h1,if_neg h1]
theorem gx{l:qQC}{n:Int}{k:Nat}(h1:1<=k)(h:k<=8)(hl:J0 l<=70368744177664):fI (l,n,(k:Int))=some (l++J0d n k):=by
 show JnV l n (k:Int)=_;have e: ¬((k:Int)<1\/8<(k:Int)):=by omega
 have g:l.length+8<=140737488355328:=by unfold J0 at hl;omega
 rw[JnV,if_neg e,if_pos g,Int.toNat_natCast]
theorem ix{s:qQC}{n:Int}{k:Nat}(h1:1<=k)(y:k<=8)(hl:J0 s<=70368744177664):Jz (s,n,(k:Int))=some (s++J0d n k):=by
 have g:Tot (Jz (s,n,(k:Int))) λr=>r=s++J0d n k:=by
  unfold Jz;refine .j (λ_=>.g (λc=>by dsimp only at c;omega) λ_=>?_) λc=>by dsimp only at c;omega
  refine Jj (τ:=Nat) (λj=>(s++J0d n j,n,(k:Int),(j:Int))) (λj=>j<=k) (λj=>(k:Int)-(j:Int)) ?_ 0 (by simp[J0d,toStr]) (zQ2 _);intro j z;unfold XY;dsimp only;have x:=Jd (j:Int) 1;have w:=pG 8 (j:Int);refine .l (λc=>?_) λc=>.s (by rw[show j=k by omega]);have o:aW .u64 (bT .i64 8 (j:Int))=((8*j:Nat):Int):=by unfold aW;rw[wu oo oo];omega
  have v:gX .u64 (aW .u64 n) (aW .u64 (bT .i64 8 (j:Int)))=some ((aW .u64 n).fdiv (2^(8*j))):=by
   rw[o];simp only[gX];rw[if_neg oo];have:min (((8*j:Nat):Int)).toNat IntKind.u64.bits=8*j:=by simp only[Int.toNat_natCast];exact Nat.min_eq_left (by show 8*j<=64;omega)
   rw[this]
  have q:aW .u8 ((aW .u64 n).fdiv (2^(8*j)))=J6V n j:=rfl;refine .w v ?_;rw[q];have h:cS (s++J0d n j) (toStr [J6V n j])=some (s++J0d n (j+1)):=by unfold cS;rw[if_pos (by unfold J0 at hl;simp[J0d,toStr];omega)];simp[J0d,toStr,List.range_succ]
  exact .w h (.s ⟨j+1,by rw[show J1 .i64 (j:Int) 1=((j+1:Nat):Int) by omega],by omega,by omega,by omega⟩)
 obtain⟨r,e,rfl⟩:=g;exact e
theorem xh(l:qQC):mR l=lV l:=by
 unfold mR lV;by_cases h:aR (J0 l) 8392=true;rw[if_pos h,if_pos h];rw[if_neg h,if_neg h];have hl:J0 l<=8392:=by have: ¬8392<J0 l:=λc=>h (iK.2 c);omega
 have j:J0 ([]:qQC)<=70368744177664:=by decide
 have e:=gx (l:=[]) (n:=J0 l) (k:=4) qQH qQH j;have g:=ix (s:=[]) (n:=J0 l) (k:=4) qQH qQH j;rw[show((4:Nat):Int)=4 from rfl]at e g;rw[e,g];simp only[JE];cases hc:cS ([]++J0d (J0 l) 4) l with
 |none=>rfl
 |some y=>
  simp only[JE];have r:J0 y<=8396:=(by unfold cS at hc;split at hc;injection hc with hc;subst hc;unfold J0 at*;simp[J0d,toStr];omega;cases hc);rw[Mb y oo,it y oo];simp only[JE];have o:=gx (l:=y) (n:=aW .i64 ((crc y:Nat):Int)) (k:=4) qQH qQH oo;have q:=ix (s:=y) (n:=aW .i64 ((crc y:Nat):Int)) (k:=4) qQH qQH oo;rw[show((4:Nat):Int)=4 from rfl]at o q;rw[o,q]
theorem dx{s:qQC}{p:Int}(hp:0<=p)(hl:J0 s<=1073741824):
  (p+4<=J0 s-> ∃v:Nat,v<2^32/\JI (s,p,4)=some ((v:Int),0))/\(J0 s<p+4->p<=4611686018427387904->JI (s,p,4)=some (0,5)):=by
 have o:=bI (J0 s) p;have H:J0 s=(s.length:Int):=rfl;refine⟨λh=>?_,λh G=>?_⟩;have k:Tot (JI (s,p,4)) λy=> ∃v:Nat,v<2^32/\y=((v:Int),0):=by
  unfold JI;dsimp only;refine .j (λ_=>.k (λ_=>.l (λc=>by omega) λ_=>.k (λ_=>.l (λc=>by omega) λ_=>?_) λc=>by omega) λc=>by omega) λc=>by omega
  refine Jj (τ:=Nat×Nat) (λq=>(s,p,4,(q.2:Int),(q.1:Int))) (λq=>q.1<=4/\q.2<2^(8*q.1)) (λq=>4-(q.1:Int)) ?_ (0,0) rfl ⟨by omega,by decide⟩;rintro⟨j,x⟩ ⟨E,n⟩;dsimp only at E n;unfold AJ;dsimp only;have K:=Jd (j:Int) 1;have J:=pG 8 (j:Int);have L:=Jd p (j:Int);refine .l (λc=>?_) λc=>.s ?_;have D:J1 .i64 p (j:Int)=((p.toNat+j:Nat):Int):=by omega
  have g:p.toNat+j<s.length:=by omega
  have w:(s[p.toNat+j]'g).toNat<256:=UInt8.toNat_lt _;have B:aW .u64 (bT .i64 8 (j:Int))=((8*j:Nat):Int):=by unfold aW;rw[xO oo oo];omega
  have C:nF .u64 (aW .u64 (((s[p.toNat+j]'g).toNat:Nat):Int)) ((8*j:Nat):Int)=some (IntKind.wrap .u64 ((((s[p.toNat+j]'g).toNat:Nat):Int)*2^(8*j))):=by
   unfold aW;rw[xO oo oo];simp only[nF];rw[if_neg oo];have:min (((8*j:Nat):Int)).toNat IntKind.u64.bits=8*j:=by simp only[Int.toNat_natCast];exact Nat.min_eq_left (by show 8*j<=64;omega)
   rw[this]
  have z:=Kf (x:=x) (b:=(s[p.toNat+j]'g).toNat) (j:=j) oo n w;have A:x+(s[p.toNat+j]'g).toNat*2^(8*j)<2^(8*(j+1)):=by
   have I:(2:Nat)^(8*(j+1))=256*2^(8*j):=by rw[Nat.mul_add,Nat.pow_add,GP]
   have:((s[p.toNat+j]'g).toNat+1)*2^(8*j)<=256*2^(8*j):=zQ4 _ oo;rw[zQ8,Nat.one_mul]at this;omega
  rw[D,TM g,JE,B,C,JE,z];exact .s ⟨(j+1,x+(s[p.toNat+j]'g).toNat*2^(8*j)),by rw[show J1 .i64 (j:Int) 1=((j+1:Nat):Int) by omega],⟨by omega,A⟩,by omega,by omega⟩;have r:j=4:=by omega
  subst r;refine⟨x,n,?_⟩;unfold aW;rw[ZS oo oo]
 obtain⟨y,e,v,F,rfl⟩:=k;exact⟨v,F,e⟩;have k:Tot (JI (s,p,4)) λy=>y=(0,5):=(by unfold JI;dsimp only;exact .j (λ_=>.k (λ_=>.l (λc=>by omega) λ_=>.k (λ_=>.l (λc=>.s rfl) λc=>by omega) λc=>.s rfl) λc=>by omega) λc=>by omega);obtain⟨y,e,rfl⟩:=k;exact e
theorem zq{s:qQC}{p:Int}(hl:J0 s<=1073741824):RH (s,p)=jA (s,p):=by
 unfold RH jA;dsimp only;by_cases g:aL p 0=false;rw[if_pos g,if_pos g];have hp:0<=p:=by
  have: ¬p<0:=λc=>by rw[cB.2 c]at g;cases g
  omega
 by_cases h1:aR p (J0 s)=true;rw[if_pos h1,if_pos h1];rw[if_neg h1,if_neg h1];have r:p<=J0 s:=by have: ¬J0 s<p:=λc=>h1 (iK.2 c);omega
 rw[UI];rcases Int.lt_or_le (J0 s) (p+4)with hc|hc;rw[(dx hp hl).2 hc oo];rfl;obtain⟨v,I,e⟩:=(dx hp hl).1 hc;rw[e];simp only[JE];rw[if_neg (show¬aO 0 0=true by decide),if_neg (show¬aO 0 0=true by decide)];by_cases h2:aR (v:Int) 8392=true;rw[if_pos h2,if_pos h2];rw[if_neg h2,if_neg h2];have y:(v:Int)<=8392:=by have: ¬8392<(v:Int):=λc=>h2 (iK.2 c);omega
 have D:=Jd p 4;have C:=Jd (J1 .i64 p 4) (v:Int);have E:=bI (J0 s) p;have F:=Jd (v:Int) 8;have A:=Jd p 8;have z:=Jd (J1 .i64 p 8) (v:Int);have B:=Jd (J1 .i64 (J1 .i64 p 4) (v:Int)) 4;have j:0<=J1 .i64 (J1 .i64 p 4) (v:Int):=by omega
 rw[UI];rcases Int.lt_or_le (J0 s) (J1 .i64 (J1 .i64 p 4) (v:Int)+4)with hd|hd;rw[(dx j hl).2 hd oo,if_pos (cB.2 oo)];rfl;obtain⟨u,q,e'⟩:=(dx j hl).1 hd;rw[e',if_neg (λc=>by have:=cB.1 c;omega)];simp only[JE];rw[if_neg (show¬aO 0 0=true by decide)];cases hs:bE s (some p) (some (J1 .i64 (J1 .i64 p 4) (v:Int)))with
 |none=>rfl
 |some w=>
  simp only[JE];have G:J0 w<=J0 s:=by
   have o:p<=J1 .i64 (J1 .i64 p 4) (v:Int):=by omega
   obtain⟨w',h,_,H⟩:=CG (l:=s) hp o oo;rw[hs]at h;injection h with h;subst h;omega
  rw[Mb w oo,it w oo];simp only[JE];have x:=JPZ w;have k:aW .i64 ((crc w:Nat):Int)=((crc w:Nat):Int):=by unfold aW;rw[ZS oo oo]
  have n:aW .u32 (u:Int)=(u:Int):=CO _ q;rw[k,n,show J1 .i64 (J1 .i64 (J1 .i64 p 4) (v:Int)) 4=J1 .i64 (J1 .i64 p 8) (v:Int) by omega]
 rw[if_neg g,if_neg g]
theorem JN0{x:qQC×Jm}{y:Jm}(h:JI x=some y):y.2=0\/y.1=0:=by
 have e:Par (JI x) λy=>y.2=0\/y.1=0:=by unfold JI;refine .j (λ_=>.k (λ_=>.l (λ_=>.s (.inr rfl)) λ_=>.k (λ_=>.l (λ_=>.s (.inr rfl)) λ_=>?_) λ_=>.s (.inr rfl)) λ_=>.s (.inr rfl)) λ_=>.s (.inr rfl);refine .z (λ_=>True) trivial ?_;intro z _;unfold AJ;exact .l (λ_=>.b λ_ _=>.b λ_ _=>.s qQG) λ_=>.s (.inl rfl)
 exact e _ h
theorem yq(x:Int×qQC×Jm):oJ x=JA x:=by
 unfold oJ JA;by_cases h:aO x.2.2.2 0=true;rw[if_pos h,if_pos h];rw[if_neg h,if_neg h,UI];have j:x.2.2.2=0:=Decidable.of_not_not λc=>h (eR.2 c);cases hg:JI (x.2.1,x.2.2.1,x.1)with
 |none=>rfl
 |some y=>
  simp only[JE];by_cases g:y.2=0;rw[if_pos (gM.2 g),if_neg (λc=>eR.1 c g),g,j];rw[if_neg (λc=>g (gM.1 c)),if_pos (eR.2 g)];rcases JN0 hg with e|e;exact absurd e g;rw[e]
theorem Nf(x:Int×qQC×Jm):RO x=uI x:=by
 unfold RO uI;by_cases e:x.2.2.2=0;rw[if_pos (gM.2 e)];have h: ¬aO x.2.2.2 0=true:=λc=>eR.1 c e;rw[if_neg h,if_neg h];by_cases hl:Jn .i64 (J0 x.2.1) x.2.2.1<x.1;rw[if_pos (cB.2 hl),if_pos (iK.2 hl),if_pos (show aO 5 0=true by decide)];rw[if_neg (λc=>hl (cB.1 c)),if_neg (λc=>hl (iK.1 c))];rw[if_neg (λc=>e (gM.1 c)),if_pos (eR.2 e),if_pos (eR.2 e)]
theorem JJX(x:qQC×Jm):RR x=xC x:=by unfold RR xC;simp only[yq,Nf]
theorem JNL(hv: ∀e,kM e=Jl e)(x:qQC):YV x=tU x:=by unfold YV tU;simp only[yq,Nf,JJX,hv]
theorem dH{s:qQC}{n:Int}{k:Nat}(h1:1<=k)(e:k<=8)(hl:J0 s<=70368744177664): ∃y,fI (s,n,(k:Int))=some y/\Jz (s,n,(k:Int))=some y/\J0 y=J0 s+k:=
 ⟨_,gx h1 e hl,ix h1 e hl,by unfold J0;simp[J0d,toStr]⟩
theorem gr{a b y:qQC}(h:cS a b=some y):J0 y=J0 a+J0 b:=by
 unfold cS at h;split at h;injection h with h;subst h;unfold J0;simp;cases h
theorem VQ{s:qQC}{c:fZ}(hl:J0 s<=35184372088832)(hc:J0 c.2<=1073741824): ∃y,PK (s,c)=some y/\tN (s,c)=some y/\J0 y<=J0 s+J0 c.2+1:=by
 unfold PK tN;dsimp only;have q:0<=J0 c.2:=J8;by_cases h:Jk c.1=true;obtain⟨y,e,g,o⟩:=dH (s:=s) (n:=255) (k:=1) qQH qQH oo;rw[show((1:Nat):Int)=1 from rfl]at e g o;exact⟨y,by rw[if_pos h,e];rfl,by rw[if_pos h,g];rfl,by omega⟩;obtain⟨y,e,g,o⟩:=dH (s:=s) (n:=J0 c.2) (k:=1) qQH qQH oo;rw[show((1:Nat):Int)=1 from rfl]at e g o;have j:cS y c.2=some (y++c.2):=by unfold cS;rw[if_pos (by unfold J0 at*;omega)]
 exact⟨y++c.2,by rw[if_neg h,e];simp only[JE,j],by rw[if_neg h,g];simp only[JE,j],by have:=gr j;omega⟩
theorem JOb{x:aA}(hv:kM x=Jl x)(h1:J0 x.2.2.2.2.2.2.1.2.2.1.2<=1073741824)(h2:J0 x.2.2.2.2.2.2.1.2.2.2.2<=1073741824):oC x=mV x:=by
 unfold oC mV;rw[hv];cases Jl x with
 |none=>rfl
 |some v=>
  simp only[JE];by_cases hb:Jk v=true;rw[if_pos hb,if_pos hb];rw[if_neg hb,if_neg hb];obtain⟨V,w,S,l3⟩:=dH (s:=[]) (n:=x.1) (k:=8) qQH qQH qQH;have l0:J0 ([]:qQC)=0:=rfl;obtain⟨y4,A,M,l4⟩:=dH (s:=V) (n:=x.2.1) (k:=1) qQH qQH oo;obtain⟨K,z,L,l5⟩:=dH (s:=y4) (n:=x.2.2.1) (k:=4) qQH qQH oo;obtain⟨j,D,G,l6⟩:=dH (s:=K) (n:=x.2.2.2.1) (k:=8) qQH qQH oo;obtain⟨h,F,C,l7⟩:=dH (s:=j) (n:=x.2.2.2.2.1) (k:=8) qQH qQH oo;obtain⟨g,J,Q,l8⟩:=dH (s:=h) (n:=x.2.2.2.2.2.1) (k:=8) qQH qQH oo;obtain⟨y9,P,B,l9⟩:=dH (s:=g) (n:=x.2.2.2.2.2.2.1.1) (k:=4) qQH qQH oo;obtain⟨yA,E,I,lA⟩:=dH (s:=y9) (n:=x.2.2.2.2.2.2.1.2.1) (k:=1) qQH qQH oo;obtain⟨U,T,qB,lB⟩:=VQ (s:=yA) (c:=x.2.2.2.2.2.2.1.2.2.1) oo h1;obtain⟨Z,Y,qC,lC⟩:=VQ (s:=U) (c:=x.2.2.2.2.2.2.1.2.2.2) oo h2;obtain⟨H,R,O,lD⟩:=dH (s:=Z) (n:=J0 x.2.2.2.2.2.2.2) (k:=4) qQH qQH oo;simp only[show((8:Nat):Int)=8 from rfl,show((4:Nat):Int)=4 from rfl,show((1:Nat):Int)=1 from rfl]at w S A M z L D G F C J Q P B E I R O;simp only[w,S,A,M,z,L,G,C,Q,B,I,qB,qC,O,JE];have st: ∀(o q:qQC) (i:Nat) (n:Int),i<3->idx [x.2.2.2.1,x.2.2.2.2.1,x.2.2.2.2.2.1] (i:Int)=some n->fI (o,n,8)=some q->
    J4 FI (o,[x.2.2.2.1,x.2.2.2.2.1,x.2.2.2.2.2.1],J0 [x.2.2.2.1,x.2.2.2.2.1,x.2.2.2.2.2.1],(i:Int),x)=J4 FI (q,[x.2.2.2.1,x.2.2.2.2.1,x.2.2.2.2.2.1],J0 [x.2.2.2.1,x.2.2.2.2.1,x.2.2.2.2.2.1],((i+1:Nat):Int),x):=by
   intro o q i n hi e hp;refine eX ?_;unfold FI;dsimp only;have hl:J0 [x.2.2.2.1,x.2.2.2.2.1,x.2.2.2.2.2.1]=3:=rfl;have o1:=Jd (i:Int) 1;rw[if_pos (cB.2 oo),e];simp only[JE];rw[hp];simp only[JE];rw[show J1 .i64 (i:Int) 1=((i+1:Nat):Int) by omega]
  have s0:=st K j 0 _ qQH rfl D;have s1:=st j h 1 _ qQH rfl F;have W:=st h g 2 _ qQH rfl J;rw[show((0:Nat):Int)=0 from rfl]at s0;rw[s0,s1,W];have fin:FI (g,[x.2.2.2.1,x.2.2.2.2.1,x.2.2.2.2.2.1],J0 [x.2.2.2.1,x.2.2.2.2.1,x.2.2.2.2.2.1],((2+1:Nat):Int),x)=Option.map .inr ((cS H x.2.2.2.2.2.2.2).bind λN=>some (N,0)):=by unfold FI;dsimp only;have hl:J0 [x.2.2.2.1,x.2.2.2.2.1,x.2.2.2.2.2.1]=3:=rfl;rw[if_neg (λc=>by have:=cB.1 c;omega)];simp only[P,E,T,Y,R,JE]
  cases hc:cS H x.2.2.2.2.2.2.2 with
  |some y=>rw[hc]at fin;exact dV fin
  |none=>
   rw[hc]at fin;cases hw:J4 FI (g,[x.2.2.2.1,x.2.2.2.2.1,x.2.2.2.2.2.1],J0 [x.2.2.2.1,x.2.2.2.2.1,x.2.2.2.2.2.1],((2+1:Nat):Int),x)with
   |none=>rfl
   |some r=>
    rw[lR]at hw;obtain⟨n,e⟩:=hw;cases n with
    |zero=>cases e
    |succ n=>simp only[dE,fin]at e;cases e
theorem JOn(r:aF):zP r=tO r:=by rw[JKF];unfold tO;have M:J0 ([80,77,82,78]:qQC)=4:=rfl;obtain⟨B,w,y,K⟩:=dH (s:=[80,77,82,78]) (n:=r.1) (k:=8) qQH qQH qQH;obtain⟨F,j,A,N⟩:=dH (s:=B) (n:=r.2.1) (k:=8) qQH qQH oo;obtain⟨C,e,z,H⟩:=dH (s:=F) (n:=r.2.2.1) (k:=4) qQH qQH oo;obtain⟨E,h,x,I⟩:=dH (s:=C) (n:=r.2.2.2.1) (k:=4) qQH qQH oo;obtain⟨D,g,v,G⟩:=dH (s:=E) (n:=r.2.2.2.2.1) (k:=1) qQH qQH oo;obtain⟨J,o,q,L⟩:=dH (s:=D) (n:=J0 r.2.2.2.2.2) (k:=4) qQH qQH oo;simp only[show((8:Nat):Int)=8 from rfl,show((4:Nat):Int)=4 from rfl,show((1:Nat):Int)=1 from rfl]at w y j A e z h x g v o q;simp only[w,y,j,A,e,z,h,x,g,v,o,q,JE]
theorem JLO{x:aF}(hl:J0 (ent x)<=4096)(he: ∀e∈ent x,oC e=mV e)(hv: ∀e∈ent x,∃b,mV e=some (b,0)/\J0 b<=8392)(hf: ∀(b:qQC),J0 b<=8392-> ∃f,lV b=some f/\J0 f=J0 b+8):
  ∀(l:List aA) (i:Nat) (out:qQC),(ent x).drop i=l->i<=(ent x).length->J0 out<=8400*(i+1)->
   sE mR oC 40 l out=J4 AK (out,(i:Int),x):=by
 intro l
 induction l with
 |nil=>
  intro i out hd hi v;have hi':i=(ent x).length:=by have:=congrArg List.length hd;simp at this;omega
  refine(dV ?_).symm;unfold AK;dsimp only;rw[if_neg (λc=>by have:=cB.1 c;have:(i:Int)<J0 (ent x):=this;unfold J0 at this;omega)]
 |cons e l ih=>
  intro i out hd hi v;have n:i<(ent x).length:=(by rcases zQ3 i (ent x).length with h|h;exact h;rw[List.drop_of_length_le h]at hd;cases hd);have o:(ent x)[i]?=some e:=by have:=congrArg (λl=>l[0]?) hd;simpa using this
  have q:e∈ent x:=zQ5 o;obtain⟨b,hb,r⟩:=hv e q;obtain⟨f,g,z⟩:=hf b r;have y:=Jd (i:Int) 1;have w:J0 (ent x)=((ent x).length:Int):=rfl;have j:cS out f=some (out++f):=by unfold cS;rw[if_pos (by unfold J0 at*;omega)]
  have step:AK (out,(i:Int),x)=some (.inl (out++f,((i+1:Nat):Int),x)):=by
   unfold AK;dsimp only;have k:idx x.2.2.2.2.2 (i:Int)=some e:=by show idx (ent x) (i:Int)=some e;unfold idx;rw[if_pos oo,Int.toNat_natCast];exact o
   rw[if_pos (cB.2 (by show(i:Int)<J0 (ent x);omega)),k];simp only[JE];rw[hb];simp only[JE];rw[g];simp only[JE];rw[j];simp only[JE];rw[show J1 .i64 (i:Int) 1=((i+1:Nat):Int) by omega]
  rw[eX step];unfold sE;rw[he e q,hb];simp only[JE];rw[if_pos trivial,xh,g];simp only[JE];rw[if_pos (by unfold J0 at*;omega)];refine ih (i+1) (out++f) ?_ n (by unfold J0 at*;simp;omega);rw[<-uR,hd];rfl
theorem JI7{x:aA}(hv:Jl x=some true)(h1:J0 x.2.2.2.2.2.2.1.2.2.1.2<=12)(h2:J0 x.2.2.2.2.2.2.1.2.2.2.2<=12)(h3:J0 x.2.2.2.2.2.2.2<=8192): ∃b,mV x=some (b,0)/\J0 b<=8392:=by
 unfold mV;rw[hv];simp only[JE];rw[if_neg (show¬Jk true=true by decide)];obtain⟨D,V,z,I⟩:=dH (s:=[]) (n:=x.1) (k:=8) qQH qQH qQH;have l0:J0 ([]:qQC)=0:=rfl;obtain⟨Q,Y,r,K⟩:=dH (s:=D) (n:=x.2.1) (k:=1) qQH qQH oo;obtain⟨H,W,q,B⟩:=dH (s:=Q) (n:=x.2.2.1) (k:=4) qQH qQH oo;obtain⟨L,p6,h,U⟩:=dH (s:=H) (n:=x.2.2.2.1) (k:=8) qQH qQH oo;obtain⟨A,p7,g,M⟩:=dH (s:=L) (n:=x.2.2.2.2.1) (k:=8) qQH qQH oo;obtain⟨G,p8,y,E⟩:=dH (s:=A) (n:=x.2.2.2.2.2.1) (k:=8) qQH qQH oo;obtain⟨N,p9,e,P⟩:=dH (s:=G) (n:=x.2.2.2.2.2.2.1.1) (k:=4) qQH qQH oo;obtain⟨S,pA,o,O⟩:=dH (s:=N) (n:=x.2.2.2.2.2.2.1.2.1) (k:=1) qQH qQH oo;obtain⟨C,pB,T,lB⟩:=VQ (s:=S) (c:=x.2.2.2.2.2.2.1.2.2.1) oo oo;obtain⟨F,pC,R,Z⟩:=VQ (s:=C) (c:=x.2.2.2.2.2.2.1.2.2.2) oo oo;obtain⟨j,pD,v,J⟩:=dH (s:=F) (n:=J0 x.2.2.2.2.2.2.2) (k:=4) qQH qQH oo;simp only[show((8:Nat):Int)=8 from rfl,show((4:Nat):Int)=4 from rfl,show((1:Nat):Int)=1 from rfl]at z r q h g y e o v I K B U M E P O J;simp only[z,r,q,h,g,y,e,o,T,R,v,JE];have w:cS j x.2.2.2.2.2.2.2=some (j++x.2.2.2.2.2.2.2):=by unfold cS;rw[if_pos (by unfold J0 at*;omega)]
 rw[w];exact⟨_,rfl,by have:=gr w;omega⟩
theorem xt{b:qQC}(hb:J0 b<=8392): ∃f,lV b=some f/\J0 f=J0 b+8:=by
 unfold lV;rw[if_neg (λc=>by have:=iK.1 c;omega)];have r:0<=J0 b:=J8;have v:J0 ([]:qQC)=0:=rfl;obtain⟨y,p,q,l⟩:=dH (s:=[]) (n:=J0 b) (k:=4) qQH qQH qQH;simp only[show((4:Nat):Int)=4 from rfl]at q l;rw[q];simp only[JE];have e:cS y b=some (y++b):=by unfold cS;rw[if_pos (by unfold J0 at*;omega)]
 rw[e];simp only[JE];have j:=gr e;rw[it _ oo];simp only[JE];obtain⟨z,o,g,h⟩:=dH (s:=y++b) (n:=aW .i64 ((crc (y++b):Nat):Int)) (k:=4) qQH qQH oo;simp only[show((4:Nat):Int)=4 from rfl]at g h;rw[g];exact⟨z,rfl,by omega⟩
theorem JLz(r:aF): ∃y,tO r=some y/\J0 y=33:=by unfold tO;have O:J0 ([80,77,82,78]:qQC)=4:=rfl;obtain⟨v,N,j,E⟩:=dH (s:=[80,77,82,78]) (n:=r.1) (k:=8) qQH qQH qQH;obtain⟨G,L,q,H⟩:=dH (s:=v) (n:=r.2.1) (k:=8) qQH qQH oo;obtain⟨x,I,o,A⟩:=dH (s:=G) (n:=r.2.2.1) (k:=4) qQH qQH oo;obtain⟨D,K,h,B⟩:=dH (s:=x) (n:=r.2.2.2.1) (k:=4) qQH qQH oo;obtain⟨z,J,g,w⟩:=dH (s:=D) (n:=r.2.2.2.2.1) (k:=1) qQH qQH oo;obtain⟨C,M,e,F⟩:=dH (s:=z) (n:=J0 r.2.2.2.2.2) (k:=4) qQH qQH oo;simp only[show((8:Nat):Int)=8 from rfl,show((4:Nat):Int)=4 from rfl,show((1:Nat):Int)=1 from rfl]at j q o h g e E H A B w F;simp only[j,q,o,h,g,e,JE];exact⟨C,rfl,by omega⟩
theorem JNN{x:aF}(h:nD x):EK x=oE x:=by
 obtain⟨v,D,A,hR⟩:=vv h;have e:EK x=ML jQ zP mR oC (λx=>x.2.2.2.2.2) x:=rfl;rw[e];unfold ML oE;rw[D,A];simp only[JE];cases v with
 |false=>rw[if_neg (show¬false=true by decide),if_pos (show Jk false=true by decide)]
 |true=>
  rw[if_pos rfl,if_neg (show¬Jk true=true by decide),JOn];have R:=hR rfl;obtain⟨y,C,z⟩:=JLz x;obtain⟨f,hf,w⟩:=xt (b:=y) oo;rw[C];simp only[JE];rw[xh,hf];simp only[JE];rw[if_pos (by unfold J0 at w z;omega)];have fe: ∀e∈ent x,Ty.fit 16384 9223372036854775807 J3 e:=h.2.2.2.2.2.2;have o: ∀e∈ent x,Jl e=some true/\J0 e.2.2.2.2.2.2.1.2.2.1.2<=12/\J0 e.2.2.2.2.2.2.1.2.2.2.2<=12/\e.2.2.2.2.2.2.2=[]:=λe g=>by obtain⟨j,E⟩:=fA.1 g;obtain⟨k,n,_⟩:=R.2.2.1 j e E;obtain⟨_,_,_,_,_,_,_,_,_,_,b1,b2,_⟩:=EF.of k n;have c:=(YC (B:=16384) (S:=9223372036854775807) (X:=e.2.2.2.2.2.2.1) (fe e g).2.2.2.2.2.2.1).get b2;exact⟨k,(c.2 rfl).2.2.2.2.1,(c.2 rfl).2.2.2.2.2,b1⟩
  refine JLO R.2.1 (λe g=>?_) (λe g=>?_) (λb hb=>xt hb) (ent x) 0 f rfl (zQ2 _) oo;obtain⟨k,n,q,r⟩:=o e g;exact JOb (TU e) oo oo;obtain⟨k,n,q,r⟩:=o e g;exact JI7 k n q (by rw[r];decide)
theorem JRI(x:Int×qQC×Int):xB x=(JJ (x.2.1,x.2.2,x.1)).map λv=>(v,x.2.1,J1 .i64 x.2.2 x.1):=by
 obtain⟨n,s,a⟩:=x;unfold xB JJ;dsimp only;rw[UI];cases JI (s,a,n)with
 |none=>rfl
 |some y=>rfl
theorem JPi{s:qQC}(h:J0 s=33):KU s=(bE s none (some 4)).bind λk=>if neS k [80,77,82,78]=true then some (0,0,0,0,0,0,false,[])else
  (JJ (s,4,8)).bind λa=>(JJ (s,12,8)).bind λb=>(JJ (s,20,4)).bind λc=>(JJ (s,24,4)).bind λd=>(JJ (s,28,1)).bind λe=>(JJ (s,29,4)).bind λn=>
   some (a,b,c,d,e,n,bA n 4096,[]):=by
 unfold KU vk vq;dsimp only;have j:J0 ([80,77,82,78]:qQC)=4:=rfl;rw[h,if_pos (show aO 33 33=false by decide),j,if_pos (show aS 33 4=true by decide)];cases bE s none (some 4)with
 |none=>rfl
 |some y=>
  simp only[JE];by_cases g:y=[80,77,82,78];subst g;rw[if_neg (show¬Jk (eqS [80,77,82,78] [80,77,82,78])=true by decide),if_neg (show¬neS [80,77,82,78] [80,77,82,78]=true by decide)];simp only[JRI,show J1 .i64 4 8=12 by decide,show J1 .i64 12 8=20 by decide,show J1 .i64 20 4=24 by decide,show J1 .i64 24 4=28 by decide,show J1 .i64 28 1=29 by decide];cases JJ (s,4,8)with
  |none=>rfl
  |some a=>
   simp only[cZ,JE,show J1 .i64 4 8=12 by decide];cases JJ (s,12,8)with
   |none=>rfl
   |some b=>
    simp only[cZ,JE,show J1 .i64 12 8=20 by decide];cases JJ (s,20,4)with
    |none=>rfl
    |some c=>
     simp only[cZ,JE,show J1 .i64 20 4=24 by decide];cases JJ (s,24,4)with
     |none=>rfl
     |some d=>
      simp only[cZ,JE,show J1 .i64 24 4=28 by decide];cases JJ (s,28,1)with
      |none=>rfl
      |some e=>
       simp only[cZ,JE,show J1 .i64 28 1=29 by decide];cases JJ (s,29,4)with
       |none=>rfl
       |some n=>rfl
  have o:neS y [80,77,82,78]=true:=by simp[neS,g]
  have q:Jk (eqS y [80,77,82,78])=true:=by simp[eqS,g,Jk]
  rw[if_pos o,if_pos q]
theorem JNb{s:qQC}(h: ¬J0 s=33):KU s=some (0,0,0,0,0,0,false,[]):=by unfold KU;rw[if_neg (by rw[<-Bool.not_eq_true,eR];exact λt=>t h)]
theorem JNA{x:qQC×Jm}{y:Jm}(h:JI x=some y): -9223372036854775808<=y.1/\y.1<=9223372036854775807:=by
 have e:Par (JI x) λy=> -9223372036854775808<=y.1/\y.1<=9223372036854775807:=by unfold JI;refine .j (λ_=>.k (λ_=>.l (λ_=>.s qQH) λ_=>.k (λ_=>.l (λ_=>.s qQH) λ_=>?_) λ_=>.s qQH) λ_=>.s qQH) λ_=>.s qQH;refine .z (λ_=>True) trivial ?_;intro z _;unfold AJ;exact .l (λ_=>.b λ_ _=>.b λ_ _=>.s qQG) λ_=>.s (pR .i64 _)
 exact e _ h
theorem OU{x:qQC×Jm}{n:Int}(h:JJ x=some n): -9223372036854775808<=n/\n<=9223372036854775807:=by unfold JJ at h;obtain⟨y,g,e⟩:=bQ.1 h;injection e with e;subst e;exact JNA g
theorem JNo{x:qQC}(hl:J0 x<=1073741824):XZ x=zV x:=by
 unfold XZ zV;rw[zq hl];cases hu:jA (x,0)with
 |none=>rfl
 |some g=>
  dsimp only[Option.bind_some];by_cases c:aO g.2.2 0=true;rw[if_pos c,if_pos c];rw[if_neg c,if_neg c];have T:g.2.2=0:=Decidable.of_not_not λt=>c (eR.2 t);by_cases h:J0 g.1=33;rw[JPi h,if_pos (by rw[<-Bool.not_eq_true,eR];exact λt=>t h)];cases bE g.1 none (some 4)with
  |none=>rfl
  |some P=>
   dsimp only[Option.bind_some];by_cases D:neS P [80,77,82,78]=true;rw[if_pos D,if_pos D];rfl;rw[if_neg D,if_neg D];cases ha:JJ (g.1,4,8)with
   |none=>rfl
   |some a=>
    cases hb:JJ (g.1,12,8)with
    |none=>rfl
    |some b=>
     cases hc:JJ (g.1,20,4)with
     |none=>rfl
     |some c=>
      cases hd:JJ (g.1,24,4)with
      |none=>rfl
      |some d=>
       cases he:JJ (g.1,28,1)with
       |none=>rfl
       |some e=>
        cases hf:JJ (g.1,29,4)with
        |none=>rfl
        |some n=>
         dsimp only[Option.bind_some];by_cases K:4096<n;rw[if_pos (iK.2 K),if_pos (show Jk (bA n 4096)=true by rw[show bA n 4096=false by rw[<-Bool.not_eq_true,dU];omega];rfl)];rw[if_neg (λt=>K (iK.1 t)),if_neg (show¬Jk (bA n 4096)=true by rw[dU.2 oo];decide)];have F:=((KV (B:=0) (S:=1073741824) (X:=(x,0)) ⟨hl,lG .i64 0⟩).get hu).2 T;refine PD (λz w=>z=w/\z.1=x/\(0<=z.2.1/\z.2.1<=J0 x)/\z.2.2.1=n/\0<=z.2.2.2.1/\z.2.2.2.2.2.2.2.2.2.2.2=([],a,b,c,d,e)/\J0 z.2.2.2.2.2.2.2.2.2.2.1<=z.2.2.2.1/\(z.2.2.2.1<=n\/z.2.2.2.1<=0)/\ ∀q∈z.2.2.2.2.2.2.2.2.2.2.1,Ty.fit 16384 9223372036854775807 J3 q) ?_ ⟨rfl,rfl,⟨F.1,F.2.1⟩,rfl,aZ _,rfl,aZ _,.inr (aZ _),nofun⟩;rintro⟨s,p,m,i,w1,w2,w3,Y,w5,Z,l,w7⟩ w ⟨rfl,L,V,M,Q,I,O,N,H⟩;dsimp only at L V M Q I O N H;subst L M I;unfold E5 er;dsimp only;by_cases j:aL i m=true;rw[if_pos j,if_pos j,zq hl];have j:=cB.1 j;cases hU:jA (s,p)with
         |none=>exact .inl ⟨rfl,rfl⟩
         |some u=>
          dsimp only[Option.bind_some];by_cases y:aO u.2.2 0=true;rw[if_pos y,if_pos y];exact .inr (.inl ⟨_,rfl,rfl⟩);rw[if_neg y,if_neg y,JNL TU];have E:u.2.2=0:=Decidable.of_not_not λt=>y (eR.2 t);cases hD:tU u.1 with
          |none=>exact .inl ⟨rfl,rfl⟩
          |some v=>
           dsimp only[Option.bind_some];by_cases k:aO v.2 0=true;rw[if_pos k];exact .inr (.inl ⟨_,rfl,rfl⟩);rw[if_neg k];cases hA:JB 128 l [v.1]with
           |none=>exact .inl ⟨rfl,rfl⟩
           |some l'=>
            have ea:l'=l++[v.1]:=(by unfold JB at hA;split at hA;injection hA with hA;exact hA.symm;cases hA);have G:=(KV (B:=0) (S:=1073741824) (X:=(s,p)) ⟨hl,J2.2 (show -9223372036854775808<=p/\p<=9223372036854775807 by omega)⟩).get hU;have R:=(nw (B:=0) (S:=1073741824) (X:=u.1) G.1.1).get hD;have o:=Jd i 1;refine .inr (.inr ⟨_,_,rfl,rfl,rfl,rfl,⟨(G.2 E).1,(G.2 E).2.1⟩,rfl,?_,rfl,?_,?_,?_⟩);dsimp only;omega;subst ea;dsimp only;rw[iL,eL];omega;dsimp only;omega;subst ea;intro q A;rcases zQ9.1 A with A|A;exact H q A;rw[eO.1 A];exact Ty.fit.up qQH qQH R.1
         rw[if_neg j,if_neg j];by_cases C:aL p (J0 s)=true;have J:=cB.1 C;rw[if_pos C,if_pos (eR.2 oo)];exact .inr (.inl ⟨_,rfl,rfl⟩);have J: ¬p<J0 s:=λt=>C (cB.2 t);rw[if_neg C,if_neg (λt=>eR.1 t oo)];obtain⟨v,U,W,_⟩:=vv (r:=(a,b,c,d,e,l)) ⟨J2.2 (OU ha),J2.2 (OU hb),J2.2 (OU hc),J2.2 (OU hd),J2.2 (OU he),by show J0 l<=16384;omega,H⟩;rw[U,W];dsimp only[Option.bind_some];by_cases k:Jk v=true;rw[if_pos k];exact .inr (.inl ⟨_,rfl,rfl⟩);rw[if_neg k];exact .inr (.inl ⟨_,rfl,rfl⟩)
  rw[JNb h,if_neg (by rw[<-Bool.not_eq_true,eR];exact λt=>t h)];rfl
theorem JNR(l:JG):ef l=JY l:=by
 have g:J4 pj (l.2.1,J0 l.2.1,0,l)=J4 KW (0,l):=by
  refine PD (λs t=>s=(l.2.1,J0 l.2.1,t.1,l)/\t.2=l) ?_ ⟨rfl,rfl⟩;rintro s ⟨i,l'⟩ ⟨rfl,rfl⟩;unfold pj KW;dsimp only;by_cases h1:aL i (J0 l'.2.1)=true;rw[if_pos h1,if_pos h1];cases h2:idx l'.2.1 i with
  |none=>exact .inl ⟨rfl,rfl⟩
  |some y=>
   simp only[JE,TU];by_cases e:aO y.1 (J1 .i64 l'.1 i)=false;rw[if_pos e,if_pos e];cases h4:Jl y with
   |none=>exact .inl ⟨rfl,rfl⟩
   |some b=>
    cases b with
    |false=>exact .inr (.inl ⟨_,rfl,rfl⟩)
    |true=>exact .inr (.inr ⟨_,_,rfl,rfl,rfl,rfl⟩)
   rw[if_neg e,if_neg e];exact .inr (.inl ⟨_,rfl,rfl⟩)
  rw[if_neg h1,if_neg h1];exact .inr (.inl ⟨_,rfl,rfl⟩)
 unfold ef JY;rw[show iZ l=iZ l from rfl,g]
section
theorem yP:J0 (ent ((0,0,0,0,0,[]):aF))<=4096:=by decide
theorem jy{x:qQC}(hl:J0 x<=1073741824):Tot (zV x) λy=>J0 (ent y.1)<=4096/\(y.2=0->fB y.1/\nD y.1):=by
 unfold zV;refine .b ((KV (B:=0) (S:=1073741824) (X:=(x,0)) ⟨hl,lG .i64 0⟩)) λj h2=>.d (λc=>.s ⟨yP,λk=>absurd k c⟩) λI=>.q (λU=>?_) λ_=>.s ⟨yP,λk=>absurd k qQH⟩;obtain⟨V,O,_⟩:=AR (l:=j.1) (k:=4) qQH oo;have num: ∀a k:Int, -9223372036854775808<=a/\a<=9223372036854775807-> -9223372036854775808<=k/\k<=9223372036854775807->Tot (JJ (j.1,a,k)) λn=> -9223372036854775808<=n/\n<=9223372036854775807:=λa k C K=>
  (Xk (B:=0) (S:=1073741824) (X:=(j.1,a,k)) ⟨h2.1.1,J2.2 C,J2.2 K⟩).mono λn h=>J2.1 h
 refine .w O (.i (λ_=>.s ⟨yP,λk=>absurd k qQH⟩) λ_=>.b (num 4 8 qQH qQH) λa C=>.b (num 12 8 qQH qQH) λb hb=>.b (num 20 4 qQH qQH) λc hc=>.b (num 24 4 qQH qQH) λd hd=>.b (num 28 1 qQH qQH) λe Q=>.b (num 29 4 qQH qQH) λn hn=>.g (λ_=>.s ⟨yP,λk=>absurd k qQH⟩) λY=>?_);have w:=h2.2 I;refine Jj (τ:=Int×Int×List aA) (λq=>(x,q.1,n,q.2.1,[],0,0,0,0,0,q.2.2,[],a,b,c,d,e)) (λq=>(0<=q.1/\q.1<=J0 x)/\0<=q.2.1/\(q.2.1<=n\/q.2.1<=0)/\J0 q.2.2<=q.2.1/\ ∀z∈q.2.2,Ty.fit 16384 9223372036854775807 J3 z) (λq=>n-q.2.1) ?_ (j.2.1,0,[]) rfl ⟨⟨w.1,w.2.1⟩,aZ _,.inr (aZ _),aZ _,nofun⟩;rintro⟨p,i,l⟩ ⟨L,T,M,H,A⟩;dsimp only at L T M H A;unfold er;dsimp only;have o:=Jd i 1;refine .l (λW=>?_) λ_=>.map (P:=λy=>J0 (ent y.1)<=4096/\(y.2=0->fB y.1/\nD y.1)) ?_ λ_ h=>h;refine .b ((KV (B:=0) (S:=1073741824) (X:=(x,p)) ⟨hl,J2.2 (show -9223372036854775808<=p/\p<=9223372036854775807 by omega)⟩)) λu F=>.d (λc=>.s ⟨yP,λk=>absurd k c⟩) λG=>.b (nw (B:=0) (S:=1073741824) (X:=u.1) F.1.1) λv R=>.d (λc=>.s ⟨yP,λk=>absurd k c⟩) λD=>.w (rD (bytes:=128) (l:=l) (m:=[v.1]) (by rw[eL];omega) qQH) (.s ?_);have r:=F.2 G;refine⟨(u.2.1,J1 .i64 i 1,l++[v.1]),rfl,⟨⟨r.1,r.2.1⟩,?_,?_,?_,λz g=>?_⟩,?_,?_⟩;dsimp only;omega;dsimp only;omega;dsimp only;rw[iL,eL];omega;rcases zQ9.1 g with g|g;exact A z g;rw[eO.1 g];exact Ty.fit.up qQH qQH R.1;dsimp only;omega;omega;refine .d (λ_=>.s ⟨yP,λk=>absurd k qQH⟩) λ_=>?_;have E:nD (a,b,c,d,e,l):=⟨J2.2 C,J2.2 hb,J2.2 hc,J2.2 hd,J2.2 Q,by show J0 l<=16384;omega,A⟩;obtain⟨v,Z,N,J⟩:=vv E;refine .w N (.n (λ_=>.s ⟨yP,λk=>absurd k qQH⟩) λD=>.s ⟨?_,λ_=>⟨J D,E⟩⟩);show J0 l<=4096;omega
end
section
theorem Mq(x:BZ):FM x=eV x:=by
 unfold FM eV;split;cases idx x.1.1 x.2<;>cases idx x.1.1 (J1 .i64 x.2 1)<;>rfl
 rfl
theorem JOs(x:ta):ew x=mW x:=by
 unfold ew mW;refine PD (λs t=>s=(J0 x.1.1,t.1,x.1,x.2)/\t.2=(x.1,x.2)) ?_ ⟨rfl,rfl⟩;rintro s ⟨i,a,r⟩ ⟨rfl,h⟩;injection h with h1 h2;subst h1 h2;unfold F3 FQ;dsimp only;by_cases c:aL i (J0 x.1.1)=true;rw[if_pos c,if_pos c,Mq];cases eV (x.1,i)with
 |none=>exact .inl ⟨rfl,rfl⟩
 |some y=>
  dsimp only[Option.bind_some];by_cases d:aM y.1 x.2.2.2.1=true;rw[if_pos d,if_pos d];by_cases e:aM y.2 x.2.2.2.2.1=true;rw[if_pos e,if_pos e];exact .inr (.inl ⟨_,rfl,rfl⟩);rw[if_neg e,if_neg e];exact .inr (.inr ⟨_,_,rfl,rfl,rfl,rfl⟩);rw[if_neg d,if_neg d];exact .inr (.inr ⟨_,_,rfl,rfl,rfl,rfl⟩)
 rw[if_neg c,if_neg c];exact .inr (.inl ⟨_,rfl,rfl⟩)
theorem qx{a:Ji}(h:J0 a.1<=16)(r:aF):Tot (mW (a,r)) λy=>(y= -1\/(0<=y/\y<J0 a.1))/\(0<=y->idx a.1 y=some r.2.2.1):=by
 unfold mW;refine rK (l:=a.1) (λi (_:Unit)=>(i,a,r)) (λ_ _=>True) (λpre x t _ hl _=>?_) (λ_ _=>?_) a.1 [] () _ rfl rfl trivial;unfold FQ;dsimp only;have lt:=nR hl;have g:=J8 (l:=pre);have o:=vP hl (n:=16) h;rw[if_pos (cB.2 lt)];have j:Tot (eV (a,J0 pre)) λy=>y.1=x:=by unfold eV;dsimp only;have q:=Jd (J0 pre) 1;refine .l (λc=>?_) λc=>.w (tD hl) (.s rfl);obtain⟨w,e,_⟩:=gZ (l:=a.1) (i:=J1 .i64 (J0 pre) 1) oo c;exact .w e (.w (tD hl) (.s rfl))
 refine .b j λy k=>.e (λc=>.e (λ_=>.s ⟨.inr ⟨g,lt⟩,λ_=>?_⟩) λ_=>.s ⟨(),by rw[o],qQG⟩) λ_=>.s ⟨(),by rw[o],qQG⟩;rw[tD hl,<-k,c];unfold FQ;dsimp only;rw[if_neg (by rw[cB];omega)];exact .s ⟨.inl rfl,λh=>absurd h qQH⟩
def Itc(a:Ji)(f:aQ)(r:aF)(p:Int):Prop:=f.1=1/\zV f.2.2=some (r,0)/\mW (a,r)=some p/\0<=p
theorem Itc.uniq{a:Ji}{f:aQ}{r r':aF}{p j:Int}(h:Itc a f r p)(g:Itc a f r' j):r=r'/\p=j:=by have e:=h.2.1.symm.trans g.2.1;injection e with e;injection e with e _;subst e;have k:=h.2.2.1.symm.trans g.2.2.1;injection k with k;exact⟨rfl,k⟩
variable {a:Ji} (hb:J0 a.1<=16) {f:aQ} (hs:J0 f.2.2<=1073741824)
include hb hs
theorem JSz:Tot (ey (a,f)) λy=>(y.2=true/\ ∃p,p<J0 a.1/\Itc a f y.1 p)\/(y.2=false/\ ∀r p,¬Itc a f r p):=by
 unfold ey;dsimp only;refine .d (λc=>.s (.inr ⟨rfl,λr p h=>c h.1⟩)) λc=>?_;rw[JNo hs];refine .b (jy hs).eqn λy h=>.e (λd=>?_) λd=>.s (.inr ⟨rfl,λr p k=>d (by have:=h.2.symm.trans k.2.1;injection this with this;rw[this])⟩);rw[JOs];refine .b (qx hb y.1).eqn λq j=>.s ?_;obtain⟨r,z⟩:=y;dsimp only at d;subst d;dsimp only at j⊢;rcases j.1.1 with k|k;subst k;exact .inr ⟨rfl,λr' n k=>by have e:=h.2.symm.trans k.2.1;injection e with e;injection e with e _;subst e;have g:=j.2.symm.trans k.2.2.1;injection g with g;have:=k.2.2.2;omega⟩;exact .inl ⟨nT.2 k.1,q,k.2,c,h.2,j.2,k.1⟩
omit hb hs
noncomputable def its(a:Ji)(f:aQ):Option aD:= @dite _ (∃r p,Itc a f r p) (Classical.propDecidable _) (λh=>some (h.choose,f.2.1)) λ_=>none
theorem VN{r:aF}{p:Int}(h:Itc a f r p):its a f=some (r,f.2.1):=by have k: ∃r p,Itc a f r p:=⟨r,p,h⟩;unfold its;rw[dif_pos k];obtain⟨q,e⟩:=k.choose_spec;rw[(e.uniq h).1]
theorem jo(h: ∀r p,¬Itc a f r p):its a f=none:=by unfold its;rw[dif_neg];exact fun⟨r,p,k⟩=>h r p k
theorem u0{x:aD}(h:its a f=some x):x.2=f.2.1/\ ∃p,Itc a f x.1 p:=by
 unfold its at h;split at h;rename_i k;injection h with h;subst h;exact⟨rfl,k.choose_spec⟩;cases h
noncomputable def fE(a:Ji):List aD:=a.2.2.1.filterMap (its a)
theorem Itc.ok{r:aF}{p:Int}(h:Itc a f r p)(hs:J0 f.2.2<=1073741824):fB r/\nD r:=by exact((jy hs).get h.2.1).2 rfl
end
section
noncomputable def leN(x y:aD):Bool:= @decide (¬ltN y x) (Classical.propDecidable _)
theorem JQb(p q r:Int):tZ [p,q,r]=some (if p=0 then(if q=0 then r else q)else p):=by
 unfold tZ;have j:zZ (0,[p,q,r],J0 [p,q,r],0)=if aO p 0=true then some (.inr p)else some (.inl (0,[p,q,r],J0 [p,q,r],1)):=rfl
 have h:zZ (0,[p,q,r],J0 [p,q,r],1)=if aO q 0=true then some (.inr q)else some (.inl (0,[p,q,r],J0 [p,q,r],2)):=rfl
 have n:zZ (0,[p,q,r],J0 [p,q,r],2)=if aO r 0=true then some (.inr r)else some (.inl (0,[p,q,r],J0 [p,q,r],3)):=rfl
 have o:zZ (0,[p,q,r],J0 [p,q,r],3)=some (.inr 0):=rfl;by_cases hp:p=0;rw[if_pos hp,eX (j.trans (if_neg (by rw[eR];exact λk=>k hp)))];by_cases e:q=0;rw[if_pos e,eX (h.trans (if_neg (by rw[eR];exact λk=>k e)))];by_cases g:r=0;rw[eX (n.trans (if_neg (by rw[eR];exact λk=>k g))),dV o,g];exact dV (n.trans (if_pos (eR.2 g)));rw[if_neg e];exact dV (h.trans (if_pos (eR.2 e)));rw[if_neg hp];exact dV (j.trans (if_pos (eR.2 hp)))
theorem yl{x y:Int}:gG x y=0↔x=y:=by
 unfold gG;repeat' split
 all_goals first|omega|(constructor<;>intro h<;>omega)
theorem kj{x y:Int}:gG x y<0↔x<y:=by
 unfold gG;repeat' split
 all_goals first|omega|(constructor<;>intro h<;>omega)
theorem JSt:HP FR leN:=by
 intro x y;refine⟨if gG x.1.2.2.1 y.1.2.2.1=0 then(if gG x.1.1 y.1.1=0 then gG x.2 y.2 else gG x.1.1 y.1.1)else gG x.1.2.2.1 y.1.2.2.1,?_,?_⟩;unfold FR;dsimp only;rw[MK,MK,MK];simp only[JE];rw[JQb];rfl;have e:(!leN y x)= @decide (ltN x y) (Classical.propDecidable _):=(by unfold leN;by_cases c:ltN x y<;>simp[c]);rw[e,Bool.eq_iff_iff,cB];simp only[decide_eq_true_eq];unfold ltN;have h:=yl (x:=x.1.2.2.1) (y:=y.1.2.2.1);have j:=kj (x:=x.1.2.2.1) (y:=y.1.2.2.1);have b1:=yl (x:=x.1.1) (y:=y.1.1);have b2:=kj (x:=x.1.1) (y:=y.1.1);have g:=kj (x:=x.2) (y:=y.2);by_cases h1:gG x.1.2.2.1 y.1.2.2.1=0;rw[if_pos h1];by_cases h2:gG x.1.1 y.1.1=0;rw[if_pos h2];omega;rw[if_neg h2];omega;rw[if_neg h1];omega
theorem CW{x y:aD}:leN x y=true↔ ¬ltN y x:=by unfold leN;simp
noncomputable def CR(a:Ji):List aD:=ST leN (fE a)
noncomputable def WR(a:Ji):List TX:=clp (-1) 0 (CR a)
def WA(a:Ji):Prop:= ∀f∈a.2.2.1,J0 f.2.2<=1073741824
variable {a:Ji} (h:kG a) (hf:WA a)
include h hf
theorem OM{x:aD}(hx:x∈fE a): ∃f∈a.2.2.1,x.2=f.2.1/\(∃p,p<J0 a.1/\Itc a f x.1 p/\idx a.1 p=some x.1.2.2.1)/\fB x.1/\nD x.1:=by
 obtain⟨f,h1,h2⟩:=List.mem_filterMap.1 hx;obtain⟨e,p,hp⟩:=u0 h2;have k:=(qx h.len.2 x.1).get hp.2.2.1;rcases k.1 with q|q;have:=hp.2.2.2;omega;exact⟨f,h1,e,⟨p,q.2,hp,k.2 hp.2.2.2⟩,hp.ok (hf f h1)⟩
theorem M3:(fE a).Pairwise λx y=>x.2<y.2:=by unfold fE;rw[List.pairwise_filterMap];refine h.ids.imp fun{f g} k x j y e=>?_;rw[(u0 j).1,(u0 e).1];exact k
theorem Lt:(fE a).length<=256:=by have:=h.few;unfold J0 at this;have:=List.length_filterMap_le (its a) a.2.2.1;unfold fE;omega
theorem UB{x:aD}:x∈CR a↔x∈fE a:=(CN (le:=leN) (fE a)).mem_iff
theorem JSc:(CR a).Pairwise ltN:=by
 have s:=BX (le:=leN) (λx y z h1 h2=>by rw[CW]at*;unfold ltN at*;omega) (λx y=>by rw[CW,CW];unfold ltN;omega) (fE a);have n:(CR a).Pairwise λx y=>x.2≠y.2:=by refine((CN (le:=leN) (fE a)).pairwise_iff fun{x y} k e=>k e.symm).2 ?_;exact(M3 h hf).imp λk e=>by omega
 refine(List.pairwise_and_iff.2 ⟨s,n⟩).imp fun{x y} k=>?_;rcases ltN.tri x y with q|q|q;exact q;exact absurd q (CW.1 k.1);exact absurd q k.2
theorem tc{x:aD}(hx:x∈CR a):fB x.1/\nD x.1:=by obtain⟨f,_,_,_,k⟩:=OM h hf ((UB h hf).1 hx);exact k
theorem Kz:(CR a).length<=256:=by unfold CR;rw[iH];exact Lt h hf
end
section
theorem K2{α:Type}{bytes:Nat}{l:List α}(h:J0 l<=34359738368)(hb:bytes<=2048):cI bytes l=some l:=by unfold cI;rw[if_pos (VV (by unfold J0 at h;omega) hb)]
variable {a:Ji} (h:kG a) (hf:WA a)
include h hf
end
section
noncomputable def rz(ids:qQD)(F:List aQ):List aQ:=F.filter λf=> !decide (f.2.1∈ids)
noncomputable def JSr(a:Ji)(s:qQC)(w:List TX):Ji:=(a.1,a.2.1,rz (w.map (·.2.1)) a.2.2.1++[(1,a.2.2.2.2,s)],a.2.2.2.1,J1 .i64 a.2.2.2.2 1)
def NX(a:Ji)(fan:Int)(y:sd):Prop:=(¬kG a/\y=(([],0,[],0,0),false,54))\/(kG a/\ ¬(2<=fan/\fan<=8)/\y=(([],0,[],0,0),false,1))\/(kG a/\(2<=fan/\fan<=8)/\((qg fan.toNat gW (WR a)=none/\y=(a,false,0))\/ ∃r w,qg fan.toNat gW (WR a)=some (r,w)/\((1073741824<a.2.2.2.2/\y=(([],0,[],0,0),false,21))\/(a.2.2.2.2<=1073741824/\ ∃s,oE r=some (s,0)/\J0 s<=167968836/\y=(JSr a s w,true,0)))))
theorem JPX{r:aF}(h:fB r)(hf:nD r): ∃s,oE r=some (s,0)/\J0 s<=167968836:=by
 have n:=(g8 h).2;obtain⟨y,e,k⟩:=Wu (B:=4096) (S:=9223372036854775807) (X:=r) ⟨hf.1,hf.2.1,hf.2.2.1,hf.2.2.2.1,hf.2.2.2.2.1,h.2.1,λe j=>Ty.fit.up (B:=0) qQH qQH (show Ty.fit 0 9223372036854775807 J3 e from hf.2.2.2.2.2.2 e j)⟩;have z:Par (oE r) λy=>y.2=0:=by unfold oE;rw[n];refine .b λy g=>?_;injection g with g;subst g;refine .n (λc=>by cases c) λ_=>.b λ_ _=>.b λ_ _=>.z (λ_=>True) trivial λz _=>?_;unfold AK;exact .i (λ_=>.b λ_ _=>.b λ_ _=>.b λ_ _=>.b λ_ _=>.s qQG) λ_=>.s rfl
 obtain⟨s,f⟩:=y;have:=z _ e;dsimp only at this;subst this;exact⟨s,e,k.1⟩
end
section
theorem TW{r:aF}(h:fB r){e:aA}(he:e∈ent r):r.1<=e.1/\e.1<=r.2.1:=by obtain⟨j,g⟩:=fA.1 he;have k:=h.2.2.1 j e g;exact⟨k.2.2.1,k.2.2.2.1⟩
end
section
variable {a:Ji} (hf:WA a) {fan:Int}
include hf
omit hf
theorem NX.uniq{y z:sd}(h:NX a fan y)(g:NX a fan z):y=z:=by
 rcases h with⟨h1,h2⟩|⟨h1,h2,B⟩|⟨h1,h2,B⟩;rcases g with⟨j,k⟩|⟨j,_⟩|⟨j,_⟩;rw[h2,k];exact absurd j h1;exact absurd j h1;rcases g with⟨j,k⟩|⟨j,k,o⟩|⟨j,k,_⟩;exact absurd h1 j;rw[B,o];exact absurd k h2;rcases g with⟨j,k⟩|⟨j,k,o⟩|⟨j,k,o⟩;exact absurd h1 j;exact absurd h2 k;rcases B with⟨e,x⟩|⟨r,w,e,x⟩;rcases o with⟨e',n⟩|⟨r',w',e',n⟩;rw[x,n];rw[e]at e';cases e';rcases o with⟨e',n⟩|⟨r',w',e',n⟩;rw[e]at e';cases e';rw[e]at e';injection e' with e';injection e' with e1 e2;subst e1 e2;rcases x with⟨q,A⟩|⟨q,s,es,_,A⟩;rcases n with⟨q',v⟩|⟨q',_⟩;rw[A,v];omega;rcases n with⟨q',v⟩|⟨q',s',C,_,v⟩;omega;have:=es.symm.trans C;injection this with this;injection this with this _;rw[A,v,this]
end
section
def xT(K:Int)(a:Ji):Prop:=(∀f∈a.2.2.1,J0 f.2.2<=K)/\J0 a.2.2.1<=257/\J0 a.1<=16
theorem xT.zero{K:Int}:xT K ([],0,[],0,0):=⟨nofun,by decide,by decide⟩
theorem xT.up{K e:Int}{a:Ji}(h:xT K a)(hk:K<=e):xT e a:=⟨λf hf=>kS (h.1 f hf) hk,h.2⟩
theorem NX.af{K:Int}{a:Ji}{fan:Int}{y:sd}(e:167968836<=K)(h:xT K a)(o:NX a fan y):xT K y.1/\(y.2.2=0->y.2.1=false->y.1=a)/\(y.2.2=0->y.2.1=true->y.1.2.2.2.2=a.2.2.2.2+1/\a.2.2.2.2<=1073741824):=by
 rcases o with⟨_,rfl⟩|⟨_,_,rfl⟩|⟨ok,_,⟨_,rfl⟩|⟨r,w,_,⟨_,rfl⟩|⟨hs,s,_,ls,rfl⟩⟩⟩;exact⟨.zero,λc=>absurd c qQH,λc=>absurd c qQH⟩;exact⟨.zero,λc=>absurd c qQH,λc=>absurd c qQH⟩;exact⟨h,λ_ _=>rfl,λ_ c=>(by cases c)⟩;exact⟨.zero,λc=>absurd c qQH,λc=>absurd c qQH⟩;have o:=Jd a.2.2.2.2 1;have:=ok.ser;refine⟨⟨λf hf=>?_,?_,h.2.2⟩,λ_ c=>(by cases c),λ_ _=>⟨by show J1 .i64 a.2.2.2.2 1=_;omega,hs⟩⟩;rcases zQ9.1 hf with k|k;exact h.1 f (List.mem_filter.1 k).1;rw[eO.1 k];show J0 s<=K;omega;have g:=List.length_filter_le (λf:aQ=> !decide (f.2.1∈w.map (·.2.1))) a.2.2.1;have:=ok.few;show J0 (rz _ _++_)<=257;rw[iL,eL];unfold rz J0 at*;omega
theorem UO{a:Ji}(h:kG a){i b:Int}(e:idx a.1 i=some b):0<=b/\b<64:=by
 obtain⟨B,e⟩:=bU e;obtain⟨n,k⟩:=dS.1 e;obtain⟨_,z⟩:=bU h.zero;obtain⟨x,o⟩:=dS.1 z;have hl:=h.len;obtain⟨w,j,_⟩:=gZ (l:=a.1) (i:=J0 a.1-1) oo oo;have C:=h.last w j;obtain⟨_,j⟩:=bU j;obtain⟨v,r⟩:=dS.1 j;have g:=h.asc;unfold Asc at g;have p:=List.pairwise_iff_getElem.1 g;have y:=h.pages;have A:(J0 a.1-1).toNat+1=a.1.length:=by unfold J0 at*;omega
 constructor;rcases dz i.toNat with c|c;have q:(0:Int)=b:=by rw[<-k,<-o];congr 1;exact c.symm
 omega;have:=p (0:Int).toNat i.toNat x n c;rw[k,o]at this;omega;rcases zQ3 i.toNat (J0 a.1-1).toNat with c|c;have:=p i.toNat (J0 a.1-1).toNat n v c;rw[k,r]at this;omega;have q:w=b:=by rw[<-k,<-r];congr 1;omega
 omega
theorem yt{a:Ji}(h:kG a){i:Int}(h0:0<=i)(h1:i<J0 a.1):Tot (eV (a,i)) λy=>Ty.fit 0 0 (.i .i64) y.1/\Ty.fit 0 0 (.i .i64) y.2:=by unfold eV;dsimp only;have k:=Jd i 1;have:=h.len.2;obtain⟨w,e,_⟩:=gZ (l:=a.1) h0 h1;have b:=UO h e;have g:Ty.fit 0 0 (.i .i64) w:=J2.2 (show -9223372036854775808<=w/\w<=9223372036854775807 by omega);refine .l (λc=>?_) λc=>.w e (.s ⟨g,fC⟩);obtain⟨n,j,_⟩:=gZ (l:=a.1) (i:=J1 .i64 i 1) oo c;exact .w j (.w e (.s ⟨g,fC⟩))
end
def sD:List aA->qQC->Prop|[],r=>r=[]|e::l,r=> ∃f t,FrB (jT e) f/\sD l t/\r=f++t
theorem sD.snoc{e:aA}{f:qQC}(hf:FrB (jT e) f): ∀{l:List aA} {r:qQC},sD l r->sD (l++[e]) (r++f)|[],r,h=>⟨f,[],hf,rfl,by rw[show r=[]from h,iQ];rfl⟩|x::l,r,⟨j,g,a,b,e⟩=>⟨j,g++f,a,sD.snoc hf b,by rw[e,kY]⟩
def gJ(x:aF):qQC:=[80,77,82,78]++(J0d x.1 8++(J0d x.2.1 8++(J0d x.2.2.1 4++(J0d x.2.2.2.1 4++(J0d x.2.2.2.2.1 1++J0d (J0 (ent x)) 4)))))
theorem WG(x:aF):(gJ x).length=33:=by unfold gJ;simp only[eP,JP];rfl
theorem JH6{x:aF}{w:qQC}(h:tO x=some w):w=gJ x:=by
 have e:Par (tO x) λw=>w=gJ x:=by unfold tO;refine .b λz h2=>.b λy q=>.b λA n=>.b λB o=>.b λr g=>.b λv j=>.s ?_;rw[dT (k:=4) qQH qQH j,dT (k:=1) qQH qQH g,dT (k:=4) qQH qQH o,dT (k:=4) qQH qQH n,dT (k:=8) qQH qQH q,dT (k:=8) qQH qQH h2];unfold gJ;simp only[kY];rfl
 exact e _ h
theorem JFJ{x:aF}{y:qQC×Int}(R:fB x)(h:oE x=some y):y.2=0/\ ∃f t,FrB (gJ x) f/\sD (ent x) t/\y.1=f++t:=by
 have A:Par (oE x) λy=>y.2=0/\ ∃f t,FrB (gJ x) f/\sD (ent x) t/\y.1=f++t:=(by unfold oE;refine .b λv n=>.n (λc=>?_) λ_=>.b λw q=>.b λf hf=>?_;rw[(g8 R).2]at n;injection n with n;rw[<-n]at c;cases c;have q:=JH6 q;subst q;have hf:=SJ hf (by unfold J0;rw[WG];decide);refine .z (fun(z:qQC×Int×aF)=>z.2.2=x/\ ∃(j:Nat) (t:qQC),z.2.1=(j:Int)/\j<=(ent x).length/\sD ((ent x).take j) t/\z.1=f++t) ⟨rfl,0,[],rfl,zQ2 _,rfl,(iQ _).symm⟩ ?_;rintro⟨o,i,k⟩ ⟨rfl,j,t,E,I,ht,C⟩;dsimp only at E C I ht;subst E C;unfold AK;dsimp only;have J:=Jd (j:Int) 1;refine .l (λc=>.b λe H=>.b λb hb=>.b λg F=>.b λr G=>.s ⟨rfl,j+1,t++g,?_,?_,?_,?_⟩) λc=>.s ⟨rfl,f,t,hf,?_,rfl⟩;have:J0 k.2.2.2.2.2=((ent k).length:Int):=rfl;have B:=R.2.1;have B:((ent k).length:Int)<=4096:=B;dsimp only;omega;have:J0 k.2.2.2.2.2=((ent k).length:Int):=rfl;omega;have D:(ent k)[j]?=some e:=(by have:=(bU H).2;rw[Int.toNat_natCast]at this;exact this);have n:=(R.2.2.1 j e D).1;have hb:=I3 hb n;subst hb;rw[List.take_add_one,D];exact ht.snoc (SJ F (by have:=(SU n).2;unfold J0;omega));rw[qY G,kY];have:J0 k.2.2.2.2.2=((ent k).length:Int):=rfl;rw[show j=(ent k).length by omega,List.take_length]at ht;exact ht);exact A _ h
theorem At.set{s w:qQC}{p:Int}{k:Nat}{c:UInt8}(h:At s w p)(hk:p+w.length<=k):At (s.set k c) w p:=by obtain⟨pre,g,e,h⟩:=h;refine⟨pre,g.set (k-pre.length-w.length) c,?_,h⟩;rw[e,List.set_append_right _ _ oo,List.set_append_right _ _ oo]
theorem HK{s:qQC}{p n:Int}{k:Nat}(b:Nat)(h:At s (J0d n k) p)(hl:s.length<=1000000)(h0:0<=n)(hn:n<b)(hb:b=2^(8*k):=by rfl)(h1:1<=k:=by decide)(e:k<=8:=by decide)(j:n<9223372036854775808:=by omega):JJ (s,p,(k:Int))=some n:=by obtain⟨m,rfl⟩:=Int.eq_ofNat_of_zero_le h0;have g:=BP h h1 e oo oo oo;unfold JJ;rw[g];rfl
theorem JIz{x:aF}(R:fB x):bE (gJ x) none (some 4)=some [80,77,82,78]/\JJ (gJ x,4,8)=some x.1/\JJ (gJ x,12,8)=some x.2.1/\JJ (gJ x,20,4)=some x.2.2.1/\JJ (gJ x,24,4)=some x.2.2.2.1/\JJ (gJ x,28,1)=some x.2.2.2.2.1/\JJ (gJ x,29,4)=some (J0 (ent x)):=by
 obtain⟨⟨H,I,B,C,A,E,F,G⟩,h,_⟩:=R;have h:J0 (ent x)<=4096:=h;have D:=J8 (l:=ent x);have hs:(gJ x).length<=1000000:=by rw[WG];decide
 obtain⟨r,e,d,_⟩:=AR (l:=gJ x) (k:=4) qQH (by unfold J0;rw[WG];decide);generalize j:gJ x=s at hs e d⊢;have g:At s (gJ x) 0:=by rw[j];exact .all
 unfold gJ at g;have hd:r=[80,77,82,78]:=by rw[d,<-j];rfl
 replace g:=g.right;have q:(([80,77,82,78]:qQC).length:Int)=4:=rfl;rw[q]at g;have z:=HK (k:=8) 18446744073709551616 g.left hs oo oo;replace g:=g.right;simp only[JP]at g;have y:=HK (k:=8) 18446744073709551616 g.left hs oo oo;replace g:=g.right;simp only[JP]at g;have w:=HK (k:=4) 4294967296 g.left hs oo oo;replace g:=g.right;simp only[JP]at g;have o:=HK (k:=4) 4294967296 g.left hs oo oo;replace g:=g.right;simp only[JP]at g;have v:=HK (k:=1) 256 g.left hs oo oo;replace g:=g.right;simp only[JP]at g;have n:=HK (k:=4) 4294967296 g hs oo oo;exact⟨by rw[e,hd],z,y,w,o,v,n⟩
section
variable {x:aF} {f t:qQC} (R:fB x) (hf:FrB (gJ x) f) (ht:sD (ent x) t) (hl:J0 (f++t)<=1073741824)
include R hf ht hl
theorem JLk:Par (zV (f++t)) λy=>y=(x,0):=by
 obtain⟨G,H,A,C,E,B,D⟩:=JIz R;have M:J0 (f++t)=((f++t).length:Int):=rfl;have T:J0 (ent x)<=4096:=R.2.1;have u:=SN (s:=f++t) (p:=0) hf ⟨[],t,rfl,rfl⟩ oo;unfold zV;rw[u];dsimp only[Option.bind_some];refine .d (λc=>absurd rfl c) λ_=>.q (λ_=>?_) λc=>absurd (show J0 (gJ x)=33 by unfold J0;rw[WG];rfl) c;rw[G,H,A,C,E,B,D];dsimp only[Option.bind_some];rw[if_neg qQH];refine .g (λc=>by omega) λ_=>.z (fun(z:qD)=>z.1=f++t/\z.2.2.1=J0 (ent x)/\z.2.2.2.2.2.2.2.2.2.2.2=([],x.1,x.2.1,x.2.2.1,x.2.2.2.1,x.2.2.2.2.1)/\ ∃rest h,ent x=z.2.2.2.2.2.2.2.2.2.2.1++rest/\z.2.2.2.1=J0 z.2.2.2.2.2.2.2.2.2.2.1/\sD rest h/\At (f++t) h z.2.1/\z.2.1+(h.length:Int)=((f++t).length:Int)) ⟨rfl,rfl,rfl,ent x,t,rfl,rfl,ht,⟨f,[],by rw[iQ],(Int.zero_add _).symm⟩,by simp only[eP];omega⟩ ?_;rintro⟨s,p,m,i,Y,w2,Z,O,W,P,l,Q⟩ ⟨v,r,w,rest,h,h1,h2,j,k,n⟩;dsimp only at v r w h1 h2 k n;subst v r w h2;have L:J0 (ent x)=J0 l+J0 rest:=by rw[h1,iL]
 have V:=J8 (l:=l);unfold er;dsimp only;cases rest with
 |nil=>
  have j:h=[]:=j;subst j;have l0:J0 ([]:List aA)=0:=rfl;refine .l (λc=>by omega) λ_=>.map (.d (λc=>absurd (by simp only[List.length_nil]at n;omega) c) λ_=>?_);have q:(x.1,x.2.1,x.2.2.1,x.2.2.2.1,x.2.2.2.2.1,l)=x:=by
   have:l=ent x:=by rw[h1,iQ]
   rw[this];rfl
  dsimp only;rw[q,(g8 R).2];dsimp only[Option.bind_some];exact .n (λc=>by cases c) λ_=>.s rfl
 |cons e rest=>
  obtain⟨S,F,J,K,rfl⟩:=j;have I:Jl e=some true:=by
   have q:(ent x)[l.length]?=some e:=by rw[h1];simp
   exact(R.2.2.1 _ e q).1
  have N:J0 (e::rest)=1+J0 rest:=by unfold J0;simp;omega
  have U:=J8 (l:=rest);refine .l (λ_=>?_) λc=>by omega
  rw[SN J k.left oo];dsimp only[Option.bind_some];refine .d (λc=>absurd rfl c) λ_=>?_;rw[(SU I).1];dsimp only[Option.bind_some];refine .d (λc=>absurd rfl c) λ_=>.b λl' g=>.s ⟨rfl,rfl,rfl,rest,F,?_,?_,K,k.right,?_⟩;dsimp only;rw[rD (by rw[eL];omega) qQH]at g;injection g with g;subst g;rw[h1,kY];rfl;dsimp only;rw[rD (by rw[eL];omega) qQH]at g;injection g with g;subst g;have o:=Jd (J0 l) 1;rw[iL,eL];omega;dsimp only;rw[eP]at n;omega
end
section
theorem JNw{r:aF}{s:qQC}(R:fB r)(h:oE r=some (s,0))(hl:J0 s<=1073741824):zV s=some (r,0):=by obtain⟨_,f,t,hf,ht,e⟩:=JFJ R h;have e:s=f++t:=e;subst e;obtain⟨y,g,_⟩:=jy hl;rw[g,JLk R hf ht hl _ g]
def EA(a:Ji)(e:aA):Prop:= ∃x∈fE a,e∈ent x.1
structure Gd(a:Ji):Prop where
 ok:kG a
 fit:xT 167968836 a
 all: ∀f∈a.2.2.1,∃x,its a f=some x/\x.1.2.1<a.2.2.2.1
 dis:(fE a).Pairwise λx y=>x.1.2.2.1=y.1.2.2.1->x.1.2.1<y.1.1\/y.1.2.1<x.1.1
 one: ∀e e',EA a e->EA a e'->e.1=e'.1->e=e'
end
section
theorem JJg{a a':Ji}{r r':aF}(h1:a'.1=a.1)(h2:a'.2.1=a.2.1)(h3:r'.2.2.1=r.2.2.1)(h4:r'.2.2.2.1=r.2.2.2.1):mW (a',r')=mW (a,r):=by
 unfold mW;refine PD (λs t=>s.1=t.1/\s.2=(a',r')/\t.2=(a,r)) ?_ ⟨rfl,rfl,rfl⟩;rintro⟨i,s⟩ ⟨j,t⟩ ⟨g,h,e⟩;dsimp only at g h e;subst g h e;have hR:eV (a',i)=eV (a,i):=by unfold eV;dsimp only;rw[h1,h2]
 unfold FQ;dsimp only;rw[h1,hR,h3,h4];split;cases eV (a,i)with
 |none=>exact .inl ⟨rfl,rfl⟩
 |some y=>
  dsimp only[Option.bind_some];split;split;exact .inr (.inl ⟨_,rfl,rfl⟩);exact .inr (.inr ⟨_,_,rfl,rfl,rfl,rfl,rfl⟩);exact .inr (.inr ⟨_,_,rfl,rfl,rfl,rfl,rfl⟩)
 exact .inr (.inl ⟨_,rfl,rfl⟩)
abbrev dc(x y:aD):Prop:=x.1.2.2.1=y.1.2.2.1->x.1.2.1<y.1.1\/y.1.2.1<x.1.1
abbrev GM(x y:aD):Prop:=x.1.2.2.1=y.1.2.2.1->x.1.2.1<y.1.1
theorem JP9{C:List aD}(h1:C.Pairwise ltN)(h2:C.Pairwise dc)(h3: ∀x∈C,x.1.1<=x.1.2.1):C.Pairwise GM:=by refine(h1.and h2).imp_of_mem fun{x y} h g k e=>?_;have:=h3 x h;have:=h3 y g;have:=k.2 e;have:=k.1;unfold ltN at this;omega
theorem Nj: ∀{C:List aD} {lo to:Int},C.Pairwise GM->(∀x∈C,0<x.1.1/\x.1.1<=x.1.2.1/\(x.1.2.2.1=lo->to<x.1.1))->clp lo to C=C.map λx=>(x.1,x.2,true)
 |[],_,_,_,_=>rfl
 |x::t,lo,to,h,j=>by
  obtain⟨n,o⟩:=List.pairwise_cons.1 h;obtain⟨b1,b2,q⟩:=j x List.mem_cons_self;have k:(if x.1.2.2.1=lo then to else 0)<x.1.1:=by split<;>simp_all
  rw[JMm];generalize (if x.1.2.2.1=lo then to else 0)=T at k;rw[if_neg oo,Nj o λy g=>⟨(j y (kU _ g)).1,(j y (kU _ g)).2.1,λe=>n y g e.symm⟩];unfold abv;rw[if_pos k,decide_eq_true k];rfl
end
section
variable {a:Ji}
theorem Gd.hf(G:Gd a):WA a:=λf h=>kS (G.fit.1 f h) qQH
theorem Gd.num(G:Gd a){x:aD}(hx:x∈CR a):0<x.1.1/\x.1.1<=x.1.2.1:=by obtain⟨g,e,_⟩:=(tc G.ok G.hf hx).1.1;exact⟨by omega,e⟩
theorem Gd.ord(G:Gd a):(CR a).Pairwise GM:=
 JP9 (JSc G.ok G.hf) (((CN (le:=leN) (fE a)).pairwise_iff fun{x y} k e=>(k e.symm).symm).2 G.dis) λx g=>(G.num g).2
theorem Gd.wr(G:Gd a):WR a=(CR a).map λx=>(x.1,x.2,true):=
 Nj G.ord λx g=>⟨(G.num g).1,(G.num g).2,λe=>by have:=G.num g;omega⟩
theorem Gd.uniq(G:Gd a){x y:aD}(hx:x∈fE a)(hy:y∈fE a)(e:x.2=y.2):x=y:=by
 have h:=M3 G.ok G.hf;generalize fE a=l at*
 induction l with
 |nil=>cases hx
 |cons z t ih=>
  obtain⟨h1,h2⟩:=List.pairwise_cons.1 h;rcases cV.1 hx with p|p<;>rcases cV.1 hy with q|q
  rw[p,q];have:=h1 y q;rw[p]at e;omega;have:=h1 x p;rw[q]at e;omega;exact ih p q h2
theorem w4{a':Ji}(h1:a'.1=a.1)(h2:a'.2.1=a.2.1)(f:aQ):its a' f=its a f:=by
 have k: ∀r p,Itc a' f r p↔Itc a f r p:=λr p=>by unfold Itc;rw[JJg (r:=r) (r':=r) h1 h2 rfl rfl]
 by_cases h: ∃r p,Itc a f r p;obtain⟨r,p,h⟩:=h;rw[VN h,VN ((k r p).2 h)];rw[jo λr p g=>h ⟨r,p,g⟩,jo λr p g=>h ⟨r,p,(k r p).1 g⟩]
end
section
variable {a:Ji}
theorem Gd.to(G:Gd a){x:aD}(hx:x∈fE a):x.1.2.1<a.2.2.2.1:=by obtain⟨f,h1,h2⟩:=List.mem_filterMap.1 hx;obtain⟨y,e,k⟩:=G.all f h1;rw[h2]at e;injection e with e;rw[e];exact k
end
section
theorem yz(l:List aA)(e:aA):J0 (bS l e)<=J0 l+1:=by
 unfold J0
 induction l with
 |nil=>simp[bS]
 |cons x l ih=>
  unfold bS;split;simp only[xG]at*;omega;split<;>simp only[xG]at* <;>omega
theorem JKT{a:Ji}(hb:J0 a.1<=16){i lo hi:Int}(h0:0<=i)(h:eV (a,i)=some (lo,hi))(w:i<J0 a.1){r:aF}(h1:r.2.2.1=lo)(h2:r.2.2.2.1=hi): ∃p,mW (a,r)=some p/\0<=p:=by
 obtain⟨p,e,_⟩:=qx hb r;refine⟨p,e,?_⟩;have n:Par (mW (a,r)) λp=>0<=p:=by
  unfold mW;refine .z (λz=>z.2=(a,r)/\0<=z.1/\z.1<=i) ⟨rfl,aZ _,h0⟩ ?_;rintro⟨j,z⟩ ⟨k,g,q⟩;have k:z=(a,r):=k;subst k;dsimp only at g q;unfold FQ;dsimp only;refine .l (λc=>?_) λc=>by omega
  by_cases v:j=i;subst v;rw[h];dsimp only[Option.bind_some];exact .e (λ_=>.e (λ_=>.s g) λc=>absurd h2.symm c) λc=>absurd h1.symm c;have o:J1 .i64 j 1=j+1:=(by have o:=Jd j 1;omega);have nx:(((J1 .i64 j 1,a,r):se).2=(a,r))/\0<=J1 .i64 j 1/\J1 .i64 j 1<=i:=⟨rfl,by omega,by omega⟩;exact .b λ_ _=>.e (λ_=>.e (λ_=>.s g) λ_=>.s nx) λ_=>.s nx
 exact n _ e
end
theorem nf{n:Int}(h0:0<=n)(h1:n<=9223372036854775807){B S:Int}:Ty.fit B S (.i .i64) n:=J2.2 ⟨by omega,h1⟩
theorem nx{c:Je}{n:Int}(hn: -9223372036854775808<=n/\n<=9223372036854775807)(h:Ty.fit 16384 1073741824 J5 c)(h0:0<=c.2):Tot (Jp (n,c)) λy=>(0<=y.1/\y.1<=9223372036854775807/\(1<=n->y.1<n))/\Ty.fit 16384 1073741824 J5 y.2/\0<=y.2.2:=
 (Jv (B:=16384) (S:=1073741824) (X:=(n,c)) ⟨J2.2 hn,h⟩ h0).mono λy h=>⟨⟨h.2.1,(J2.1 h.1.1).2,h.2.2.1⟩,h.1.2,h.2.2.2⟩
section
abbrev LJ(c:Je):Prop:=Ty.fit 16384 1073741824 J5 c/\0<=c.2
def LU(l:qQD)(i:Int):Prop:=1<=J0 l/\J0 l<=16/\idx l 0=some 0/\Asc l/\ ∀z∈l,z<i
theorem JK9{n:Int}{c:Je}(h0:1<=n)(hn:n<=64)(hc:LJ c):Tot (YD (n,c)) λy=>LU y.1 n/\LJ y.2:=by
 unfold YD;refine Jj (τ:=Int×Je×qQD) (λq=>(n,q.1,q.2.1,q.2.2)) (λq=>1<=q.1/\q.1<=n/\LJ q.2.1/\LU q.2.2 q.1) (λq=>n-q.1) ?_ (1,c,[0]) rfl ⟨aZ _,h0,hc,show(1:Int)<=1 by decide,show(1:Int)<=16 by decide,rfl,List.pairwise_singleton _ _,λz e=>by rw[eO.1 e];show(0:Int)<1;decide⟩;rintro⟨i,c,l⟩ ⟨h1,hi,h2,A,w,r,v,h⟩;dsimp only at h1 hi h2 A w r v h;unfold Dv;dsimp only;have o:=Jd i 1;have keep: ∀{j:Int},i<=j->LU l j:=λk=>⟨A,w,r,v,λz e=>by have:=h z e;omega⟩;refine .l (λk=>.b (nx (n:=3) qQH h2.1 h2.2) λy g=>.e (λ_=>.l (λC=>.w (rD (by rw[eL];omega) qQH) (.s ⟨(J1 .i64 i 1,y.2,l++[i]),rfl,⟨by dsimp only;omega,by dsimp only;omega,g.2,?_⟩,by dsimp only;omega,by omega⟩)) λ_=>.s ⟨(J1 .i64 i 1,y.2,l),rfl,⟨by dsimp only;omega,by dsimp only;omega,g.2,keep (by dsimp only;omega)⟩,by dsimp only;omega,by omega⟩) λ_=>.s ⟨(J1 .i64 i 1,y.2,l),rfl,⟨by dsimp only;omega,by dsimp only;omega,g.2,keep (by dsimp only;omega)⟩,by dsimp only;omega,by omega⟩) λ_=>.s ⟨keep hi,h2⟩;dsimp only;refine⟨by rw[iL,eL];omega,by rw[iL,eL];omega,?_,?_,λz e=>?_⟩;cases l with
 |nil=>cases r
 |cons x t=>exact r
 exact List.pairwise_append.2 ⟨v,List.pairwise_singleton _ _,λx B y g=>by rw[eO.1 g];exact h x B⟩;rcases zQ9.1 e with e|e;have:=h z e;omega;rw[eO.1 e];omega
end
section
theorem Ky{e:aA}: ∀{l:List aA},l.Pairwise ltE->(bS l e).Pairwise ltE
 |[],_=>List.pairwise_singleton _ _
 |x::l,h=>by
  obtain⟨h1,h2⟩:=List.pairwise_cons.1 h;unfold bS;split;rename_i c;refine List.pairwise_cons.2 ⟨λz g=>?_,Ky h2⟩;rcases JM7 g with g|rfl;exact h1 z g;exact VP.1 c;split;exact h;rename_i n j;have k:ltE e x:=by have o: ¬ltE x e:=λk=>n (VP.2 k);have q: ¬(aT x=aT e/\x.1=e.1):=λk=>j (IV.2 k);unfold ltE at*;omega
  refine List.pairwise_cons.2 ⟨λz g=>?_,h⟩;rcases cV.1 g with rfl|g;exact k;exact k.trans (h1 z g)
theorem g0: ∀{L acc:List aA},acc.Pairwise ltE->(L.foldl bS acc).Pairwise ltE|[],_,h=>h|e::L,acc,h=>show(L.foldl bS (bS acc e)).Pairwise ltE from g0 (L:=L) (Ky h)
theorem Ls{e:aA}: ∀{l:List aA},(∀x∈l,gV x e=0->x=e)-> ∀z,z∈bS l e↔z∈l\/z=e
 |[],_,z=>by simp[bS]
 |x::l,h,z=>by
  have ih:=Ls (l:=l) (λy g=>h y (kU _ g)) z;unfold bS;split;simp only[cV,ih,or_assoc];split;rename_i c;have:=h x List.mem_cons_self c;subst this;simp;exact .inl;simp only[cV];exact or_comm.trans (by simp[or_assoc,or_comm,or_left_comm])
theorem kt: ∀{L acc:List aA},(∀x∈acc++L,∀y∈acc++L,gV x y=0->x=y)-> ∀z,z∈L.foldl bS acc↔z∈acc++L
 |[],acc,_,z=>by simp
 |e::L,acc,h,z=>by
  have j:=Ls (e:=e) (l:=acc) λx g=>h x (by simp[g]) e (by simp);have k: ∀x,x∈bS acc e++L↔x∈acc++e::L:=λx=>by simp[j,or_assoc]
  rw[List.foldl_cons,kt (λx g y n=>h x ((k x).1 g) y ((k y).1 n)),k]
theorem JJx{L M:List aA}(h: ∀x∈L,∀y∈L,x.1=y.1->x=y)(hm: ∀z,z∈L↔z∈M):L.foldl bS []=M.foldl bS []:=by have h1: ∀x∈[]++L,∀y∈[]++L,gV x y=0->x=y:=λx g y e c=>h x g y e (IV.1 c).2;have h2: ∀x∈[]++M,∀y∈[]++M,gV x y=0->x=y:=λx g y e c=>h x ((hm x).2 g) y ((hm y).2 e) (IV.1 c).2;refine Iv (lt:=ltE) (λa k=>by unfold ltE at k;omega) (λa b k k'=>by unfold ltE at*;omega) (g0 List.Pairwise.nil) (g0 List.Pairwise.nil) λz=>?_;rw[kt h1,kt h2];exact hm z
end
section
variable {a:Ji}
noncomputable def EL(a:Ji):List aA:=(CR a).flatMap λx=>ent x.1
theorem ul(G:Gd a)(z:aA):z∈EL a↔EA a z:=by unfold EL EA;rw[List.mem_flatMap];exact⟨fun⟨x,e,h⟩=>⟨x,(UB G.ok G.hf).1 e,h⟩,fun⟨x,e,h⟩=>⟨x,(UB G.ok G.hf).2 e,h⟩⟩
theorem JRU(G:Gd a):RE a=some ((CR a).map (·.1),(CR a).map (·.2)):=by
 have h:=G.ok;have hf:=G.hf;have C:Tot (RE a) λy=>y=((CR a).map (·.1),(CR a).map (·.2)):=by
  unfold RE;refine .b (df a) λy M=>.n (λc=>by rw[M.2 h]at c;cases c) λ_=>rK (l:=a.2.2.1) (λi (b:List aD)=>(a.2.2.1,J0 a.2.2.1,i,a,[],[],b)) (λpre b=>b=pre.filterMap (its a)) (λpre f t b hl hp=>?_) (λb hp=>?_) a.2.2.1 [] [] _ rfl rfl rfl;have w:f∈a.2.2.1:=by rw[hl];simp
  unfold pc;dsimp only;rw[if_pos (cB.2 (nR hl))];refine .w (tD hl) (.b (JSz h.len.2 (hf f w)) λK g=>?_);rw[vP hl (n:=256) h.few];rcases g with⟨v,p,_,r⟩|⟨v,r⟩;rw[v];refine .w (rD (l:=b) (m:=[(K.1,f.2.1)]) (by have:=List.length_filterMap_le (its a) pre;have e:=h.few;have Q:=nR hl;rw[hp,eL];unfold J0 at*;omega) qQH) (.s ⟨_,rfl,?_⟩);rw[hp,List.filterMap_append,List.filterMap_cons,VN r];rfl;rw[v];refine .s ⟨b,rfl,?_⟩;rw[hp,List.filterMap_append,List.filterMap_cons,jo r];simp;subst hp;unfold pc;dsimp only;rw[if_neg (by rw[cB];omega)];refine .endq ?_;have N:=Lt h hf;refine .w (show vz (fE a)=some (CR a)from Kv (le:=leN) (λx y z h1 h2=>by rw[CW]at*;unfold ltN at*;omega) (λx y=>by rw[CW,CW];unfold ltN;omega) JSt oo) ?_;rw[if_pos (show nE (List.length (CR a)) (List.length (List.filterMap (its a) a.2.2.1))=true by show nE (List.length (CR a)) (List.length (fE a))=true;unfold CR;rw[iH];simp[nE])];have O:=Kz h hf;refine rK (l:=CR a) (λi (b:Int×Int×List aD)=>(b.1,b.2.1,J0 (CR a),i,a,b.2.2.map (·.1),b.2.2.map (·.2),CR a)) (λpre b=>b.2.2=pre/\ ∀y:aD,(∀z∈pre,GM z y)->y.1.2.2.1=b.1->0<y.1.1->b.2.1<y.1.1) (λpre x t b hl hp=>?_) (λb hp=>?_) (CR a) [] (-1,0,[]) _ rfl rfl ⟨rfl,λ_ _ _ k=>k⟩;obtain⟨lo,to,A⟩:=b;obtain⟨j,q⟩:=hp;dsimp only at j q⊢;subst j;have D:x∈CR a:=by rw[hl];simp
  obtain⟨F,P⟩:=G.num D;have E:=G.ord;rw[hl]at E;have J: ∀z∈A,GM z x:=λz L=>(List.pairwise_append.1 E).2.2 z L x List.mem_cons_self;have lp:A.length<256:=by
   have:(CR a).length=A.length+(t.length+1):=by rw[hl];simp
   omega
  have B: ∀{o:Int},o<x.1.1->RJ (x.1,o)=some x.1:=λk=>by unfold RJ;exact if_pos (iK.2 k)
  have nxt: ∀y:aD,(∀z∈A++[x],GM z y)->y.1.2.2.1=x.1.2.2.1->0<y.1.1->x.1.2.1<y.1.1:=λy k e _=>k x (by simp) e.symm;have H:=rD (bytes:=64) (l:=A.map (·.1)) (m:=[x.1]) (by rw[eL];unfold J0;rw[eQ];omega) qQH;have I:=rD (bytes:=8) (l:=A.map (·.2)) (m:=[x.2]) (by rw[eL];unfold J0;rw[eQ];omega) qQH;unfold ph;dsimp only;rw[if_pos (cB.2 (nR hl)),JOD hl,JOr hl,vP hl (n:=256) (by unfold J0;omega)];simp only[JE];refine .d (λ_=>.G (λc=>by omega) λ_=>.w (B F) (.w H (.w I (.s ⟨(x.1.2.2.1,x.1.2.1,A++[x]),by simp,rfl,nxt⟩)))) λc=>?_;have lt:=q x J c F;exact .G (λk=>by omega) λ_=>.w (B lt) (.w H (.w I (.s ⟨(lo,x.1.2.1,A++[x]),by simp,rfl,λy k e=>nxt y k (e.trans c.symm)⟩)));obtain⟨lo,to,A⟩:=b;have j:=hp.1;dsimp only at j;subst j;unfold ph;dsimp only;rw[if_neg (by rw[cB];omega)];exact .s rfl
 obtain⟨y,e,d⟩:=C;rw[e,d]
end
section
theorem JJr{l es pre e:List aA}{f t lo hi:Int}(h:l=pre++(es++e))(h1: ∀x∈pre,x.1<f)(h2: ∀x∈e,t<x.1):sel es f t lo hi=sel l f t lo hi:=by
 have j: ∀{m:List aA},(∀x∈m,x.1<f\/t<x.1)->m.filter (inB f t lo hi)=[]:=fun{m} k=>by rw[List.filter_eq_nil_iff];intro x g c;have q:=tC.1 c;have:=k x g;omega
 unfold sel;rw[h,List.filter_append,List.filter_append,j λx g=>.inl (h1 x g),j (m:=e) λx g=>.inr (h2 x g)];simp
end
section
theorem JOS{e:aA}(h:Jl e=some true)(hk:e.2.1=1\/e.2.1=2):0<=aT e:=by
 have k:Par (hZ e.2.2.2.2.2.2.1) λy=>y=true->0<=aT e:=.h (λc=>λ_ _ _=>c) λ_=>.s nofun
 obtain⟨_,_,_,_,_,_,_,_,_,_,_,g,_⟩:=EF.of h hk;exact k _ g rfl
end
section
variable {a:Ji}
theorem O1{r:aF}{p:Int}(h:mW (a,r)=some p)(h0:0<=p):eV (a,p)=some (r.2.2.1,r.2.2.2.1):=by
 have e:Par (mW (a,r)) λp=>0<=p->eV (a,p)=some (r.2.2.1,r.2.2.2.1):=by unfold mW;refine .z (λz=>z.2.1=a/\z.2.2=r) ⟨rfl,rfl⟩ ?_;rintro⟨i,a',r'⟩ ⟨h1,h2⟩;dsimp only at h1 h2;subst h1 h2;unfold FQ;dsimp only;refine .l (λ_=>.b λy k=>.e (λj=>.e (λg=>.s λ_=>?_) λ_=>.s ⟨rfl,rfl⟩) λ_=>.s ⟨rfl,rfl⟩) λ_=>.s λh=>absurd h qQH;rw[k,<-j,<-g]
 exact e _ h h0
theorem K7(ok:kG a){i j x y:Int}(h:i<j)(hx:idx a.1 i=some x)(hy:idx a.1 j=some y):x<y:=by obtain⟨n,hx⟩:=bU hx;obtain⟨_,hy⟩:=bU hy;obtain⟨e,k⟩:=dS.1 hx;obtain⟨g,o⟩:=dS.1 hy;have:=List.pairwise_iff_getElem.1 ok.asc i.toNat j.toNat e g oo;omega
theorem PA(ok:kG a){i lo hi:Int}(h0:0<=i)(h1:i<J0 a.1)(h:eV (a,i)=some (lo,hi)):idx a.1 i=some lo/\((i+1<J0 a.1/\idx a.1 (i+1)=some (hi+1))\/(i+1=J0 a.1/\hi+1=a.2.1)):=by
 have k:=ok.len.2;have j:=ok.pages;have g:J1 .i64 i 1=i+1:=by have o:=Jd i 1;omega
 have e:Par (eV (a,i)) λy=>idx a.1 i=some y.1/\((i+1<J0 a.1/\idx a.1 (i+1)=some (y.2+1))\/(i+1=J0 a.1/\y.2+1=a.2.1)):=(by unfold eV;dsimp only;rw[g];refine .l (λc=>.b λb hb=>.b λl hl=>.s ⟨hl,.inl ⟨c,?_⟩⟩) λc=>.b λl hl=>.s ⟨hl,.inr ⟨by omega,?_⟩⟩;have:=UO ok hb;have o:=bI b 1;rw[hb];exact congrArg some (by dsimp only;omega);have o:=bI a.2.1 1;dsimp only;omega);exact e _ h
theorem Ay(ok:kG a){i j lo hi lo' hi':Int}(h0:0<=i)(h:i<j)(h1:j<J0 a.1)(hx:eV (a,i)=some (lo,hi))(hy:eV (a,j)=some (lo',hi')):hi<lo':=by
 obtain⟨_,q⟩:=PA ok h0 oo hx;obtain⟨e,_⟩:=PA ok oo h1 hy;rcases q with⟨_,q⟩|⟨q,_⟩;by_cases c:i+1=j;rw[c,e]at q;injection q with q;omega;have:=K7 ok (show i+1<j by omega) q e;omega;omega
theorem JDa(ok:kG a){p:Int}(h0:0<=p)(h1:p<a.2.1): ∃(j:Nat) (lo hi:Int),(j:Int)<J0 a.1/\eV (a,(j:Int))=some (lo,hi)/\lo<=p/\p<=hi:=by
 have go: ∀(n j:Nat) (b:Int),a.1.length-j=n->idx a.1 (j:Int)=some b->b<=p-> ∃(j:Nat) (lo hi:Int),(j:Int)<J0 a.1/\eV (a,(j:Int))=some (lo,hi)/\lo<=p/\p<=hi:=by
  intro n
  induction n with
  |zero=>intro j b k hb _;have:=iU (bU hb).2;unfold J0 at this;omega
  |succ n ih=>
   intro j b k hb hp;have lt:=iU (bU hb).2;rw[Int.toNat_natCast]at lt;obtain⟨⟨lo,hi⟩,e,_⟩:=yt ok (i:=(j:Int)) oo lt;obtain⟨g,h⟩:=PA ok oo lt e;rw[hb]at g;injection g with g;subst g;by_cases c:p<=hi;exact⟨j,b,hi,lt,e,hp,c⟩;rcases h with⟨_,h⟩|⟨_,h⟩;exact ih (j+1) (hi+1) oo h oo;omega
 exact go _ 0 0 rfl ok.zero h0
theorem JFp(G:Gd a){x y:aD}(hx:x∈fE a)(hy:y∈fE a)(d:dc x y){e:aA}(he:e∈ent x.1)(h:e∈ent y.1):False:=by
 obtain⟨_,_,_,⟨p,A,⟨_,_,z,p0⟩,w⟩,R,_⟩:=OM G.ok G.hf hx;obtain⟨_,_,_,⟨q,B,⟨_,_,D,n⟩,g⟩,S,_⟩:=OM G.ok G.hf hy;have E:=TW R he;have I:=TW S h;have v: ∀{r:aF},fB r->e∈ent r->r.2.2.1<=aT e/\aT e<=r.2.2.2.1:=fun{r} R he=>by obtain⟨j,C⟩:=fA.1 he;have:=R.2.2.1 j e C;exact⟨this.2.2.2.2.1,this.2.2.2.2.2⟩
 have F:=v R he;have H:=v S h;have o:=O1 z p0;have k:=O1 D n;by_cases c:p=q;subst c;rw[w]at g;injection g with g;have:=d g;omega;rcases Int.lt_or_gt_of_ne c with c|c;have:=Ay G.ok p0 c B o k;omega;have:=Ay G.ok n c A k o;omega
theorem JRW(G:Gd a):(EL a).Pairwise λx y=>x.1≠y.1:=by
 have g: ∀{x:aD},x∈CR a->x∈fE a:=λh=>(UB G.ok G.hf).1 h;have D:(CR a).Pairwise dc:=((CN (le:=leN) (fE a)).pairwise_iff fun{x y} k e=>(k e.symm).symm).2 G.dis;unfold EL;rw[List.pairwise_flatMap];refine⟨λx j=>?_,?_⟩;refine List.Pairwise.imp_of_mem (fun{u v} o n k c=>?_) (JGT (tc G.ok G.hf j).1);rw[G.one u v ⟨x,g j,o⟩ ⟨x,g j,n⟩ c]at k;unfold ltE at k;omega;refine List.Pairwise.imp_of_mem (fun{x y} j q d u o v n c=>?_) D;have:=G.one u v ⟨x,g j,o⟩ ⟨y,g q,n⟩ c;subst this;exact JFp G (g j) (g q) d o n
end
section
structure Mi(a:Ji)(es:List aA)(from_ to:Int)(k:Nat)(b:Int×List aQ):Prop where
 ser:b.1=a.2.2.2.2+k
 len:J0 b.2=J0 a.2.2.1+k
 ids:b.2.Pairwise λf g=>f.2.1<g.2.1
 inr: ∀f∈b.2,0<f.2.1/\f.2.1<b.1
 fit: ∀f∈b.2,J0 f.2.2<=167968836
 all: ∀f∈b.2,∃x,its a f=some x/\x.1.2.1<=to
 dis:(b.2.filterMap (its a)).Pairwise dc
 old: ∀x∈b.2.filterMap (its a),x.1.2.1<from_\/(x.1.1=from_/\x.1.2.1=to/\ ∃j,j<k/\a.1[j]?=some x.1.2.2.1)
 ent: ∀x∈b.2.filterMap (its a),∀e∈ent x.1,(e.1<from_/\EA a e)\/(e∈es/\Chg e/\from_<=e.1/\e.1<=to)
 keep: ∀e,EA a e-> ∃x∈b.2.filterMap (its a),e∈Go.Am.ent x.1
 hit: ∀e∈es,Chg e->from_<=e.1->e.1<=to-> ∀(j:Nat) lo hi,j<k->eV (a,(j:Int))=some (lo,hi)->lo<=aT e->aT e<=hi-> ∃x∈b.2.filterMap (its a),e∈Go.Am.ent x.1
structure Stp(L:List aA)(from_:Int)(a b:Ji):Prop where
 good:Gd b
 bnd:b.1=a.1
 pgs:b.2.1=a.2.1
 up:a.2.2.2.1<=b.2.2.2.1
 top:b.2.2.2.1=a.2.2.2.1\/b.2.2.2.1<=J0 L+1
 few:J0 b.2.2.1<=J0 a.2.2.1+16
 ser:b.2.2.2.2<=a.2.2.2.2+16
 ea: ∀e,EA b e↔EA a e\/(e∈L/\Chg e/\from_<=e.1/\e.1<b.2.2.2.1)
structure Hf(L:List aA)(l:JG):Prop where
 chn:dJ L
 few:J0 L<=4096
 fst:1<=l.1/\l.1<=J0 L+1
 ent:l.2.1=L.drop (l.1-1).toNat
 dur:l.2.2=J0 L
 val:JY l=some true
 fit:Ty.fit 16384 1073741824 JW l
structure Cx(a:Ji)(L es:List aA)(from_ to:Int):Prop where
 good:Gd a
 chn:dJ L
 few:J0 L<=4096
 hp: ∀e∈L,Chg e->aT e<a.2.1
 hf:J0 a.2.2.1<=240
 hs:a.2.2.2.2<=1000000000
 nxt:a.2.2.2.1<=from_
 lt:from_<=to
 top:to<=J0 L
 des:es=(L.drop (from_-1).toNat).take (to-from_+1).toNat
 fe:Ty.fit 16384 1073741824 (.l J3) es
section
variable {a:Ji} {L es:List aA} {from_ to:Int} (C:Cx a L es from_ to)
include C
theorem Cx.one:1<=from_:=kS C.good.ok.next.1 C.nxt
theorem Cx.cut:L=L.take (from_-1).toNat++(es++(L.drop (from_-1).toNat).drop (to-from_+1).toNat):=by rw[C.des,qL,qL]
theorem Cx.pre: ∀x∈L.take (from_-1).toNat,x.1<from_:=λx g=>by have h1:=C.one;obtain⟨j,e⟩:=fA.1 g;obtain⟨h,e⟩:=JL7 e;have:=C.chn.at e;omega
theorem Cx.post: ∀x∈(L.drop (from_-1).toNat).drop (to-from_+1).toNat,to<x.1:=λx g=>by have h1:=C.one;have h2:=C.lt;obtain⟨j,e⟩:=fA.1 g;rw[uR,Hh]at e;have:=C.chn.at e;omega
theorem Cx.inL: ∀e∈es,e∈L:=λe g=>by rw[C.cut];simp[g]
theorem Cx.inE: ∀e∈L,from_<=e.1->e.1<=to->e∈es:=λe g h j=>by
 rw[C.cut]at g;rcases zQ9.1 g with g|g;have:=C.pre e g;omega;rcases zQ9.1 g with g|g;exact g;have:=C.post e g;omega
theorem Cx.le:J0 es<=4096:=by have:=C.few;rw[C.des];unfold J0 at*;rw[uV,xI];omega
theorem Cx.val: ∀x∈es,Jl x=some true:=λx g=>by obtain⟨j,e⟩:=fA.1 (C.inL x g);exact(C.chn j x e).2.1
theorem Cx.dst:es.Pairwise λx y=>x.1≠y.1:=by
 have p:L.Pairwise λx y=>x.1≠y.1:=C.chn.inc.imp fun{a b} h=>by have h:a.1<b.1:=h;omega
 rw[C.cut]at p;exact(List.pairwise_append.1 (List.pairwise_append.1 p).2.1).1
theorem Cx.num{i lo hi:Int}(h0:0<=i)(h1:i<J0 a.1)(h:eV (a,i)=some (lo,hi)):qX (from_,to,lo,hi,0,[])/\fB (from_,to,lo,hi,0,sel es from_ to lo hi):=by
 have ok:=C.good.ok;have e:=PA ok h0 h1 h;have k:=UO ok e.1;have n:=C.one;have o:=C.lt;have v:=C.top;have r:=C.few;have g:qX (from_,to,lo,hi,0,[]):=(by have j:lo<=hi/\hi<64:=(by rcases e.2 with⟨_,q⟩|⟨w,x⟩;have:=K7 ok (show i<i+1 by omega) e.1 q;have:=UO ok q;omega;have:=ok.last lo (by rw[show J0 a.1-1=i by omega];exact e.1);have:=ok.pages;omega);exact⟨by dsimp only;omega,by dsimp only;omega,by dsimp only;omega,by dsimp only;omega,j.1,j.2,(show(0:Int)<=0 by decide),(show(0:Int)<=8 by decide)⟩);exact⟨g,by rw[JJr C.cut C.pre C.post];exact JNy C.chn C.few g⟩
theorem Cx.zero:Mi a es from_ to 0 (a.2.2.2.2,a.2.2.1):=by have G:=C.good;have nx:=C.nxt;have lt:=C.lt;exact⟨by simp,by simp,G.ok.ids,G.ok.inr,G.fit.1,λf hf=>by obtain⟨x,e,k⟩:=G.all f hf;exact⟨x,e,by omega⟩,G.dis,λx g=>.inl (by have:=G.to g;omega),λx g e h=>.inl ⟨by have:=G.to g;have:=(TW (OM G.ok G.hf g).choose_spec.2.2.2.1 h).2;omega,x,g,h⟩,λ_ k=>k,λ_ _ _ _ _ _ _ _ k=>absurd k (Nat.not_lt_zero _)⟩
theorem Cx.next{pre t:qQD}{x:Int}{b:Int×List aQ}(g:a.1=pre++x::t)(h:Mi a es from_ to pre.length b){lo hi:Int}(n:eV (a,J0 pre)=some (lo,hi)){s:qQC}(H:J0 s<=167968836)(I:oE (from_,to,lo,hi,0,sel es from_ to lo hi)=some (s,0)):
  Mi a es from_ to (pre++[x]).length (b.1+1,b.2++[(1,b.1,s)]):=by
 have ok:=C.good.ok;have lt:=nR g;have np:=J8 (l:=pre);have lp:J0 pre=(pre.length:Int):=rfl;have P:=PA ok np lt n;have R:=(C.num np lt n).2;have L:=(fy C.dst from_ to lo hi).2.1;have c1:=C.lt;have Z:=ok.ser;obtain⟨p,O,N⟩:=JKT (r:=(from_,to,lo,hi,0,sel es from_ to lo hi)) ok.len.2 np n lt rfl rfl;have B:its a (1,b.1,s)=some ((from_,to,lo,hi,0,sel es from_ to lo hi),b.1):=VN (p:=p) ⟨rfl,JNw R I (kS H qQH),O,N⟩;have z:a.1[pre.length]?=some lo:=by
  obtain⟨_,e⟩:=bU P.1;rw[<-e]
  congr 1
 have hs':b.1=a.2.2.2.2+pre.length:=h.ser;have w:(b.2++[(1,b.1,s)]).filterMap (its a)=b.2.filterMap (its a)++[((from_,to,lo,hi,0,sel es from_ to lo hi),b.1)]:=by rw[List.filterMap_append,List.filterMap_cons,B];rfl
 have up: ∀{e:aA},(∃x∈b.2.filterMap (its a),e∈ent x.1)-> ∃x∈(b.2++[(1,b.1,s)]).filterMap (its a),e∈ent x.1:=fun⟨x,U,q⟩=>⟨x,by rw[w];exact List.mem_append_left _ U,q⟩;refine⟨by simp only[eP,List.length_singleton];omega,by rw[iL,eL,h.len];simp only[eP,List.length_singleton];omega,?_,?_,?_,?_,?_,?_,?_,λe q=>up (h.keep e q),λe q M E F j lo' hi' V D G y=>?_⟩;refine List.pairwise_append.2 ⟨h.ids,List.pairwise_singleton _ _,λf hf g T=>?_⟩;rw[eO.1 T];exact(h.inr f hf).2;intro f hf;rcases zQ9.1 hf with hf|hf;have:=h.inr f hf;dsimp only;omega;rw[eO.1 hf];dsimp only;omega;intro f hf;rcases zQ9.1 hf with hf|hf;exact h.fit f hf;rw[eO.1 hf];exact H;intro f hf;rcases zQ9.1 hf with hf|hf;exact h.all f hf;rw[eO.1 hf];exact⟨_,B,aZ _⟩;rw[w];refine List.pairwise_append.2 ⟨h.dis,List.pairwise_singleton _ _,λu o v W e=>?_⟩;rw[eO.1 W]at e⊢;dsimp only at e⊢;rcases h.old u o with k|⟨_,_,j,K,J⟩;exact .inl oo;exfalso;have A:=ok.asc;unfold Asc at A;have S:=List.pairwise_iff_getElem.1 A;obtain⟨Q,e1⟩:=dS.1 J;obtain⟨Y,e2⟩:=dS.1 z;have:=S j pre.length Q Y K;omega;rw[w];intro u o;simp only[eP,List.length_singleton];rcases zQ9.1 o with o|o;rcases h.old u o with k|⟨E,F,j,K,J⟩;exact .inl k;exact .inr ⟨E,F,j,by omega,J⟩;rw[eO.1 o];exact .inr ⟨rfl,rfl,pre.length,by omega,z⟩;rw[w];intro u o e q;rcases zQ9.1 o with o|o;exact h.ent u o e q;rw[eO.1 o]at q;obtain⟨G,y⟩:=(L e).1 q;have y:=tC.1 y;exact .inr ⟨G,y.1,y.2.2.1,y.2.2.2⟩;simp only[eP,List.length_singleton]at V;by_cases c:j<pre.length;exact up (h.hit e q M E F j lo' hi' c D G y);have:j=pre.length:=by omega
 subst this;have n:eV (a,(pre.length:Int))=some (lo,hi):=n;rw[n]at D;injection D with D;injection D with r1 r2;subst r1 r2;exact⟨((from_,to,lo,hi,0,sel es from_ to lo hi),b.1),by rw[w];exact List.mem_append_right _ (eO.2 rfl),(L e).2 ⟨q,tC.2 ⟨M,⟨G,y⟩,E,F⟩⟩⟩
theorem Cx.fin{b:Int×List aQ}(n:Mi a es from_ to a.1.length b):Stp L from_ a (a.1,a.2.1,b.2,to+1,b.1):=by
 have G:=C.good;have ok:=G.ok;have h:=G.fit;have bl:=ok.len;have few:=C.few;have O:=C.lt;have P:=C.top;have U:=C.nxt;have T:=C.hf;have Q:=C.hs;have nx:=ok.next;have N:=ok.ser;have S:J0 a.1=(a.1.length:Int):=rfl;have I:=n.ser;have hlen:=n.len;have hR:fE (a.1,a.2.1,b.2,to+1,b.1)=b.2.filterMap (its a):=by show b.2.filterMap (its (a.1,a.2.1,b.2,to+1,b.1))=_;exact congrArg (λg=>List.filterMap g b.2) (funext λf=>w4 (a:=a) (a':=(a.1,a.2.1,b.2,to+1,b.1)) rfl rfl f)
 have M:J0 b.2=(b.2.length:Int):=rfl;have R:J0 a.2.2.1=(a.2.2.1.length:Int):=rfl;have A: ∀e,EA (a.1,a.2.1,b.2,to+1,b.1) e↔EA a e\/(e∈L/\Chg e/\from_<=e.1/\e.1<to+1):=λe=>by
  constructor;rintro⟨x,w,y⟩;rw[hR]at w;rcases n.ent x w e y with k|⟨o,z,r,D⟩;exact .inl k.2;exact .inr ⟨C.inL e o,z,r,by omega⟩;rintro(k|⟨o,z,r,D⟩);obtain⟨x,w,y⟩:=n.keep e k;exact⟨x,by rw[hR];exact w,y⟩;obtain⟨j,B⟩:=fA.1 o;have v:=JOS (C.chn j e B).2.1 z;obtain⟨j,lo,hi,K,J,F,H⟩:=JDa ok v (C.hp e o z);obtain⟨x,w,y⟩:=n.hit e (C.inE e o r oo) z r oo j lo hi oo J F H;exact⟨x,by rw[hR];exact w,y⟩
 refine⟨⟨⟨ok.pages,ok.len,ok.zero,ok.asc,ok.last,⟨by dsimp only;omega,by dsimp only;omega⟩,⟨by dsimp only;omega,by dsimp only;omega⟩,by dsimp only;omega,n.ids,n.inr⟩,⟨n.fit,by dsimp only;omega,h.2.2⟩,λf hf=>?_,?_,?_⟩,rfl,rfl,by dsimp only;omega,.inr (by dsimp only;omega),by dsimp only;omega,by dsimp only;omega,A⟩;obtain⟨x,e,k⟩:=n.all f hf;exact⟨x,(w4 (a:=a) (a':=(a.1,a.2.1,b.2,to+1,b.1)) rfl rfl f).trans e,by dsimp only;omega⟩;rw[hR];exact n.dis;have lo: ∀e,EA a e->e.1<from_:=λe ⟨x,w,y⟩=>by
  have:=G.to w;have:=(TW (OM G.ok G.hf w).choose_spec.2.2.2.1 y).2;omega
 intro e e' y E q;rcases(A e).1 y with o|⟨o,_,z,_⟩<;>rcases(A e').1 E with r|⟨r,_,D,_⟩
 exact G.one e e' o r q;have:=lo e o;omega;have:=lo e' r;omega;obtain⟨j,B⟩:=fA.1 o;obtain⟨i,hi⟩:=fA.1 r;have V:=C.chn.at B;have W:=C.chn.at hi;have:j=i:=by omega
 subst this;rw[B]at hi;injection hi
end
end
section
theorem JN4(e:aA):Tot (Jg e) λb=>b=true↔Chg e:=.p (λc=>.s ⟨λd=>.inr (gM.1 d),λd=>d.elim (λk=>absurd k c) gM.2⟩) λc=>.s ⟨λ_=>.inl c,λ_=>rfl⟩
theorem JRK{a:Ji}{es:List aA}(hl:J0 es<=4096)(h: ∀e∈es,Chg e->aT e<a.2.1):fj (es,a)=some (false,a):=by
 have j:Tot (fp (es,a)) λy=>y=(-1,a):=by
  unfold fp;refine rK (l:=es) (λi (_:Unit)=>(es,J0 es,i,a)) (λ_ _=>True) (λpre x t _ g _=>?_) (λ_ _=>?_) es [] () _ rfl rfl trivial;have q:x∈es:=by rw[g];simp
  have r:e9 (x,a)=some (false,a):=by
   unfold e9;dsimp only;by_cases c:aS x.2.2.2.2.2.2.1.1 a.2.1=true;have o: ¬Chg x:=λk=>by
    have:=h x q k;have:=nT.1 c;unfold aT at*;omega
   rw[if_pos c];unfold Jg;rw[if_pos (Bool.eq_false_iff.2 λk=>o (.inl (gM.1 k))),show aM x.2.1 2=false from Bool.eq_false_iff.2 λk=>o (.inr (gM.1 k))];rfl;rw[if_neg c]
  unfold vy;dsimp only;rw[if_pos (cB.2 (nR g)),vP g (n:=4096) hl];exact .w (tD g) (.w r (.i (λc=>by cases c) λ_=>.s ⟨(),rfl,qQG⟩));unfold vy;dsimp only;rw[if_neg (by rw[cB];exact Int.lt_irrefl _)];exact .s rfl
 obtain⟨y,e,rfl⟩:=j;unfold fj;rw[e];rfl
theorem JS8{a:Ji}{l:JG}{L:List aA}{n:Int}(G:Gd a)(P:Hf L l)(hp: ∀e∈L,Chg e->aT e<a.2.1)(hn:1<=n/\n<=4096)(hf:J0 a.2.2.1<=240)(hs:a.2.2.2.2<=1000000000):
  Tot (eh (a,l,n)) λy=>y.2=0/\Stp L (bZ a.2.2.2.1 l.1) a y.1/\y.1.2.2.2.1=if J0 L<bZ a.2.2.2.1 l.1 then a.2.2.2.1 else min (bZ a.2.2.2.1 l.1+n-1) (J0 L)+1:=by
 have ok:=G.ok;have few:=P.few;unfold eh;refine .b (df a) λy2 h2=>.n (λc=>by have:=h2.2 ok;rw[c]at this;cases this) λ_=>.w ((JNR l).trans P.val) (.n (λc=>by cases c) λ_=>.j (λ_=>.g (λc=>by dsimp only at c;omega) λ_=>?_) λc=>by dsimp only at c;omega);have nx:=ok.next;have lf:=P.fst;have Q:=P.dur;have T:=pO a.2.2.2.1 l.1;have o1:=Jd (bZ a.2.2.2.1 l.1) n;have o2:=bI (J1 .i64 (bZ a.2.2.2.1 l.1) n) 1;have m2:=gv (Jn .i64 (J1 .i64 (bZ a.2.2.2.1 l.1) n) 1) l.2.2;dsimp only at Q⊢;generalize bZ a.2.2.2.1 l.1=from_ at*;generalize jE (Jn .i64 (J1 .i64 from_ n) 1) l.2.2=to at*;have W:=J8 (l:=L);refine .l (λc=>.s ⟨rfl,⟨G,rfl,rfl,aZ _,.inl rfl,by dsimp only;omega,by dsimp only;omega,λe=>⟨.inl,λk=>?_⟩⟩,?_⟩) λc6=>?_;rcases k with k|⟨_,_,k1,O⟩;exact k;dsimp only at O;omega;rw[if_pos oo];have bl:=ok.len;have fl:=ok.few;have Z:=bI from_ l.1;have o4:=bI to l.1;have Y:=Jd (Jn .i64 to l.1) 1;have o6:=Jd (J0 a.2.2.1) (J0 a.1);have o7:=Jd a.2.2.2.2 (J0 a.1);have fn:=J8 (l:=a.2.2.1);have sr:=ok.ser;refine .k (λ_=>.g (λc=>by omega) λ_=>?_) λc=>by omega
 have ll:J0 l.2.1=J0 L-(l.1-1):=by rw[P.ent];unfold J0 at*;rw[xI];omega
 obtain⟨es,M,des,_⟩:=CG (l:=l.2.1) (j:=Jn .i64 from_ l.1) (k:=J1 .i64 (Jn .i64 to l.1) 1) oo oo oo;have fe:Ty.fit 16384 1073741824 (.l J3) es:=by rw[des];exact wx (O6 P.fit.2.1)
 have C:Cx a L es from_ to:=⟨G,P.chn,few,hp,hf,hs,T.1,by omega,by omega,by
  rw[des,P.ent,uR]
  congr 1
  omega
  congr 1;omega,fe⟩
 have le:=C.le;refine .w M (.w (JRK le λe U=>hp e (C.inL e U)) (.i (λc=>by cases c) λ_=>.w (show vr a.2.2.1=some a.2.2.1 from K2 oo qQH) ?_));refine rK (l:=a.1) (λi (b:Int×List aQ)=>(from_,to,es,J0 a.1,i,a,l,[],[],0,0,0,[],a.1,a.2.1,a.2.2.2.1,b.1,b.2)) (λpre b=>Mi a es from_ to pre.length b) (λpre x t b g q=>?_) (λb q=>?_) a.1 [] (a.2.2.2.2,a.2.2.1) _ rfl rfl C.zero;have lt:=nR g;have np:=J8 (l:=pre);have lp:J0 pre=(pre.length:Int):=rfl;unfold pe;dsimp only;rw[if_pos (cB.2 lt),vP g (n:=16) bl.2,Mq];refine .b (yt ok np lt).eqn λK E=>?_;obtain⟨D,w⟩:=E;obtain⟨lo,hi⟩:=K;obtain⟨S,R⟩:=C.num np lt w;have r:nD (from_,to,lo,hi,0,[]):=⟨J2.2 (show -9223372036854775808<=from_/\from_<=9223372036854775807 by omega),J2.2 (show -9223372036854775808<=to/\to<=9223372036854775807 by omega),D.1.u,D.2.u,lG .i64 0,show J0 ([]:List aA)<=16384 by decide,nofun⟩;have z: ∀x∈es,Ty.fit 16384 9223372036854775807 J3 x:=λx B=>Ty.fit.up qQH qQH (fe.2 x B);obtain⟨v,ev,V⟩:=Bf S;subst V;refine .b (JKw (f:=from_) (t:=to) (lo:=lo) (hi:=hi) (lv:=0) (λx B=>(TU x).trans (C.val x B)) z oo ev C.dst r) λN h=>?_;have J:N=((from_,to,lo,hi,0,sel es from_ to lo hi),0):=by unfold mkO at h;have hl:J0 (sel es from_ to lo hi)<=4096:=R.2.1;rw[if_neg oo,mg R]at h;injection h with h;exact h.symm
 subst J;have hR:nD (from_,to,lo,hi,0,sel es from_ to lo hi):=⟨r.1,r.2.1,r.2.2.1,r.2.2.2.1,r.2.2.2.2.1,show J0 (sel es from_ to lo hi)<=16384 by have:J0 (sel es from_ to lo hi)<=4096:=R.2.1;omega,λx B=>z x (((fy C.dst from_ to lo hi).2.1 x).1 B).1⟩;obtain⟨s,A,H⟩:=JPX R hR;have sb:b.1=a.2.2.2.2+pre.length:=q.ser;have F:J1 .i64 b.1 1=b.1+1:=by have o:=Jd b.1 1;omega
 refine .d (λk=>absurd rfl k) λ_=>.w ((JNN hR).trans A) (.d (λk=>absurd rfl k) λ_=>.w (rD (by rw[eL];have:=q.len;omega) qQH) (.s ⟨(J1 .i64 b.1 1,b.2++[(1,b.1,s)]),rfl,?_⟩));rw[F];exact C.next g q w H A;unfold pe;dsimp only;rw[if_neg (by rw[cB];exact Int.lt_irrefl _)];have I:J1 .i64 to 1=to+1:=by have o:=Jd to 1;omega
 rw[I];refine .s ⟨rfl,C.fin q,?_⟩;rw[if_neg oo];show to+1=_;omega
theorem JQg{a:Ji}(G:Gd a):PN a=some ((EL a).foldl bS [],true):=by
 have I:Tot (PN a) λy=>y=((EL a).foldl bS [],true):=by
  unfold PN;rw[JRU G];dsimp only[Option.bind_some];have B: ∀r∈(CR a).map (·.1),J0 (ent r)<=4096:=λr B=>by obtain⟨e,N,rfl⟩:=oM.1 B;exact(tc G.ok G.hf N).1.2.1
  have hl:((CR a).map (·.1)).length<=256:=by rw[eQ];exact Kz G.ok G.hf
  have v:=(K1 (JRW G)).2.2;rw[show EL a=((CR a).map (·.1)).flatMap ent by rw[List.flatMap_map];rfl]at v⊢;generalize (CR a).map (·.1)=R at B hl v⊢;refine rK (l:=R) (λi (b:List aA×Int)=>(b.1,R,b.2,i,a)) (λpre b=>b.1=(pre.flatMap ent).foldl bS []/\b.2=J0 (pre.flatMap ent)/\J0 b.1<=4096*(pre.length:Int)/\b.2<=4096*(pre.length:Int)) (λpre x t b g hp=>?_) (λb hp=>?_) R [] ([],0) _ rfl rfl ⟨rfl,rfl,aZ _,aZ _⟩;obtain⟨b,m⟩:=b;obtain⟨h,q,H,J⟩:=hp;dsimp only at h H q J;have C:=tD g;have S:R.length=pre.length+(t.length+1):=by rw[g];simp
  have M:=B x (by rw[g];simp);unfold m9;dsimp only;rw[if_pos (cB.2 (nR g))];refine rK (l:=ent x) (λj (c:List aA×Int)=>(c.1,R,c.2,J0 pre,j,a)) (λp c=>c.1=p.foldl bS b/\c.2=m+J0 p/\J0 c.1<=J0 b+(p.length:Int)) (λp e u c k D=>?_) (λc D=>?_) (ent x) [] (b,m) _ rfl rfl ⟨rfl,by simp[J0],by simp⟩;obtain⟨c,n⟩:=c;obtain⟨z,A,E⟩:=D;dsimp only at z E A;have L:(ent x).length=p.length+(u.length+1):=by rw[k];simp
  have P:J0 (ent x)=((ent x).length:Int):=rfl;have O:J0 p=(p.length:Int):=rfl;have Q:0<=m:=by rw[q];exact J8
  unfold nd;dsimp only;refine .w C ?_;refine .l (λ_=>.w C (.w (show idx x.2.2.2.2.2 (J0 p)=some e from tD k) (.b (Ll (l:=c) (e:=e) oo) λy K=>.s ⟨(y.1,J1 .i64 n 1),?_,?_,?_,?_⟩))) λw=>absurd (nR k) w;rw[show J1 .i64 (J0 p) 1=J0 (p++[e])from vP k (n:=4096) M];show y.1=_;rw[K,z,List.foldl_append];rfl;have o:=Jd n 1;show J1 .i64 n 1=_;rw[iL,eL];omega;show J0 y.1<=_;rw[K];have:=yz c e;simp only[eP,List.length_singleton];omega;obtain⟨c,n⟩:=c;obtain⟨z,A,E⟩:=D;dsimp only at z E A;unfold nd;dsimp only;refine .w C ?_;have L:J0 (ent x)=((ent x).length:Int):=rfl;have F:(pre++[x]).flatMap ent=pre.flatMap ent++ent x:=by rw[List.flatMap_append];simp
  refine .l (λw=>absurd w (Int.lt_irrefl _)) λ_=>.s ⟨(c,n),?_,?_,?_,?_,?_⟩;rw[show J1 .i64 (J0 pre) 1=J0 (pre++[x])from L2 g (by unfold J0;omega)];show c=_;rw[z,h,F,List.foldl_append];show n=_;rw[F,iL,A,q];show J0 c<=_;simp only[eP,List.length_singleton];omega;show n<=_;simp only[eP,List.length_singleton];omega;obtain⟨b,m⟩:=b;obtain⟨h,q,_,_⟩:=hp;dsimp only at h q;unfold m9;dsimp only;rw[if_neg (by rw[cB];exact Int.lt_irrefl _)];refine .s (show(b,aM m (J0 b))=_ from ?_);have:aM m (J0 b)=true:=gM.2 (by rw[q,h];unfold J0;exact congrArg Int.ofNat v.symm);rw[this,h]
 obtain⟨y,e,rfl⟩:=I;exact e
theorem JNP{l:JG}{next:Int}(hl:J0 l.2.1<=4096):QB (l,next)=some ((l.2.1.filter λe=>decide ((e.2.1=1\/e.2.1=2)/\e.1<next)).foldl bS []):=by
 have v:Tot (QB (l,next)) λy=>y=(l.2.1.filter λe=>decide ((e.2.1=1\/e.2.1=2)/\e.1<next)).foldl bS []:=by
  unfold QB;refine rK (l:=l.2.1) (λi (c:List aA)=>(next,c,i,l)) (λp c=>c=(p.filter λe=>decide ((e.2.1=1\/e.2.1=2)/\e.1<next)).foldl bS []/\J0 c<=(p.length:Int)) (λp x t c g q=>?_) (λc q=>?_) l.2.1 [] [] _ rfl rfl ⟨rfl,aZ _⟩
  ·obtain⟨r,C⟩:=q;have j:=tD g;have B:l.2.1.length=p.length+(t.length+1):=by rw[g];simp
   have A:J0 l.2.1=(l.2.1.length:Int):=rfl;unfold nz;dsimp only;rw[if_pos (cB.2 (nR g)),vP g (n:=4096) hl];have w: ¬((x.2.1=1\/x.2.1=2)/\x.1<next)->c=((p++[x]).filter λe=>decide ((e.2.1=1\/e.2.1=2)/\e.1<next)).foldl bS []/\J0 c<=((p++[x]).length:Int):=λk=>by rw[List.filter_append,r.symm.symm];refine⟨by simp[k],?_⟩;rw[<-r];simp only[eP,List.length_singleton];omega
   refine .w j (.b (JN4 x) λb hb=>.i (λh=>.w j (.l (λo=>.w j (.b (Ll (l:=c) (e:=x) oo) λy z=>.s ⟨y.1,rfl,?_,?_⟩)) λo=>.s ⟨c,rfl,w λk=>o k.2⟩)) λh=>.s ⟨c,rfl,w λk=>by have:=hb.2 k.1;rw[h]at this;cases this⟩);rw[z,List.filter_append];have:decide ((x.2.1=1\/x.2.1=2)/\x.1<next)=true:=decide_eq_true ⟨hb.1 h,o⟩;rw[List.filter_cons,if_pos this,List.filter_nil,List.foldl_append,<-r];rfl;rw[z];have:=yz c x;simp only[eP,List.length_singleton];omega
  unfold nz;dsimp only;rw[if_neg (by rw[cB];exact Int.lt_irrefl _)];exact .s q.1
 obtain⟨y,e,rfl⟩:=v;exact e
theorem JLg{a:Ji}{l:List aA}{next:Int}(G:Gd a)(h: ∀e,EA a e↔e∈l/\Chg e/\e.1<next):(EL a).foldl bS []=(l.filter λe=>decide ((e.2.1=1\/e.2.1=2)/\e.1<next)).foldl bS []:=
 JJx (λx j y g=>G.one x y ((ul G x).1 j) ((ul G y).1 g)) λz=>by rw[ul G,h];simp[Chg]
end
section
theorem Gu{n:Int}{l:qQD}(h0:1<=n)(hn:n<=64)(hl:LU l n):KP (n,l)=some ((l,n,[],1,1),0)/\Gd (l,n,[],1,1):=by
 obtain⟨h1,h2,q,h,j⟩:=hl;have ok:kG (l,n,[],1,1):=⟨⟨h0,hn⟩,⟨h1,h2⟩,q,h,λz o=>j z (zQ5 (bU o).2),show(1:Int)<=1/\(1:Int)<=1099511627777 by decide,show(1:Int)<=1/\(1:Int)<=1073741825 by decide,show(0:Int)<=256 by decide,List.Pairwise.nil,nofun⟩;have v:wZ (l,n,[],1,1)=some true:=by obtain⟨y,e,k⟩:=df (l,n,[],1,1);rw[e,k.2 ok]
 refine⟨?_,ok,⟨nofun,by show J0 ([]:List aQ)<=257;decide,h2⟩,nofun,List.Pairwise.nil,λe _ ⟨x,r,_⟩=>by cases r⟩;have g:Tot (KP (n,l)) λy=>y=((l,n,[],1,1),0):=.w (show vo l=some l from K2 oo qQH) (.w v (.n (λc=>by cases c) λ_=>.s rfl))
 obtain⟨y,e,rfl⟩:=g;exact e
theorem JN5:QZ ()=some true:=by
 have bd:LU [0,4] 8:=⟨by decide,by decide,rfl,by unfold Asc;decide,by decide⟩;obtain⟨n,G⟩:=Gu (n:=8) qQH qQH bd;have v:wZ ([0,4],8,[],1,1)=some true:=by obtain⟨y,e,k⟩:=df ([0,4],8,[],1,1);rw[e,k.2 G.ok]
 have b:vt ([0,4],3)=some (1,false):=by
  have h:fh ([0,4],3,J0 [0,4],0,J0 [0,4])=some (.inl ([0,4],3,2,0,1)):=by rfl
  have q:fh ([0,4],3,2,0,1)=some (.inl ([0,4],3,2,1,1)):=by rfl
  have j:fh ([0,4],3,2,1,1)=some (.inr (1,false)):=by rfl
  exact(eX h).trans ((eX q).trans (dV j))
 have p:Tot (ei (([0,4],8,[],1,1),3)) λy=>y=(0,3,true):=.w v (.r (λ_=>.j (λ_=>.h (λc=>absurd c qQH) λ_=>.w b (.n (λ_=>.w (w:=(0,3)) (by rfl) (.s rfl)) λc=>by cases c)) λc=>absurd c qQH) λc=>by cases c)
 have g:Tot (QZ ()) λy=>y=true:=by unfold QZ;refine .w n (.b p λy o=>?_);subst o;exact .e (λ_=>.e (λ_=>.i (λ_=>.s (by rfl)) λc=>by cases c) λc=>absurd rfl c) λc=>absurd rfl c
 obtain⟨y,e,d⟩:=g;rw[e,d]
structure OI(L:List aA)(n k:Int)(a:Ji):Prop where
 good:Gd a
 pgs:a.2.1=n
 ea: ∀e,EA a e↔e∈L/\Chg e/\e.1<a.2.2.2.1
 nxt:a.2.2.2.1<=J0 L+1
 few:J0 a.2.2.1<=16*(10-k)
 ser:a.2.2.2.2<=1+16*(10-k)
theorem JjW{x0:qQD}(w0:Ty.inR (.l (.i .u8)) x0):ff x0=some true:=by
 have U:Tot (ff x0) λy=>y=true:=by
  unfold ff;refine .w JN5 (.n (λc=>by cases c) λ_=>.b (JIA w0) λW A=>.b (JHd (B:=16384) (S:=1073741824) (X:=(25,W)) ⟨lG .i64 25,A.1⟩ A.2 (by show(0:Int)<=25;decide) (by show(25:Int)<=1000;decide)).eqn λV T=>?_);obtain⟨K,R⟩:=T;obtain⟨⟨H,D⟩,hp⟩:=JI6 A.1 A.2 R;obtain⟨⟨g,C⟩,hD⟩:=JJj A.1 A.2 R;have hl:=K.1.2.1;have hc:LJ V.2.2:=⟨K.1.2.2,K.2⟩;obtain⟨pages,l,c⟩:=V;dsimp only at H D hp g C hD hl hc⊢;refine .b (JK9 H D hc) λy5 J=>?_;obtain⟨en,G⟩:=Gu H D J.1;refine .w en (.d (λc=>absurd rfl c) λ_=>.b (nx (n:=10) qQH J.2.1 J.2.2) λN F=>?_);have nn:=J8 (l:=l.2.1);have P:Hf l.2.1 l:=⟨C,g.2.2.2,by rw[g.1];omega,by rw[g.1];rfl,hD,by obtain⟨v,e,_⟩:=pW hl;rw[e,ie g C _ e],hl⟩;have q7:=F.1.2.2 qQH;refine Jj (τ:=Int×Je×Ji) (λq=>(q.1,q.2.1,l,q.2.2)) (λq=>(0<=q.1/\q.1<=9)/\LJ q.2.1/\OI l.2.1 pages q.1 q.2.2) (λq=>q.1) ?_ (N.1,N.2,y5.1,pages,[],1,1) rfl ⟨⟨F.1.1,by dsimp only;omega⟩,F.2,G,rfl,λe=>⟨fun⟨x,hx,_⟩=>(by cases hx),λh=>by obtain⟨j,hj⟩:=fA.1 h.1;have:=C.at hj;have:e.1<1:=h.2.2;omega⟩,show(1:Int)<=_ by omega,show(0:Int)<=_ by dsimp only;omega,show(1:Int)<=_ by dsimp only;omega⟩;rintro⟨k,c,a⟩ ⟨⟨h0,h1⟩,hc,O⟩;dsimp only at h0 h1 hc;have O:OI l.2.1 pages k a:=O;unfold Gg;dsimp only;have few:=O.few;have ser:=O.ser;have nxt:=O.nxt;have n1:=O.good.ok.next.1;refine .g (λck=>.b (nx (n:=9) qQH hc.1 hc.2) λE I=>?_) λ_=>?_;have q9:=I.1.2.2 qQH;have q0:=I.1.1;have o:=Jd 1 E.1;have oD:=Jd l.2.2 1;have oK:=bI k 1;have Y:=g.2.2.2;have fm:bZ a.2.2.2.1 l.1=a.2.2.2.1:=by
   rw[g.1];have:=pO a.2.2.2.1 1;have h2:bZ a.2.2.2.1 1=a.2.2.2.1\/bZ a.2.2.2.1 1=1:=by unfold bZ;split<;>simp
   omega
  refine .b (JS8 O.good P (λe he ce=>by rw[O.pgs];exact hp e he ce) (n:=J1 .i64 1 E.1) ⟨by omega,by omega⟩ oo oo) λr M=>?_;obtain⟨Z,S,L⟩:=M;rw[fm]at S L;have up:=S.up;have sf:=S.few;have ss:=S.ser;have top:r.1.2.2.2.1<=J0 l.2.1+1:=by rw[L];split<;>omega
  refine .q (λ_=>.j (λ_=>.g (λc=>by omega) λ_=>.s ⟨(Jn .i64 k 1,E.2,r.1),rfl,⟨⟨by dsimp only;omega,by dsimp only;omega⟩,I.2,S.good,S.pgs.trans O.pgs,λe=>?_,top,by dsimp only;omega,by dsimp only;omega⟩,by dsimp only;omega,by omega⟩) λc=>by omega) λc=>absurd Z c;show EA r.1 e↔e∈l.2.1/\Chg e/\e.1<r.1.2.2.2.1;rw[S.ea,O.ea];constructor;rintro(⟨z,w,Q⟩|⟨z,w,_,k4⟩);exact⟨z,w,by omega⟩;exact⟨z,w,k4⟩;rintro⟨z,w,Q⟩;by_cases c:e.1<a.2.2.2.1;exact .inl ⟨z,w,c⟩;exact .inr ⟨z,w,by omega,Q⟩;refine .map (P:=λy=>y=true) ?_ λ_ h=>h;refine .w (JQg O.good) ?_;refine .i (λ_=>.w (JNP g.2.2.2) ?_) λc=>by cases c
  rw[JLg O.good O.ea];refine .w (JIn _ ?_) (.s rfl);have f1:=JLA (l.2.1.filter λe=>decide ((e.2.1=1\/e.2.1=2)/\e.1<a.2.2.2.1)) [];have f2:=List.length_filter_le (λe=>decide ((e.2.1=1\/e.2.1=2)/\e.1<a.2.2.2.1)) l.2.1;have Y:=g.2.2.2;dsimp only;unfold J0 at*;simp only[List.length_nil]at f1;omega
 obtain⟨y,e,d⟩:=U;rw[e,d]
end
def FX{α:Type}(f:FuncId):List (FuncId×α)->Option α|[]=>none|(g,a)::r=>if f=g then some a else FX f r
noncomputable def tl:List (FuncId×AFn):=[(32,aN JoS),(23,aN Wt),(65,aN Jlp),(64,aN Jmm),(66,aN Zz),(151,aN W8),(218,aN Jl6),(217,aN X3),(181,aN Vx),(180,aN Qd),(179,aN Joy),(182,aN Joa),(183,aN Jou),(152,aN U1),(113,aN Ux),(112,aN Rf),(62,aN Zd),(125,aN Zx),(74,aN Jnc),(84,aN JBB),(122,aN Xs),(115,aN Y0),(153,aN Yi),(117,aN Uv)]
noncomputable def su:List (FuncId×AFn):=[(92,aN Qa),(102,aN JCI),(178,aN Jmb),(146,aN JCF),(101,aN R8),(147,aN JCm),(103,aN Yw),(116,aN Xl),(119,aN Xq),(120,aN Jar),(114,aN J9t),(63,aN J8v),(184,aN J9a),(240,aN Jau),(219,aN JbV),(185,aN vw),(154,aN Jc9),(118,aN J7V),(67,aN JDJ),(26,aN Yg),(25,aN o9),(10,aN JG2),(83,aN JlD),(85,aN JnT)]
noncomputable def ua:List (FuncId×AFn):=[(77,aN Jnl),(170,aN JCN),(140,aN Y4),(173,aN Ji9),(175,aN JkK),(174,aN JkG),(142,aN Vo),(172,aN Jlq),(216,aN Jc8),(171,aN JkL),(141,aN Z8),(98,aN T2),(71,aN Jnb),(161,aN J7U),(227,aN J8C),(197,aN J9Q),(162,aN vu),(126,aN J9U),(82,aN J5E),(35,aN Zk),(111,aN Zo),(60,aN Wp),(27,aN JDw),(130,aN W9)]
noncomputable def sv:List (FuncId×AFn):=[(131,aN JlQ),(87,aN Jd7),(39,aN Y6),(22,aN S6),(68,aN Zn),(28,aN Qh),(24,aN Ro),(133,aN Jn9),(14,aN JoV),(215,aN JkF),(169,aN Jnm),(139,aN JhM),(205,aN Yv),(167,aN JCg),(204,aN JCp),(202,aN JDp),(203,aN JCU),(166,aN JCY),(137,aN JDA),(158,aN X1),(225,aN Jne),(195,aN S1),(157,aN Ss),(123,aN Sa)]
noncomputable def th:List (FuncId×AFn):=[(70,aN JA3),(69,aN U4),(46,aN Uy),(47,aN Qp),(214,aN X2),(317,aN Vc),(272,aN Se),(273,aN Qq),(242,aN Tn),(260,aN Ri),(328,aN Jok),(343,aN Rj),(344,aN Qf),(345,aN P4),(302,aN Rt),(331,aN T9),(330,aN Y7),(280,aN Un),(248,aN Rq),(346,aN JDo),(303,aN Tz),(304,aN JkT),(259,aN Ur),(236,aN Ru)]
noncomputable def s9:List (FuncId×AFn):=[(228,aN Rv),(206,aN U6),(293,aN Wy),(294,aN JDD),(339,aN JCn),(296,aN JB2),(292,aN Qz),(336,aN Yy),(337,aN JD5),(338,aN Yu),(295,aN Q2),(249,aN Qk),(231,aN Pt),(246,aN JCt),(263,aN JBH),(255,aN JCE),(148,aN JDd),(291,aN Xr),(335,aN JpJ),(290,aN Xu),(289,aN Va),(254,aN Xz),(288,aN U9),(253,aN JHm)]
noncomputable def r5:List (FuncId×AFn):=[(233,aN Qv),(210,aN Jla),(247,aN Ve),(230,aN Uu),(149,aN JCJ),(281,aN T8),(282,aN Sk),(250,aN Wq),(284,aN JAy),(333,aN Yz),(285,aN Uo),(366,aN Vg),(332,aN Ti),(283,aN Xe),(286,aN Py),(251,aN Sy),(334,aN JDv),(287,aN R1),(252,aN Ze),(232,aN S4),(209,aN Ry),(311,aN JBU),(353,aN JCa),(354,aN P7)]
noncomputable def sw:List (FuncId×AFn):=[(310,aN X7),(269,aN Y2),(268,aN JpP),(270,aN JBb),(313,aN Sx),(312,aN Z9),(316,aN JBW),(355,aN Wd),(314,aN JCr),(356,aN JGZ),(315,aN X9),(271,aN JBL),(239,aN Pw),(267,aN Xi),(238,aN JBG),(306,aN JDC),(262,aN JAU),(198,aN JCi),(370,aN Uz),(349,aN Xo),(350,aN JCM),(307,aN Jos),(264,aN S7),(309,aN JCG)]
noncomputable def te:List (FuncId×AFn):=[(266,aN Xj),(352,aN R9),(374,aN Uw),(371,aN P8),(351,aN Sw),(308,aN JBy),(265,aN P1),(348,aN Qs),(347,aN Xx),(305,aN JA2),(261,aN JBw),(237,aN Vn),(213,aN JAP),(211,aN Yx),(277,aN Z4),(329,aN P3),(278,aN JCW),(244,aN Z1),(361,aN Vf),(324,aN JpK),(363,aN Zj),(364,aN n0),(326,aN T4),(360,aN V0)]
noncomputable def sg:List (FuncId×AFn):=[(322,aN Px),(321,aN Qu),(365,aN Ue),(327,aN JCo),(362,aN JDF),(325,aN W1),(319,aN X4),(358,aN Vs),(359,aN Y1),(320,aN Sb),(323,aN JCb),(357,aN Wz),(318,aN Zb),(274,aN JFY),(275,aN Yl),(276,aN JoH),(243,aN JHv),(279,aN P9),(245,aN JBN),(229,aN JFU),(208,aN JjU),(256,aN JB5),(108,aN Tk),(150,aN Q7)]
noncomputable def vd:List (FuncId×AFn):=[(110,aN Yq),(298,aN Rk),(297,aN JAf),(257,aN U7),(234,aN Uk),(163,aN Yh),(201,aN Jjm),(199,aN Jiw),(200,aN JkB),(165,aN Vq),(299,aN Qj),(373,aN Q4),(369,aN Qg),(342,aN Rw),(376,aN Xc),(377,aN Ji2),(378,aN JkJ),(375,aN Xa),(372,aN Wg),(367,aN We),(340,aN Vd),(368,aN So),(341,aN JC2),(300,aN Y9)]
noncomputable def f0:List (FuncId×AFn):=[(301,aN U5),(258,aN Qr),(235,aN JBd),(212,aN Jhz),(207,aN Ji6),(168,aN JhQ),(138,aN JDe),(95,aN JjM),(45,aN JkA),(11,aN JGb),(20,aN JkM),(5,aN JiT)]
noncomputable def fns:List (FuncId×AFn):=tl++(su++(ua++(sv++(th++(s9++(r5++(sw++(te++(sg++(vd++(f0)))))))))))
noncomputable def fks:List (FuncId×kT):=[(61,HU (.i .i64) 8),(53,HU DK 32)]
noncomputable def fps:List (FuncId×Prm):=[(145,JFQ),(121,JmR 13 122 (JhC J3 J9w) (cel J3) J89)]
abbrev PS:=FuncId->Option (List AV->List Blk->Option Res)
noncomputable def vB(p:PS):dM:=λf=>Hk (FX f fns) (FX f fks) (FX f fps) (p f)
def AE(l:List TE):Prop:= ∀p,vD (AF (vB p)) l
theorem ae0:AE []:=λ_=>qQG
theorem AM{i g S l f}(hf: ∀p,vB p i=some (.fn (aN f)))(A:AE l)(q: ∀x,onO (gR g x) (λy=>lZ (TG.of l) f y.1 y.2 (iE g))=S x)(hs:IA g=true:=by rfl):AE (aH i g S::l):=λp=>⟨tp (hf p) (A p) hs q,A p⟩
end Go.Am
end
