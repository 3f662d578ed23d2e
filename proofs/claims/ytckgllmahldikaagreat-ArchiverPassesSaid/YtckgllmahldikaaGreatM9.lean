/-
  Parts of a proof.
-/
import Derived.Test.YtckgllmahldikaaGreatChecked
import Derived.WalkSpells
import Derived.StillTactics
import Derived.Laws.Pointers
import Derived.RangeFuncRecord
import Derived.Tactics
import Derived.Tactics2
import Derived.Test.YtckgllmahldikaaGreatM2
import Derived.Test.YtckgllmahldikaaGreatM3
import Derived.Test.YtckgllmahldikaaGreatM7
import Derived.Test.YtckgllmahldikaaGreatM8
set_option linter.unusedSimpArgs false
set_option linter.unusedVariables false
set_option linter.unusedSectionVars false
set_option maxRecDepth 100000
open Option renaming some → Z,none → Y
open Bool renaming true → O,false → J
open Go.IntKind renaming i64 → I
section
namespace Go.Proofs.YtckgllmahldikaaGreat
open Go.Am
theorem EB{α:Type}{f:FuncId}{a:α}: ∀{l:List (FuncId×α)},FY f l=some a->(f,a)∈l
 |[],h=>by cases h
 |(g,b)::r,h=>by
  simp only[FY]at h;split at h;rename_i e;injection h with h;subst h e;exact List.mem_cons_self;exact fR _ (EB h)
def eV(l:List (FuncId×AFn)):Prop:= ∀x∈l,mT Tryz.prog x.1 x.2=true
def WF(l:List (FuncId×lN)):Prop:= ∀x∈l,mT Tryz.prog x.1 x.2.af=true
theorem oC:eV []:=λ_ h=>by cases h
theorem oE{f a l}(h:mT Tryz.prog f a=true)(hl:eV l):eV ((f,a)::l):=λx e=>by
 rcases cV.1 e with rfl|e;exact h;exact hl x e
theorem JJp:WF []:=λ_ h=>by cases h
theorem JHS{f a l}(h:mT Tryz.prog f a.af=true)(hl:WF l):WF ((f,a)::l):=λx e=>by
 rcases cV.1 e with rfl|e;exact h;exact hl x e
theorem qF{a b}(h:eV a)(hl:eV b):eV (a++b):=λx e=>(zQ9.1 e).elim (h x) (hl x)
theorem JQl:eV w6:=by
 unfold w6
 repeat (first|exact oC|refine oE (by kernel_rfl) ?_)
theorem JQZ:eV xu:=by
 unfold xu
 repeat (first|exact oC|refine oE (by kernel_rfl) ?_)
theorem JQn:eV ya:=by
 unfold ya
 repeat (first|exact oC|refine oE (by kernel_rfl) ?_)
theorem JQq:eV xv:=by
 unfold xv
 repeat (first|exact oC|refine oE (by kernel_rfl) ?_)
theorem JQj:eV xw:=by
 unfold xw
 repeat (first|exact oC|refine oE (by kernel_rfl) ?_)
theorem JQo:eV x7:=by
 unfold x7
 repeat (first|exact oC|refine oE (by kernel_rfl) ?_)
theorem JQC:eV ww:=by
 unfold ww
 repeat (first|exact oC|refine oE (by kernel_rfl) ?_)
theorem JQp:eV xg:=by
 unfold xg
 repeat (first|exact oC|refine oE (by kernel_rfl) ?_)
theorem JQh:eV yb:=by
 unfold yb
 repeat (first|exact oC|refine oE (by kernel_rfl) ?_)
theorem JQH:eV wu:=by
 unfold wu
 repeat (first|exact oC|refine oE (by kernel_rfl) ?_)
theorem JNU:eV jc:=by
 unfold jc
 repeat (first|exact oC|refine oE (by kernel_rfl) ?_)
theorem JO0:eV jy:=by
 unfold jy
 repeat (first|exact oC|refine oE (by kernel_rfl) ?_)
theorem JP3:eV yl:=by
 unfold yl
 repeat (first|exact oC|refine oE (by kernel_rfl) ?_)
theorem Pn:eV fns:=qF JQl<|qF JQZ<|qF JQn<|qF JQq<|qF JQj<|qF JQo<|qF JQC<|qF JQp<|qF JQh<|qF JQH<|qF JNU<|qF JO0<|JP3
theorem Qh:WF fks:=by
 unfold fks
 repeat (first|exact JJp|refine JHS (by kernel_rfl) ?_)
def WH(l:List (FuncId×Prm)):Prop:= ∀x∈l,∀args _q r,x.2 args _q=some r->J60 Tryz.prog x.1 args _q r
theorem JIv:WH []:=λ_ h=>by cases h
theorem Bh{f a l}(h: ∀args _q r,a args _q=some r->J60 Tryz.prog f args _q r)(hl:WH l):WH ((f,a)::l):=λx e=>by
 rcases cV.1 e with rfl|e;exact h;exact hl x e
theorem Qo:WH fps:=Bh JA0<|Bh J9q<|JIv
theorem mixed:Tryz.prog.follows .mixedOrders=true:=by kernel_rfl
def PO:PS:=λ_=>none
theorem VN:kX Tryz.prog (AF (uV PO)):=by
 refine M4 mixed (λf e h=>?_) (λf g h=>?_) (λf k h=>?_);rcases IZ h with⟨x,h1,h2⟩|⟨x,h1,h2⟩|⟨x,h1,h2⟩|⟨x,h1,h2⟩;cases h2;exact Pn _ (EB h1);cases h2;cases h2;cases h2;rcases IZ h with⟨x,h1,h2⟩|⟨x,h1,h2⟩|⟨x,h1,h2⟩|⟨x,h1,h2⟩;cases h2;cases h2;cases h2;exact Qo _ (EB h1);cases h1;rcases IZ h with⟨x,h1,h2⟩|⟨x,h1,h2⟩|⟨x,h1,h2⟩|⟨x,h1,h2⟩;cases h2;cases h2;exact Qh _ (EB h1);cases h2;cases h2
end Go.Proofs.YtckgllmahldikaaGreat
end
section
namespace Go.Am
theorem UZ{F:Orc}{f:FuncId}{g:_x}{S:(tyL g.ti).D->Option (tyL g.to).D}{xs:List TA}{x:(tyL g.ti).D}{y:(tyL g.to).D}{v:TV}(he:EOk F (aH f g S))(hx:vB g xs []=Z x)(j:S x=Z y)
  (hv:HD g y=Z (v,[])):F f (xs.map (bY (_v []))) []=Z (aZ (_v []) v,[]):=by
 have h:(aH f g S).go xs [] (λv out=>Z (v,out))=Z (v,([]:List (Bool×TB))):=by simp only[aH,hx,j,JF,hv];cases g.same<;>rfl
 obtain⟨v,out,h1,_,e⟩:=he.ok h;injection e with e;injection e with h4 h5;subst h4 h5;exact h1
open Go.RowKit
end Go.Am
end
section
namespace Go.Am
open Go.RowKit
structure Up(B:Nat)(w w':World):Prop where
 size:w.heap.size<=w'.heap.size
 block: ∀k,k<B->w'.heap[k]?=w.heap[k]?
 os:w'.os=w.os
 output:w'.output=w.output
theorem Up.refl(B:Nat)(w:World):Up B w w:=⟨zQ0 _,λ_ _=>rfl,rfl,rfl⟩
theorem Up.trans{B:Nat}{a b c:World}(h:Up B a b)(k:Up B b c):Up B a c:=
 ⟨zQ1 h.size k.size,λi hi=>(k.block i hi).trans (h.block i hi),k.os.trans h.os,k.output.trans h.output⟩
theorem Up.mono{B e:Nat}{a b:World}(h:Up B a b)(g:e<=B):Up e a b:=⟨h.size,λk hk=>h.block k (Nat.lt_of_lt_of_le hk g),h.os,h.output⟩
theorem Up.of_below{B:Nat}{a b:World}(h:Below B a b):Up B a b:=⟨h.size,h.block,h.os,h.output⟩
theorem Up.drew{B:Nat}{a b:World}(h:Up B a b):Up B a b.drew:=⟨h.size,h.block,h.os,h.output⟩
theorem Up.alloc{B:Nat}{a b:World}(h:Up B a b)(e:B<=b.heap.size)(o:Obj):Up B a (b.alloc o):=
 h.trans (.of_below ((Below.refl B b).alloc e o))
theorem Up.setCell{B:Nat}{a b:World}(h:Up B a b){p:Addr}(hp:B<=p.block)(u:Value):Up B a (b.setCell p u):=
 h.trans (.of_below ((Below.refl B b).setCell hp u))
theorem Up.cellAt{B:Nat}{a b:World}(h:Up B a b){r o:Nat}(hr:r<B):cellAt b r o=cellAt a r o:=by unfold Go.Am.cellAt;rw[h.block r hr]
theorem KN{w:World}{r o:Nat}{v:Value}(h:cellAt w r o=Z v):r<w.heap.size:=by
 grind [cellAt]
theorem J0d.keeps{w w':World}{C g:Nat->Nat->Prop}(hs: ∀r o u,C r o->cellAt w r o=Z u->g r o/\cellAt w' r o=Z u){x:PV}{v:Value}(h:J0d w C x v):J0d w' g x v:=by
 induction h with
 |b x=>exact .b x
 |i k n=>exact .i k n
 |s l=>exact .s l
 |np=>exact .np
 |nf=>exact .nf
 |sl0 e a c=>exact .sl0 e a c
 |sl _l _f r o cap vals h1 h2 q _ ih=>exact .sl _l _f r o cap vals h1 h2 (λi j row x hi y=>hs _ _ _ (q i j row x hi y).1 (q i j row x hi y).2) ih
 |slc _l _f a _ ih=>exact .slc _l _f a ih
theorem J0d.up{w w':World}{C g:Nat->Nat->Prop}(hu:Up w.heap.size w w')(j: ∀r o,C r o->r<w.heap.size->g r o){x:PV}{v:Value}(h:J0d w C x v):J0d w' g x v:=
 h.keeps λr o u hc e=>⟨j r o hc (KN e),by rw[hu.cellAt (KN e)];exact e⟩
theorem JLO{g g':Gh}{w w':World}(t:bK ⟨[],g,w⟩ ⟨[],g',w'⟩):Up w.heap.size w w':=by
 have n: ∀r o,¬Wr (⟨[],g,w⟩:Sn) r o:=λr o ⟨b,hb⟩=>by grind [Wr1]
 obtain⟨h1,h2,x,q,v⟩:=t.keep;refine⟨h1,λk hk=>?_,q,v⟩;have j:w.heap[k]?=Z w.heap[k]:=GO hk;cases e:w.heap[k]with
 |cells c t' fz=>rw[e]at j;obtain⟨c',A,z,y⟩:=h2 k c t' fz j;have:c'=c:=Array.ext_getElem? λi=>y i (n k i);simp_all
 |_=>rw[e]at j;show w'.heap[k]?=w.heap[k]?;rw[j];exact x k _ j (λ_ _ _ h=>by cases h)
def ghC(C:Nat->Nat->Prop)(w:World):Gh:=qZ ⟨λ_=>Y,λ_ _=>False⟩ λr o=>C r o/\r<w.heap.size
theorem JLQ(C:Nat->Nat->Prop)(w:World):Inv ⟨[],ghC C w,w⟩:=
 ⟨λb cs h=>by simp at h,λb wm e r h=>by simp at h,λb1 b2 r o h=>by simp[Wr1]at h,λr o h=>by
  rcases h with h|h
  all_goals grind [Wr1]⟩
theorem J0d.gh{w:World}{C:Nat->Nat->Prop}{x:PV}{v:Value}(h:J0d w C x v):J0d w (ghC C w).C x v:=
 h.keeps λr o u hc e=>⟨.inr ⟨hc,KN e⟩,e⟩
theorem XH{P:Program}{f:FuncId}{args:List AV}{r:AV}{_q:List _w}(h:J60 P f args [] (r,_q))(hb:_q=[]){w:World}(C:Nat->Nat->Prop){vals:Array Value}(hl:args.length=vals.size)
  (ha: ∀(i:Nat) x v,args[i]?=Z x->vals[i]?=Z v->JH ⟨[],ghC C w,w⟩ x v):
  Calls P f vals w λe w'=> ∃v g',e=.returned v/\Up w.heap.size w w'/\JH ⟨[],g',w'⟩ r v/\ ∀r o,g'.C r o->C r o\/w.heap.size<=r:=by
 subst hb;refine(h.2 (ghC C w) w vals (JLQ C w) hl ha).mono ?_;rintro e w' ⟨v,g',j,hi,t,g⟩;refine⟨v,g',j,JLO t,g,λr o hc=>?_⟩;rcases t.cnew r o hc with h|⟨b,hb⟩|h
 ·rcases h with h|h
  all_goals simp_all
 all_goals grind [Wr1]
theorem JIG{σ:List _w}{g:Gh}{w w':World}(hi:Inv ⟨σ,g,w⟩)(hb:Up w.heap.size w w')(p:Nat->Nat->Prop)(hp: ∀r o,p r o->w.heap.size<=r/\r<w'.heap.size):
  Inv ⟨σ,qZ g p,w'⟩/\bK ⟨σ,g,w⟩ ⟨σ,qZ g p,w'⟩:=by
 have hk: ∀(r:Nat) x,w.heap[r]?=Z x->w'.heap[r]?=Z x:=λr x h=>by rw[hb.block r (AL h)];exact h
 have hc: ∀r o v,cellAt w r o=Z v->cellAt w' r o=Z v:=λr o v h=>by rw[hb.cellAt (KN h)];exact h
 have t:bK ⟨σ,g,w⟩ ⟨σ,qZ g p,w'⟩:=by
  refine⟨⟨hb.size,λr c e fz h=>⟨c,hk r _ h,rfl,λ_ _=>rfl⟩,λr x h _=>hk r x h,hb.os,hb.output⟩,λ_ _ h=>.inl h,λr o h=>?_,λr o ⟨b,hb⟩=>.inl ⟨b,hb⟩,zQ0 _,λ_ cs h=>⟨⟨cs,h,rfl⟩,rfl⟩,
   λ_ wm _ _f h=>⟨wm,_f,h,id,zQ0 _,λ_=>rfl⟩⟩
  rcases h with h|h
  all_goals grind
 refine⟨pX hi t (λ_=>False) (λ_ _=>⟨rfl,rfl⟩) (λ_ r o v _ _ h=>hc r o v h) (λ_ _ h=>h.elim) (λ_ _ _ _ h=>h.elim)
  (λ_ _ _ _ h=>h.elim) ?_ (λ_ _ _ _ h=>h.elim) ?_,t⟩
 intro r o hc;rcases hc with hc|hc;exact Nat.lt_of_lt_of_le (hi.const r o hc).1 hb.size;grind;intro r o b hc j _ h;rcases hc with hc|hc;exact j hc;have h1:r<w.heap.size:=yX hi b r o h;grind
end Go.Am
end
section
namespace Go.Proofs.YtckgllmahldikaaGreat
open Go.Shelf Go.RowKit Go.Lib Go.Am Go.Proofs
abbrev ceT(x:ET):List PV:=_A J3 x
theorem R3{w:World}{C:Nat->Nat->Prop}(f:ET)(j:Nat)(x:PV)(hx:(ceT f)[j]?=some x): ∃u,(enT f)[j]?=some u/\J0d w C x u/\ ∀v,J0d w C x v->v=u:=by
 match j with
 |0=>cases hx;exact⟨_,rfl,.i _ _,λv h=>by cases h;rfl⟩
 |1=>cases hx;exact⟨_,rfl,.i _ _,λv h=>by cases h;rfl⟩
 |2=>cases hx;exact⟨_,rfl,.i _ _,λv h=>by cases h;rfl⟩
 |3=>cases hx;exact⟨_,rfl,.i _ _,λv h=>by cases h;rfl⟩
 |4=>cases hx;exact⟨_,rfl,.i _ _,λv h=>by cases h;rfl⟩
 |5=>cases hx;exact⟨_,rfl,.i _ _,λv h=>by cases h;rfl⟩
 |6=>cases hx;exact⟨_,rfl,.i _ _,λv h=>by cases h;rfl⟩
 |7=>cases hx;exact⟨_,rfl,.i _ _,λv h=>by cases h;rfl⟩
 |8=>cases hx;exact⟨_,rfl,.b _,λv h=>by cases h;rfl⟩
 |9=>cases hx;exact⟨_,rfl,.s _,λv h=>by cases h;rfl⟩
 |10=>cases hx;exact⟨_,rfl,.b _,λv h=>by cases h;rfl⟩
 |11=>cases hx;exact⟨_,rfl,.s _,λv h=>by cases h;rfl⟩
 |12=>cases hx;exact⟨_,rfl,.s _,λv h=>by cases h;rfl⟩
 |j+13=>simp[ceT,_A,J3,hI,JN]at hx
theorem JKP{w:World}{C:Nat->Nat->Prop}{es:List ET}{v:Value}(h:J0d w C (.sl 13 (es.map ceT)) v):
  ∃a c,v=.slice a es.length c/\ ∀(i:Nat) x,es[i]?=some x-> ∃r o,a=some ⟨r,o,none⟩/\r<w.heap.size/\ ∀(j:Nat) u,(enT x)[j]?=some u->w.cell? ⟨r,o+i*13+j,none⟩=some u:=by
 generalize hR:es.map ceT=R at h;cases h with
 |sl0 _ a c=>
  have:es=[]:=by simpa using hR
  subst this;exact⟨a,c,rfl,λi x q=>by simp at q⟩
 |sl _ _ r o cap vals h1 h2 B z=>
  subst hR;refine⟨_,cap,by rw[eN],λi x q=>⟨r,o,rfl,?_⟩⟩;have cell: ∀(k:Nat) u,(enT x)[k]?=some u->w.cell? ⟨r,o+i*13+k,none⟩=some u:=by
   intro k u hk;have e:(es.map ceT)[i]?=some (ceT x):=by rw[iM,q];rfl
   have y:k<(ceT x).length:=(dT.1 hk).1;have n:=bF y;obtain⟨D,g,_,A⟩:=R3 (w:=w) (C:=C) x k _ n;rw[hk]at g;cases g;rw[wD,(B i k _ _ e n).2,A _ (z i k _ _ e n)]
  exact⟨block_lt_of_cell (cell 0 _ rfl),cell⟩
abbrev RT:=Int×Int×Int×Int×Int×List ET
theorem P2(x:RT):_A dQ x=[.i .i64 x.1,.i .i64 x.2.1,.i .i64 x.2.2.1,.i .i64 x.2.2.2.1,.i .i64 x.2.2.2.2.1,.sl 13 (x.2.2.2.2.2.map ceT)]:=rfl
def lP(x:RT)(v:Value):Value:=.agg #[.int .i64 x.1,.int .i64 x.2.1,.int .i64 x.2.2.1,.int .i64 x.2.2.2.1,.int .i64 x.2.2.2.2.1,v]
theorem JPd{s:Sn}{x:RT}{v:Value}(h:JH s (.data (_A dQ x)) v): ∃vs,v=lP x vs/\J0d s.w s.g.C (.sl 13 (x.2.2.2.2.2.map ceT)) vs:=by
 rw[P2]at h;cases h with
 |data _ vs hl e=>
  obtain⟨l⟩:=vs
  match l,hl with
  |[v0,v1,v2,v3,v4,v5],_=>have r:=e 0 _ _ rfl rfl;have q:=e 1 _ _ rfl rfl;have o:=e 2 _ _ rfl rfl;have k:=e 3 _ _ rfl rfl;have j:=e 4 _ _ rfl rfl;have n:=e 5 _ _ rfl rfl;cases r;cases q;cases o;cases k;cases j;exact⟨v5,rfl,n⟩
theorem Oe{s:Sn}{x:RT}{vs:Value}(h:J0d s.w s.g.C (.sl 13 (x.2.2.2.2.2.map ceT)) vs):JH s (.data (_A dQ x)) (lP x vs):=by
 rw[P2];refine .data _ _ rfl λi y u e j=>?_
 match i with
 |0=>injection e with e;injection j with j;subst e j;exact .i _ _
 |1=>injection e with e;injection j with j;subst e j;exact .i _ _
 |2=>injection e with e;injection j with j;subst e j;exact .i _ _
 |3=>injection e with e;injection j with j;subst e j;exact .i _ _
 |4=>injection e with e;injection j with j;subst e j;exact .i _ _
 |5=>injection e with e;injection j with j;subst e j;exact h
 |i+6=>simp at e
theorem JKm(x:RT)(b:Bool)(n:lI x=some b)(C:Nat->Nat->Prop)(w:World)(vs:Value)(h:J0d w C (.sl 13 (x.2.2.2.2.2.map ceT)) vs):
  Calls Tryz.prog 92 #[lP x vs] w λen w'=>en=.returned (.bool b)/\Up w.heap.size w w':=by
 have run:=UZ (Er PO).1 (xs:=[.dt dQ x]) (x:=x) rfl n (v:=.a (.c (.d .b b))) rfl;refine(XH (VN _ _ _ _ run) rfl (w:=w) C (vals:= #[lP x vs]) rfl (λi a u g e=>?_)).mono ?_
 match i with
 |0=>injection g with g;injection e with e;subst g e;exact Oe (s:=⟨[],ghC C w,w⟩) (h.keeps λr o u hc k=>⟨.inr ⟨hc,KN k⟩,k⟩)
 |i+1=>simp at g
 rintro en w' ⟨u,g',rfl,e,j,_⟩;cases j with
 |p _ _ j=>cases j;exact⟨rfl,e⟩
theorem JMJ(x:RT)(l:List UInt8)(n:AM x=some l)(C:Nat->Nat->Prop)(w:World)(vs:Value)(h:J0d w C (.sl 13 (x.2.2.2.2.2.map ceT)) vs):
  Calls Tryz.prog 102 #[lP x vs] w λen w'=>en=.returned (.string ⟨l.toArray⟩)/\Up w.heap.size w w':=by
 have run:=UZ (Dr PO).1 (xs:=[.dt dQ x]) (x:=x) rfl n (v:=.a (.c (.d .s l))) rfl;refine(XH (VN _ _ _ _ run) rfl (w:=w) C (vals:= #[lP x vs]) rfl (λi a u g e=>?_)).mono ?_
 match i with
 |0=>injection g with g;injection e with e;subst g e;exact Oe (s:=⟨[],ghC C w,w⟩) (h.keeps λr o u hc k=>⟨.inr ⟨hc,KN k⟩,k⟩)
 |i+1=>simp at g
 rintro en w' ⟨u,g',rfl,e,j,_⟩;cases j with
 |p _ _ j=>cases j;exact⟨rfl,e⟩
theorem Be(l r:List UInt8)(j:nG l=some r)(w:World):Calls Tryz.prog 101 #[.string ⟨l.toArray⟩] w λen w'=>en=.returned (.string ⟨r.toArray⟩)/\Up w.heap.size w w':=by
 have run:=UZ (Fp PO).1 (xs:=[.c (.d .s l)]) (x:=l) rfl j (v:=.a (.c (.d .s r))) rfl;refine(XH (VN _ _ _ _ run) rfl (w:=w) (λ_ _=>False) (vals:= #[.string ⟨l.toArray⟩]) rfl (λi a u g e=>?_)).mono ?_
 match i with
 |0=>injection g with g;injection e with e;subst g e;exact .p _ _ (.s _)
 |i+1=>simp at g
 rintro en w' ⟨u,g',rfl,e,h,_⟩;cases h with
 |p _ _ h=>cases h;exact⟨rfl,e⟩
theorem JKq(x:ET)(y:List UInt8×Int)(r:oS x=some y)(w:World):Calls Tryz.prog 103 #[.agg (enT x).toArray] w λen w'=>en=.returned (.tuple #[.string ⟨y.1.toArray⟩,.int .i64 y.2])/\Up w.heap.size w w':=by
 have run:=UZ (Gy PO).1 (xs:=[.dt J3 x]) (x:=x) rfl r (v:=.tup [.c (.d .s y.1),.c (.d (.i .i64) y.2)]) rfl;refine(XH (VN _ _ _ _ run) rfl (w:=w) (λ_ _=>False) (vals:= #[.agg (enT x).toArray]) rfl (λi a u k e=>?_)).mono ?_
 match i with
 |0=>
  injection k with k;injection e with e;subst k e;refine .data _ _ rfl λj z v B q=>?_;obtain⟨D,h,A,_⟩:=R3 (w:=w) (C:=(ghC (λ_ _=>False) w).C) x j z B;have q:(enT x)[j]?=some v:=by simpa using q
  rw[q]at h;cases h;exact A
 |i+1=>simp at k
 rintro en w' ⟨u,g',rfl,e,g,_⟩;cases g with
 |tup _ vs hl g=>
  obtain⟨l⟩:=vs
  match l,hl with
  |[v0,v1],_=>have o:=g 0 _ _ rfl rfl;have n:=g 1 _ _ rfl rfl;cases o with|p _ _ o=>cases n with|p _ _ n=>cases o;cases n;exact⟨rfl,e⟩
theorem En.bad(x:RT)(w:World)(vs:Value)(hv: ∀W,Up w.heap.size w W->Calls Tryz.prog 92 #[lP x vs] W λen W'=>en=.returned (.bool false)/\Up W.heap.size W W'):
  Calls Tryz.prog 51 #[lP x vs] w λen w'=>en=.returned (.tuple #[.string ⟨#[]⟩,.int .i64 40])/\Up w.heap.size w w':=by
 unfold lP at hv⊢
 go_enter Tryz.func51,Tryz.ntmps51
 go_wp2_with (go_at_call 92;refine(hv _ ((Up.refl _ w).alloc (zQ0 _) _)).mono ?_;rintro e W ⟨rfl,k⟩)
 go_ret2
 exact⟨rfl,((Up.refl _ w).alloc (zQ0 _) _).trans (k.mono (by simp))⟩
theorem JNq{T e:TypeId}{B b:Nat}{bs:List Value}{w w':World}(h:Lib.IsBuilder T e B b bs w)(k:Up w.heap.size w w'):Lib.IsBuilder T e B b bs w':=by
 have j: ∀p,Lib.BuilderAt T e B b p bs w->Lib.BuilderAt T e B b p bs w':=(by rintro p ⟨x,v,hb,⟨hl,n⟩,o⟩;refine⟨x,v,?_,⟨hl,?_⟩,o⟩;rw[k.block b (AL hb)];exact hb;rcases n with n|⟨g,cap,q,h1,h2,r,y⟩;exact .inl n;exact .inr ⟨g,cap,q,h1,h2,by rw[k.block g (AL r)];exact r,y⟩);rcases h with h|h;exact .inl (j _ h);exact .inr (j _ h)
theorem Rf{out f:List UInt8}(h:out.length+f.length<=140737488355328):(Lib.byteCells out).length+(⟨f.toArray⟩:ByteArray).size<=140737488355328:=by rw[Lib.size_eq,Lib.byteCells_length];simpa using h
structure EnW(w W:World)(B:Nat)(x0 X x2 x3 x4:Int)(v:Value)(out:List UInt8)(W':World):Prop where
 box:W'.heap[w.heap.size]?=some (.cells #[.int .i64 x0,.int .i64 X,.int .i64 x2,.int .i64 x3,.int .i64 x4,v] 83 (0,0))
 up:Up w.heap.size w W'
 bd:Lib.IsBuilder 160 5 B B (Lib.byteCells out) W'
 lt:w.heap.size<B
 le:B<W'.heap.size
section
variable {w W W':World} {B:Nat} {x0 X x2 x3 x4:Int} {v:Value} {out:List UInt8} (E:EnW w W B x0 X x2 x3 x4 v out W')
include E
theorem EnW.c0:W'.cell? ⟨w.heap.size,0,none⟩=some (.int .i64 x0):=by simp[World.cell?,E.box]
theorem EnW.c1:W'.cell? ⟨w.heap.size,1,none⟩=some (.int .i64 X):=by simp[World.cell?,E.box]
theorem EnW.c2:W'.cell? ⟨w.heap.size,2,none⟩=some (.int .i64 x2):=by simp[World.cell?,E.box]
theorem EnW.c3:W'.cell? ⟨w.heap.size,3,none⟩=some (.int .i64 x3):=by simp[World.cell?,E.box]
theorem EnW.c4:W'.cell? ⟨w.heap.size,4,none⟩=some (.int .i64 x4):=by simp[World.cell?,E.box]
theorem EnW.c5:W'.cell? ⟨w.heap.size,5,none⟩=some v:=by simp[World.cell?,E.box]
theorem EnW.trans{e:World}(k:Up W'.heap.size W' e):EnW w W B x0 X x2 x3 x4 v out e:=
 ⟨(k.block _ (Nat.lt_trans E.lt E.le)).trans E.box,E.up.trans (k.mono E.up.size),JNq E.bd k,E.lt,Nat.lt_of_lt_of_le E.le k.size⟩
theorem EnW.write{g:World}{e:List UInt8}(k:Below B W' g)(hb:Lib.IsBuilder 160 5 B B (Lib.byteCells e) g):EnW w W B x0 X x2 x3 x4 v e g:=
 ⟨(k.block _ E.lt).trans E.box,E.up.trans ((Up.of_below k).mono (Nat.le_of_lt E.lt)),hb,E.lt,Nat.lt_of_lt_of_le E.le k.size⟩
theorem EnW.push{e:World}{f:List UInt8}(k:Below B W' e)(hb:Lib.BuilderAt 160 5 B B (.pointer (some ⟨B,0,none⟩)) (Lib.byteCells out++Lib.strCells ⟨f.toArray⟩) e):EnW w W B x0 X x2 x3 x4 v (out++f) e:=
 E.write k (by rw[Lib.strCells_eq,<-Lib.byteCells_append]at hb;exact .inr hb)
end
theorem En.good(x:RT)(w:World)(a:Option Addr)(c:Nat)(g: ∀(i:Nat) e,x.2.2.2.2.2[i]?=some e-> ∃r o,a=some ⟨r,o,none⟩/\r<w.heap.size/\ ∀(j:Nat) u,(enT e)[j]?=some u->w.cell? ⟨r,o+i*13+j,none⟩=some u)
  (hlen:x.2.2.2.2.2.length<=4096) {h f:List UInt8} {y:List UInt8×Int} (hf:nG h=some f) (a7:f.length<=140737488355328) (he:sL nG oS 40 x.2.2.2.2.2 f=some y)
  (hv: ∀W,Up w.heap.size w W->Calls Tryz.prog 92 #[lP x (.slice a x.2.2.2.2.2.length c)] W λen W'=>en=.returned (.bool true)/\Up W.heap.size W W')
  (_d: ∀W,Up w.heap.size w W->Calls Tryz.prog 102 #[lP x (.slice a x.2.2.2.2.2.length c)] W λen W'=>en=.returned (.string ⟨h.toArray⟩)/\Up W.heap.size W W'):
  Calls Tryz.prog 51 #[lP x (.slice a x.2.2.2.2.2.length c)] w λen w'=>en=.returned (.tuple #[.string ⟨y.1.toArray⟩,.int .i64 y.2])/\Up w.heap.size w w':=by
 obtain⟨x0,X,x2,x3,x4,es⟩:=x;unfold lP at hv _d⊢;dsimp only at hv _d g hlen he⊢;have U:Up w.heap.size w (w.alloc (.cells #[.int .i64 x0,.int .i64 X,.int .i64 x2,.int .i64 x3,.int .i64 x4,.slice a es.length c] 83)):=(Up.refl _ w).alloc (zQ0 _) _;have N:=World.alloc_heap_new w (.cells #[.int .i64 x0,.int .i64 X,.int .i64 x2,.int .i64 x3,.int .i64 x4,.slice a es.length c] 83);have M:(w.alloc (.cells #[.int .i64 x0,.int .i64 X,.int .i64 x2,.int .i64 x3,.int .i64 x4,.slice a es.length c] 83)).heap.size=w.heap.size+1:=by simp
 have F1: ∀W,Up (w.alloc (.cells #[.int .i64 x0,.int .i64 X,.int .i64 x2,.int .i64 x3,.int .i64 x4,.slice a es.length c] 83)).heap.size (w.alloc (.cells #[.int .i64 x0,.int .i64 X,.int .i64 x2,.int .i64 x3,.int .i64 x4,.slice a es.length c] 83)) W->EnW w W W.heap.size x0 X x2 x3 x4 (.slice a es.length c) [] (W.alloc (.cells #[.pointer none,.slice none 0 0] 160)):=λW k=>by rw[M]at k;have h1:=k.size;exact⟨(Below.heap_alloc W _ _ (by omega)).trans ((k.block _ (by omega)).trans N),(U.trans (k.mono (by omega))).alloc (by omega) _,Lib.fresh_isBuilder 160 5 W,by omega,by simp⟩
 go_enter Tryz.func51,Tryz.ntmps51
 go_wp2_with (first
  |(go_at_call 92;refine(hv _ U).mono ?_;rintro e W ⟨rfl,k⟩;have E:=F1 W k;have q0:=E.c0;have q1:=E.c1;have q2:=E.c2;have q3:=E.c3;have q4:=E.c4;have q5:=E.c5)
  |(go_at_call 102;refine(_d _ E.up).mono ?_;rintro e W2 ⟨rfl,k2⟩;have E2:=E.trans k2)
  |(go_at_call 101;refine(Be _ _ hf _).mono ?_;rintro e W3 ⟨rfl,k3⟩;have _e:=E2.trans k3)
  |(go_at_call 100;refine(Tryz.WriteString W.heap.size W.heap.size (Lib.byteCells []) ⟨f.toArray⟩ _ _e.bd (Rf (out:=[]) (by simpa using a7)) (Nat.le_of_lt _e.le)).mono ?_;rintro e W4 ⟨rfl,q,k4⟩;have H:=_e.push k4 q;have q6:=H.c5))
 generalize W.heap.size=B at H⊢;clear E E2 _e k k2 k3 k4 q q0 q1 q2 q3 q4 q5 F1 M U N _d hv;have HH:Hid (EnW w W B x0 X x2 x3 x4 (.slice a es.length c) ([]++f) W4):=H;have HE:Hid (sL nG oS 40 es f=some y):=he;clear H he
 go_wp2
 go_loopw [19] (λi wr=> ∃(j:Nat) (out:List UInt8),j<=es.length/\i=.int .i64 j/\sL nG oS 40 (es.drop j) out=some y/\EnW w W B x0 X x2 x3 x4 (.slice a es.length c) out wr)
  (λi _=>es.length-(Go.RowKit.intOf i).toNat)
 case atStart=>exact⟨0,f,zQ2 _,rfl,by rw[GL];exact HE.out,HH.out⟩
 case round=>
  obtain⟨j,out,hj,rfl,he,E⟩:=hrel;by_cases v:j<es.length
  ·obtain⟨⟨e0,e1,e2,e3,V,S,⟨Q,P,⟨_a,T⟩,C,F⟩,D⟩,G⟩: ∃e,es[j]?=some e:=⟨_,bF v⟩;obtain⟨r,o,rfl,hr,hc⟩:=g j _ G;have cell: ∀(k:Nat) u,(enT (e0,e1,e2,e3,V,S,(Q,P,(_a,T),C,F),D))[k]?=some u->wr.cell? ⟨r,o+j*13+k,none⟩=some u:=λk u hk=>by rw[World.cell?_of_block (E.up.block r hr)];exact hc k u hk
   have t0:=cell 0 _ rfl;have t1:=cell 1 _ rfl;have t2:=cell 2 _ rfl;have t3:=cell 3 _ rfl;have t4:=cell 4 _ rfl;have t5:=cell 5 _ rfl;have t6:=cell 6 _ rfl;have t7:=cell 7 _ rfl;have t8:=cell 8 _ rfl;have t9:=cell 9 _ rfl;have b2:=cell 10 _ rfl;have az:=cell 11 _ rfl;have b4:=cell 12 _ rfl;rw[yI]at t0;have hd:es.drop j=(e0,e1,e2,e3,V,S,(Q,P,(_a,T),C,F),D)::es.drop (j+1):=by rw[List.drop_eq_getElem_cons v,(dT.1 G).2]
   rw[hd]at he;unfold sL at he;obtain⟨b,hb,he⟩:=bV.1 he;have n: ∀W,Calls Tryz.prog 103 #[.agg #[.int .i64 e0,.int .i64 e1,.int .i64 e2,.int .i64 e3,.int .i64 V,.int .i64 S,.int .i64 Q,.int .i64 P,.bool _a,.string ⟨T.toArray⟩,.bool C,.string ⟨F.toArray⟩,.string ⟨D.toArray⟩]] W λen w'=>en=.returned (.tuple #[.string ⟨b.1.toArray⟩,.int .i64 b.2])/\Up W.heap.size W w':=λW=>JKq _ b hb W;have HN:Hid (EnW w W B x0 X x2 x3 x4 (.slice (some ⟨r,o,none⟩) es.length c) out wr):=E;have b3:(0:Int)<=(j:Int):=Int.natCast_nonneg _;have ay:(j:Int)<(es.length:Int):=by omega
   have EA: ∀R,EnW w W B x0 X x2 x3 x4 (.slice (some ⟨r,o,none⟩) es.length c) out (wr.alloc R):=λR=>E.trans ((Up.refl _ wr).alloc (zQ0 _) R);clear cell g G hd hc hb E;obtain⟨b0,b1⟩:=b;by_cases hz:b1=0
   ·subst hz;rw[if_pos rfl]at he;obtain⟨z,L,he⟩:=bV.1 he;split at he
    case isFalse=>cases he
    rename_i K;have HF:Hid (nG b0=some z):=L;have HS:Hid (out.length+z.length<=140737488355328):=K;have ab:Hid (sL nG oS 40 (es.drop (j+1)) (out++z)=some y):=he;clear L K he
    go_wp2_with (first
     |(go_at_call 103;refine(n _).mono ?_;rintro e W5 ⟨rfl,A⟩;have _b:=(EA _).trans A)
     |(go_at_call 101;refine(Be _ _ HF.out _).mono ?_;rintro e W6 ⟨rfl,k6⟩;have _c:=_b.trans k6)
     |(go_at_call 100;refine(Tryz.WriteString B B (Lib.byteCells out) ⟨z.toArray⟩ _ _c.bd (Rf HS.out) (Nat.le_of_lt _c.le)).mono ?_;rintro e W7 ⟨rfl,q,k7⟩;have E7:=_c.push k7 q))
    exact⟨⟨j+1,out++z,v,by simp,ab.out,E7⟩,by simp[Go.RowKit.intOf];omega⟩
   ·rw[if_neg hz]at he;cases he
    go_wp2_with (go_at_call 103;refine(n _).mono ?_;rintro e W5 ⟨rfl,A⟩;have _b:=(EA _).trans A)
    go_ret2
    exact⟨rfl,_b.up⟩
  ·have ac:j=es.length:=by omega
   subst ac;rw[List.drop_length]at he;unfold sL at he;cases he
   go_wp2_with (go_at_call 104;refine(Tryz.String B B out wr E.bd (Nat.le_of_lt E.le)).mono ?_;rintro e W5 ⟨rfl,A⟩)
   go_ret2
   exact⟨rfl,E.up.trans ((Up.of_below A).mono (Nat.le_of_lt E.lt))⟩
theorem JOz{x:RT}(h:lI x=some true):x.2.2.2.2.2.length<=4096:=by
 unfold lI at h;obtain⟨b,_,h⟩:=bV.1 h;split at h;split at h;simp at h;rename_i e;have e: ¬decide (((x.2.2.2.2.2.length:Nat):Int)>4096)=true:=e;simp only[decide_eq_true_eq]at e;omega;simp at h
theorem Zi: ∀args _q r,BV dQ FI args _q=some r->J60 Tryz.prog 51 args _q r:=JMP λx y _q E=>
 ⟨⟨Tryz.f51,Tryz.func51,by kernel_rfl,by kernel_rfl⟩,λg w vals hi hl j=>by
  obtain⟨B,rfl⟩: ∃B,vals= #[B]:=by
   obtain⟨l⟩:=vals
   match l,hl with
   |[v],_=>exact⟨v,rfl⟩
  obtain⟨vs,rfl,q⟩:=JPd (x:=x) (j 0 _ _ rfl rfl);have fin: ∀{w':World},Up w.heap.size w w'-> ∃v g',(Ending.returned (.tuple #[.string ⟨y.1.toArray⟩,.int .i64 y.2]))=.returned v/\Inv ⟨_q,g',w'⟩/\bK ⟨_q,g,w⟩ ⟨_q,g',w'⟩/\JH ⟨_q,g',w'⟩ (.tup [.p (.s y.1),.p (.i .i64 y.2)]) v:=fun{w'} k=>by
   obtain⟨h1,h2⟩:=JIG hi k (λ_ _=>False) (λ_ _ h=>h.elim);refine⟨_,_,rfl,h1,h2,.tup _ _ rfl λi a b j hb=>?_⟩
   match i with
   |0=>injection j with j;injection hb with hb;subst j hb;exact .p _ _ (.s _)
   |1=>injection j with j;injection hb with hb;subst j hb;exact .p _ _ (.i _ _)
   |i+2=>simp at j
  have e:NT lI AM nG oS (λx=>x.2.2.2.2.2) x=some y:=E;unfold NT at e;obtain⟨b,hb,e⟩:=bV.1 e;have A: ∀W,Up w.heap.size w W->Calls Tryz.prog 92 #[lP x vs] W λen W'=>en=.returned (.bool b)/\Up W.heap.size W W':=λW o=>JKm x b hb g.C W vs (q.up o λ_ _ h _=>h);cases b with
  |false=>rw[if_neg (by decide)]at e;cases e;refine(En.bad x w vs A).mono ?_;rintro en w' ⟨rfl,k⟩;exact fin k
  |true=>
   rw[if_pos rfl]at e;obtain⟨h,D,e⟩:=bV.1 e;obtain⟨f,hf,e⟩:=bV.1 e;split at e;rename_i z;have hd: ∀W,Up w.heap.size w W->Calls Tryz.prog 102 #[lP x vs] W λen W'=>en=.returned (.string ⟨h.toArray⟩)/\Up W.heap.size W W':=λW o=>JMJ x h D g.C W vs (q.up o λ_ _ h _=>h);obtain⟨a,c,rfl,n⟩:=JKP q;refine(En.good x w a c n (JOz hb) hf z e A hd).mono ?_;rintro en w' ⟨rfl,k⟩;exact fin k;cases e⟩
theorem JPS:kX Tryz.prog (AF (uV CW)):=by
 refine M4 mixed (λf e h=>?_) (λf g h=>?_) (λf k h=>?_);rcases IZ h with⟨x,h1,h2⟩|⟨x,h1,h2⟩|⟨x,h1,h2⟩|⟨x,h1,h2⟩;cases h2;exact Pn _ (EB h1);cases h2;cases h2;cases h2;rcases IZ h with⟨x,h1,h2⟩|⟨x,h1,h2⟩|⟨x,h1,h2⟩|⟨x,h1,h2⟩;cases h2;cases h2;cases h2;exact Qo _ (EB h1);cases h2;unfold CW at h1;split at h1;rename_i hf;cases h1;subst hf;exact Zi;cases h1;rcases IZ h with⟨x,h1,h2⟩|⟨x,h1,h2⟩|⟨x,h1,h2⟩|⟨x,h1,h2⟩;cases h2;cases h2;exact Qh _ (EB h1);cases h2;cases h2
end Go.Proofs.YtckgllmahldikaaGreat
end
