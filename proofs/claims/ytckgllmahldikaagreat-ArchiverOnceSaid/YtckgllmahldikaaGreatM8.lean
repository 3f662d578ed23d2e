/-
  Parts of a proof.
-/
import Derived.Test.YtckgllmahldikaaGreatChecked
import Derived.WalkSpells
import Derived.StillTactics
import Derived.Laws.Pointers
import Derived.RangeFuncRecord
import Derived.Tactics
import Derived.Tactics2
import Derived.Test.YtckgllmahldikaaGreatM2
import Derived.Test.YtckgllmahldikaaGreatM3
import Derived.Test.YtckgllmahldikaaGreatM6
import Derived.Test.YtckgllmahldikaaGreatM7
set_option linter.unusedSimpArgs false
set_option linter.unusedVariables false
set_option linter.unusedSectionVars false
set_option maxRecDepth 100000
section
namespace Go.Proofs.YtckgllmahldikaaGreat
open Go.Am
theorem CP{α:Type}{f:FuncId}{a:α}: ∀{l:List (FuncId×α)},FX f l=some a->(f,a)∈l
 |[],h=>by cases h
 |(g,b)::r,h=>by
  simp only[FX]at h;split at h;rename_i e;injection h with h;subst h e;exact List.mem_cons_self;exact kU _ (CP h)
def eT(l:List (FuncId×AFn)):Prop:= ∀x∈l,mD Tryz.prog x.1 x.2=true
def VF(l:List (FuncId×kT)):Prop:= ∀x∈l,mD Tryz.prog x.1 x.2.af=true
theorem pN:eT []:=λ_ h=>by cases h
theorem pT{f a l}(h:mD Tryz.prog f a=true)(hl:eT l):eT ((f,a)::l):=λx e=>by
 rcases cV.1 e with rfl|e;exact h;exact hl x e
theorem JKK:VF []:=λ_ h=>by cases h
theorem JJh{f a l}(h:mD Tryz.prog f a.af=true)(hl:VF l):VF ((f,a)::l):=λx e=>by
 rcases cV.1 e with rfl|e;exact h;exact hl x e
theorem rI{a b}(h:eT a)(hl:eT b):eT (a++b):=λx e=>(zQ9.1 e).elim (h x) (hl x)
theorem JRp:eT tl:=by
 unfold tl
 repeat (first|exact pN|refine pT (by kernel_rfl) ?_)
theorem JS5:eT su:=by
 unfold su
 repeat (first|exact pN|refine pT (by kernel_rfl) ?_)
theorem JRr:eT ua:=by
 unfold ua
 repeat (first|exact pN|refine pT (by kernel_rfl) ?_)
theorem JRu:eT sv:=by
 unfold sv
 repeat (first|exact pN|refine pT (by kernel_rfl) ?_)
theorem JRn:eT th:=by
 unfold th
 repeat (first|exact pN|refine pT (by kernel_rfl) ?_)
theorem JRs:eT s9:=by
 unfold s9
 repeat (first|exact pN|refine pT (by kernel_rfl) ?_)
theorem JRH:eT r5:=by
 unfold r5
 repeat (first|exact pN|refine pT (by kernel_rfl) ?_)
theorem JRt:eT sw:=by
 unfold sw
 repeat (first|exact pN|refine pT (by kernel_rfl) ?_)
theorem JRl:eT te:=by
 unfold te
 repeat (first|exact pN|refine pT (by kernel_rfl) ?_)
theorem JRL:eT sg:=by
 unfold sg
 repeat (first|exact pN|refine pT (by kernel_rfl) ?_)
theorem JP6:eT vd:=by
 unfold vd
 repeat (first|exact pN|refine pT (by kernel_rfl) ?_)
theorem JPe:eT f0:=by
 unfold f0
 repeat (first|exact pN|refine pT (by kernel_rfl) ?_)
theorem Ma:eT fns:=rI JRp<|rI JS5<|rI JRr<|rI JRu<|rI JRn<|rI JRs<|rI JRH<|rI JRt<|rI JRl<|rI JRL<|rI JP6<|JPe
theorem Mg:VF fks:=by
 unfold fks
 repeat (first|exact JKK|refine JJh (by kernel_rfl) ?_)
def VH(l:List (FuncId×Prm)):Prop:= ∀x∈l,∀args blks r,x.2 args blks=some r->J6a Tryz.prog x.1 args blks r
theorem JJT:VH []:=λ_ h=>by cases h
theorem yo{f a l}(h: ∀args blks r,a args blks=some r->J6a Tryz.prog f args blks r)(hl:VH l):VH ((f,a)::l):=λx e=>by
 rcases cV.1 e with rfl|e;exact h;exact hl x e
theorem N3:VH fps:=yo JB8<|yo J9q<|JJT
theorem mixed:Tryz.prog.follows .mixedOrders=true:=by kernel_rfl
def OQ:PS:=λ_=>none
theorem UM:kJ Tryz.prog (AF (vB OQ)):=by
 refine Iq mixed (λf e h=>?_) (λf g h=>?_) (λf k h=>?_);rcases IX h with⟨x,h1,h2⟩|⟨x,h1,h2⟩|⟨x,h1,h2⟩|⟨x,h1,h2⟩;injection h2 with h2;subst h2;exact Ma _ (CP h1);cases h2;cases h2;cases h2;rcases IX h with⟨x,h1,h2⟩|⟨x,h1,h2⟩|⟨x,h1,h2⟩|⟨x,h1,h2⟩;cases h2;cases h2;injection h2 with h2;subst h2;exact N3 _ (CP h1);cases h1;rcases IX h with⟨x,h1,h2⟩|⟨x,h1,h2⟩|⟨x,h1,h2⟩|⟨x,h1,h2⟩;cases h2;injection h2 with h2;subst h2;exact Mg _ (CP h1);cases h2;cases h2
end Go.Proofs.YtckgllmahldikaaGreat
end
section
namespace Go.Am
theorem TZ{F:Orc}{f:FuncId}{g:Sig}{S:(tyL g.ti).D->Option (tyL g.to).D}{xs:List TA}{x:(tyL g.ti).D}{y:(tyL g.to).D}{v:TV}(he:EOk F (aH f g S))(hx:uS g xs []=some x)(j:S x=some y)
  (hv:HG g y=some (v,[])):F f (xs.map (bX (lns []))) []=some (aX (lns []) v,[]):=by
 have h:(aH f g S).go xs [] (λv out=>some (v,out))=some (v,([]:List (Bool×TB))):=by simp only[aH,hx,j,JE,hv];cases g.same<;>rfl
 obtain⟨v,out,h1,_,e⟩:=he.ok h;injection e with e;injection e with h4 h5;subst h4 h5;exact h1
open Go.RowKit
end Go.Am
end
section
namespace Go.Am
open Go.RowKit
structure Up(B:Nat)(w w':World):Prop where
 size:w.heap.size<=w'.heap.size
 block: ∀k,k<B->w'.heap[k]?=w.heap[k]?
 os:w'.os=w.os
 output:w'.output=w.output
theorem Up.refl(B:Nat)(w:World):Up B w w:=⟨zQ0 _,λ_ _=>rfl,rfl,rfl⟩
theorem Up.trans{B:Nat}{a b c:World}(h:Up B a b)(k:Up B b c):Up B a c:=
 ⟨zQ1 h.size k.size,λi hi=>(k.block i hi).trans (h.block i hi),k.os.trans h.os,k.output.trans h.output⟩
theorem Up.mono{B e:Nat}{a b:World}(h:Up B a b)(g:e<=B):Up e a b:=⟨h.size,λk j=>h.block k (Nat.lt_of_lt_of_le j g),h.os,h.output⟩
theorem Up.of_below{B:Nat}{a b:World}(h:Below B a b):Up B a b:=⟨h.size,h.block,h.os,h.output⟩
theorem Up.drew{B:Nat}{a b:World}(h:Up B a b):Up B a b.drew:=⟨h.size,h.block,h.os,h.output⟩
theorem Up.alloc{B:Nat}{a b:World}(h:Up B a b)(e:B<=b.heap.size)(o:Obj):Up B a (b.alloc o):=
 h.trans (.of_below ((Below.refl B b).alloc e o))
theorem Up.setCell{B:Nat}{a b:World}(h:Up B a b){p:Addr}(hp:B<=p.block)(u:Value):Up B a (b.setCell p u):=
 h.trans (.of_below ((Below.refl B b).setCell hp u))
theorem Up.cellAt{B:Nat}{a b:World}(h:Up B a b){r o:Nat}(hr:r<B):cellAt b r o=cellAt a r o:=by unfold Go.Am.cellAt;rw[h.block r hr]
theorem KF{w:World}{r o:Nat}{v:Value}(h:cellAt w r o=some v):r<w.heap.size:=by
 grind [cellAt]
theorem J08.keeps{w w':World}{C g:Nat->Nat->Prop}(hs: ∀r o u,C r o->cellAt w r o=some u->g r o/\cellAt w' r o=some u){x:PV}{v:Value}(h:J08 w C x v):J08 w' g x v:=by
 induction h with
 |b x=>exact .b x
 |i k n=>exact .i k n
 |s l=>exact .s l
 |np=>exact .np
 |nf=>exact .nf
 |sl0 e a c=>exact .sl0 e a c
 |sl esz rows r o cap vals h1 h2 q _ ih=>exact .sl esz rows r o cap vals h1 h2 (λi j row x hi y=>hs _ _ _ (q i j row x hi y).1 (q i j row x hi y).2) ih
 |slc esz rows a _ ih=>exact .slc esz rows a ih
theorem J08.up{w w':World}{C g:Nat->Nat->Prop}(hu:Up w.heap.size w w')(j: ∀r o,C r o->r<w.heap.size->g r o){x:PV}{v:Value}(h:J08 w C x v):J08 w' g x v:=
 h.keeps λr o u hc e=>⟨j r o hc (KF e),by rw[hu.cellAt (KF e)];exact e⟩
theorem JN6{g g':Gh}{w w':World}(t:bJ ⟨[],g,w⟩ ⟨[],g',w'⟩):Up w.heap.size w w':=by
 have n: ∀r o,¬Wr (⟨[],g,w⟩:Sn) r o:=λr o ⟨b,hb⟩=>by grind [Wr1]
 obtain⟨h1,h2,y,v,x⟩:=t.keep;refine⟨h1,λk q=>?_,v,x⟩;have j:w.heap[k]?=some w.heap[k]:=GQ q;cases e:w.heap[k]with
 |cells c t' fz=>rw[e]at j;obtain⟨c',B,A,z⟩:=h2 k c t' fz j;have:c'=c:=Array.ext_getElem? λi=>z i (n k i);simp_all
 |_=>rw[e]at j;show w'.heap[k]?=w.heap[k]?;rw[j];exact y k _ j (λ_ _ _ h=>by cases h)
def ghC(C:Nat->Nat->Prop)(w:World):Gh:=qI ⟨λ_=>none,λ_ _=>False⟩ λr o=>C r o/\r<w.heap.size
theorem JN8(C:Nat->Nat->Prop)(w:World):Inv ⟨[],ghC C w,w⟩:=
 ⟨λb cs h=>by simp at h,λb wm e r h=>by simp at h,λb1 b2 r o h=>by simp[Wr1]at h,λr o h=>by
  rcases h with h|h
  all_goals grind [Wr1]⟩
theorem J08.gh{w:World}{C:Nat->Nat->Prop}{x:PV}{v:Value}(h:J08 w C x v):J08 w (ghC C w).C x v:=
 h.keeps λr o u hc e=>⟨.inr ⟨hc,KF e⟩,e⟩
theorem WQ{P:Program}{f:FuncId}{args:List AV}{r:AV}{blks:List Blk}(h:J6a P f args [] (r,blks))(hb:blks=[]){w:World}(C:Nat->Nat->Prop){vals:Array Value}(hl:args.length=vals.size)
  (ha: ∀(i:Nat) x v,args[i]?=some x->vals[i]?=some v->JK ⟨[],ghC C w,w⟩ x v):
  Calls P f vals w λe w'=> ∃v g',e=.returned v/\Up w.heap.size w w'/\JK ⟨[],g',w'⟩ r v/\ ∀r o,g'.C r o->C r o\/w.heap.size<=r:=by
 subst hb;refine(h.2 (ghC C w) w vals (JN8 C w) hl ha).mono ?_;rintro e w' ⟨v,g',j,hi,t,g⟩;refine⟨v,g',j,JN6 t,g,λr o hc=>?_⟩;rcases t.cnew r o hc with h|⟨b,hb⟩|h
 ·rcases h with h|h
  all_goals simp_all
 all_goals grind [Wr1]
theorem JK7{σ:List Blk}{g:Gh}{w w':World}(hi:Inv ⟨σ,g,w⟩)(hb:Up w.heap.size w w')(p:Nat->Nat->Prop)(hp: ∀r o,p r o->w.heap.size<=r/\r<w'.heap.size):
  Inv ⟨σ,qI g p,w'⟩/\bJ ⟨σ,g,w⟩ ⟨σ,qI g p,w'⟩:=by
 have j: ∀(r:Nat) x,w.heap[r]?=some x->w'.heap[r]?=some x:=λr x h=>by rw[hb.block r (zO h)];exact h
 have hc: ∀r o v,cellAt w r o=some v->cellAt w' r o=some v:=λr o v h=>by rw[hb.cellAt (KF h)];exact h
 have t:bJ ⟨σ,g,w⟩ ⟨σ,qI g p,w'⟩:=by
  refine⟨⟨hb.size,λr c e fz h=>⟨c,j r _ h,rfl,λ_ _=>rfl⟩,λr x h _=>j r x h,hb.os,hb.output⟩,λ_ _ h=>.inl h,λr o h=>?_,λr o ⟨b,hb⟩=>.inl ⟨b,hb⟩,zQ0 _,λ_ cs h=>⟨⟨cs,h,rfl⟩,rfl⟩,
   λ_ wm _ rows h=>⟨wm,rows,h,id,zQ0 _,λ_=>rfl⟩⟩
  rcases h with h|h
  all_goals grind
 refine⟨nQ hi t (λ_=>False) (λ_ _=>⟨rfl,rfl⟩) (λ_ r o v _ _ h=>hc r o v h) (λ_ _ h=>h.elim) (λ_ _ _ _ h=>h.elim)
  (λ_ _ _ _ h=>h.elim) ?_ (λ_ _ _ _ h=>h.elim) ?_,t⟩
 intro r o hc;rcases hc with hc|hc;exact Nat.lt_of_lt_of_le (hi.const r o hc).1 hb.size;grind;intro r o b hc k _ h;rcases hc with hc|hc;exact k hc;have h1:r<w.heap.size:=yE hi b r o h;grind
end Go.Am
end
section
namespace Go.Proofs.YtckgllmahldikaaGreat
open Go.Shelf Go.RowKit Go.Lib Go.Am Go.Proofs
abbrev ceT(x:ET):List PV:=cel J3 x
theorem Oq{w:World}{C:Nat->Nat->Prop}(f:ET)(j:Nat)(x:PV)(hx:(ceT f)[j]?=some x): ∃u,(enT f)[j]?=some u/\J08 w C x u/\ ∀v,J08 w C x v->v=u:=by
 match j with
 |0=>injection hx with hx;subst hx;exact⟨_,rfl,.i _ _,λv h=>by cases h;rfl⟩
 |1=>injection hx with hx;subst hx;exact⟨_,rfl,.i _ _,λv h=>by cases h;rfl⟩
 |2=>injection hx with hx;subst hx;exact⟨_,rfl,.i _ _,λv h=>by cases h;rfl⟩
 |3=>injection hx with hx;subst hx;exact⟨_,rfl,.i _ _,λv h=>by cases h;rfl⟩
 |4=>injection hx with hx;subst hx;exact⟨_,rfl,.i _ _,λv h=>by cases h;rfl⟩
 |5=>injection hx with hx;subst hx;exact⟨_,rfl,.i _ _,λv h=>by cases h;rfl⟩
 |6=>injection hx with hx;subst hx;exact⟨_,rfl,.i _ _,λv h=>by cases h;rfl⟩
 |7=>injection hx with hx;subst hx;exact⟨_,rfl,.i _ _,λv h=>by cases h;rfl⟩
 |8=>injection hx with hx;subst hx;exact⟨_,rfl,.b _,λv h=>by cases h;rfl⟩
 |9=>injection hx with hx;subst hx;exact⟨_,rfl,.s _,λv h=>by cases h;rfl⟩
 |10=>injection hx with hx;subst hx;exact⟨_,rfl,.b _,λv h=>by cases h;rfl⟩
 |11=>injection hx with hx;subst hx;exact⟨_,rfl,.s _,λv h=>by cases h;rfl⟩
 |12=>injection hx with hx;subst hx;exact⟨_,rfl,.s _,λv h=>by cases h;rfl⟩
 |j+13=>simp[ceT,cel,J3,gO,JO]at hx
theorem JMb{w:World}{C:Nat->Nat->Prop}{es:List ET}{v:Value}(h:J08 w C (.sl 13 (es.map ceT)) v):
  ∃a c,v=.slice a es.length c/\ ∀(i:Nat) x,es[i]?=some x-> ∃r o,a=some ⟨r,o,none⟩/\r<w.heap.size/\ ∀(j:Nat) u,(enT x)[j]?=some u->w.cell? ⟨r,o+i*13+j,none⟩=some u:=by
 generalize hR:es.map ceT=R at h;cases h with
 |sl0 _ a c=>
  have:es=[]:=by simpa using hR
  subst this;exact⟨a,c,rfl,λi x q=>by simp at q⟩
 |sl _ _ r o cap vals h1 h2 D A=>
  subst hR;refine⟨_,cap,by rw[eQ],λi x q=>⟨r,o,rfl,?_⟩⟩;have cell: ∀(k:Nat) u,(enT x)[k]?=some u->w.cell? ⟨r,o+i*13+k,none⟩=some u:=by
   intro k u z;have e:(es.map ceT)[i]?=some (ceT x):=by rw[iB,q];rfl
   have y:k<(ceT x).length:=(dS.1 z).1;have n:=bC y;obtain⟨E,g,_,B⟩:=Oq (w:=w) (C:=C) x k _ n;rw[z]at g;injection g with g;subst g;rw[vY,(D i k _ _ e n).2,B _ (A i k _ _ e n)]
  exact⟨block_lt_of_cell (cell 0 _ rfl),cell⟩
abbrev RT:=Int×Int×Int×Int×Int×List ET
theorem L5(x:RT):cel eD x=[.i .i64 x.1,.i .i64 x.2.1,.i .i64 x.2.2.1,.i .i64 x.2.2.2.1,.i .i64 x.2.2.2.2.1,.sl 13 (x.2.2.2.2.2.map ceT)]:=rfl
def kW(x:RT)(v:Value):Value:=.agg #[.int .i64 x.1,.int .i64 x.2.1,.int .i64 x.2.2.1,.int .i64 x.2.2.2.1,.int .i64 x.2.2.2.2.1,v]
theorem JQj{s:Sn}{x:RT}{v:Value}(h:JK s (.data (cel eD x)) v): ∃vs,v=kW x vs/\J08 s.w s.g.C (.sl 13 (x.2.2.2.2.2.map ceT)) vs:=by
 rw[L5]at h;cases h with
 |data _ vs hl e=>
  obtain⟨l⟩:=vs
  match l,hl with
  |[v0,v1,v2,v3,v4,v5],_=>have r:=e 0 _ _ rfl rfl;have q:=e 1 _ _ rfl rfl;have o:=e 2 _ _ rfl rfl;have k:=e 3 _ _ rfl rfl;have j:=e 4 _ _ rfl rfl;have n:=e 5 _ _ rfl rfl;cases r;cases q;cases o;cases k;cases j;exact⟨v5,rfl,n⟩
theorem Kt{s:Sn}{x:RT}{vs:Value}(h:J08 s.w s.g.C (.sl 13 (x.2.2.2.2.2.map ceT)) vs):JK s (.data (cel eD x)) (kW x vs):=by
 rw[L5];refine .data _ _ rfl λi y u e j=>?_
 match i with
 |0=>injection e with e;injection j with j;subst e j;exact .i _ _
 |1=>injection e with e;injection j with j;subst e j;exact .i _ _
 |2=>injection e with e;injection j with j;subst e j;exact .i _ _
 |3=>injection e with e;injection j with j;subst e j;exact .i _ _
 |4=>injection e with e;injection j with j;subst e j;exact .i _ _
 |5=>injection e with e;injection j with j;subst e j;exact h
 |i+6=>simp at e
theorem JLG(x:RT)(b:Bool)(n:jQ x=some b)(C:Nat->Nat->Prop)(w:World)(vs:Value)(h:J08 w C (.sl 13 (x.2.2.2.2.2.map ceT)) vs):
  Calls Tryz.prog 92 #[kW x vs] w λen w'=>en=.returned (.bool b)/\Up w.heap.size w w':=by
 have run:=TZ (Bp OQ).1 (xs:=[.dt eD x]) (x:=x) rfl n (v:=.a (.c (.d .b b))) rfl;refine(WQ (UM _ _ _ _ run) rfl (w:=w) C (vals:= #[kW x vs]) rfl (λi a u g e=>?_)).mono ?_
 match i with
 |0=>injection g with g;injection e with e;subst g e;exact Kt (s:=⟨[],ghC C w,w⟩) (h.keeps λr o u hc k=>⟨.inr ⟨hc,KF k⟩,k⟩)
 |i+1=>simp at g
 rintro en w' ⟨u,g',rfl,e,j,_⟩;cases j with
 |p _ _ j=>cases j;exact⟨rfl,e⟩
theorem JNY(x:RT)(l:List UInt8)(n:zP x=some l)(C:Nat->Nat->Prop)(w:World)(vs:Value)(h:J08 w C (.sl 13 (x.2.2.2.2.2.map ceT)) vs):
  Calls Tryz.prog 102 #[kW x vs] w λen w'=>en=.returned (.string ⟨l.toArray⟩)/\Up w.heap.size w w':=by
 have run:=TZ (Au OQ).1 (xs:=[.dt eD x]) (x:=x) rfl n (v:=.a (.c (.d .s l))) rfl;refine(WQ (UM _ _ _ _ run) rfl (w:=w) C (vals:= #[kW x vs]) rfl (λi a u g e=>?_)).mono ?_
 match i with
 |0=>injection g with g;injection e with e;subst g e;exact Kt (s:=⟨[],ghC C w,w⟩) (h.keeps λr o u hc k=>⟨.inr ⟨hc,KF k⟩,k⟩)
 |i+1=>simp at g
 rintro en w' ⟨u,g',rfl,e,j,_⟩;cases j with
 |p _ _ j=>cases j;exact⟨rfl,e⟩
theorem xp(l r:List UInt8)(j:mR l=some r)(w:World):Calls Tryz.prog 101 #[.string ⟨l.toArray⟩] w λen w'=>en=.returned (.string ⟨r.toArray⟩)/\Up w.heap.size w w':=by
 have run:=TZ (C4 OQ).1 (xs:=[.c (.d .s l)]) (x:=l) rfl j (v:=.a (.c (.d .s r))) rfl;refine(WQ (UM _ _ _ _ run) rfl (w:=w) (λ_ _=>False) (vals:= #[.string ⟨l.toArray⟩]) rfl (λi a u g e=>?_)).mono ?_
 match i with
 |0=>injection g with g;injection e with e;subst g e;exact .p _ _ (.s _)
 |i+1=>simp at g
 rintro en w' ⟨u,g',rfl,e,h,_⟩;cases h with
 |p _ _ h=>cases h;exact⟨rfl,e⟩
theorem JLK(x:ET)(y:List UInt8×Int)(r:oC x=some y)(w:World):Calls Tryz.prog 103 #[.agg (enT x).toArray] w λen w'=>en=.returned (.tuple #[.string ⟨y.1.toArray⟩,.int .i64 y.2])/\Up w.heap.size w w':=by
 have run:=TZ (Du OQ).1 (xs:=[.dt J3 x]) (x:=x) rfl r (v:=.tup [.c (.d .s y.1),.c (.d (.i .i64) y.2)]) rfl;refine(WQ (UM _ _ _ _ run) rfl (w:=w) (λ_ _=>False) (vals:= #[.agg (enT x).toArray]) rfl (λi a u k e=>?_)).mono ?_
 match i with
 |0=>
  injection k with k;injection e with e;subst k e;refine .data _ _ rfl λj z v B q=>?_;obtain⟨D,h,A,_⟩:=Oq (w:=w) (C:=(ghC (λ_ _=>False) w).C) x j z B;have q:(enT x)[j]?=some v:=by simpa using q
  rw[q]at h;injection h with h;subst h;exact A
 |i+1=>simp at k
 rintro en w' ⟨u,g',rfl,e,g,_⟩;cases g with
 |tup _ vs hl g=>
  obtain⟨l⟩:=vs
  match l,hl with
  |[v0,v1],_=>have o:=g 0 _ _ rfl rfl;have n:=g 1 _ _ rfl rfl;cases o with|p _ _ o=>cases n with|p _ _ n=>cases o;cases n;exact⟨rfl,e⟩
theorem En.bad(x:RT)(w:World)(vs:Value)(hv: ∀W,Up w.heap.size w W->Calls Tryz.prog 92 #[kW x vs] W λen W'=>en=.returned (.bool false)/\Up W.heap.size W W'):
  Calls Tryz.prog 51 #[kW x vs] w λen w'=>en=.returned (.tuple #[.string ⟨#[]⟩,.int .i64 40])/\Up w.heap.size w w':=by
 unfold kW at hv⊢
 go_enter Tryz.func51,Tryz.ntmps51
 go_wp2_with (go_at_call 92;refine(hv _ ((Up.refl _ w).alloc (zQ0 _) _)).mono ?_;rintro e W ⟨rfl,k⟩)
 go_ret2
 exact⟨rfl,((Up.refl _ w).alloc (zQ0 _) _).trans (k.mono (by simp))⟩
theorem JOE{T e:TypeId}{B b:Nat}{bs:List Value}{w w':World}(h:Lib.IsBuilder T e B b bs w)(k:Up w.heap.size w w'):Lib.IsBuilder T e B b bs w':=by
 have j: ∀p,Lib.BuilderAt T e B b p bs w->Lib.BuilderAt T e B b p bs w':=(by rintro p ⟨x,v,hb,⟨hl,n⟩,o⟩;refine⟨x,v,?_,⟨hl,?_⟩,o⟩;rw[k.block b (zO hb)];exact hb;rcases n with n|⟨g,cap,q,h1,h2,r,y⟩;exact .inl n;exact .inr ⟨g,cap,q,h1,h2,by rw[k.block g (zO r)];exact r,y⟩);rcases h with h|h;exact .inl (j _ h);exact .inr (j _ h)
theorem Mu{out f:List UInt8}(h:out.length+f.length<=140737488355328):(Lib.byteCells out).length+(⟨f.toArray⟩:ByteArray).size<=140737488355328:=by rw[Lib.size_eq,Lib.byteCells_length];simpa using h
structure EnW(w W:World)(B:Nat)(x0 X x2 x3 x4:Int)(v:Value)(out:List UInt8)(W':World):Prop where
 box:W'.heap[w.heap.size]?=some (.cells #[.int .i64 x0,.int .i64 X,.int .i64 x2,.int .i64 x3,.int .i64 x4,v] 83 (0,0))
 up:Up w.heap.size w W'
 bd:Lib.IsBuilder 160 5 B B (Lib.byteCells out) W'
 lt:w.heap.size<B
 le:B<W'.heap.size
section
variable {w W W':World} {B:Nat} {x0 X x2 x3 x4:Int} {v:Value} {out:List UInt8} (E:EnW w W B x0 X x2 x3 x4 v out W')
include E
theorem EnW.c0:W'.cell? ⟨w.heap.size,0,none⟩=some (.int .i64 x0):=by simp[World.cell?,E.box]
theorem EnW.c1:W'.cell? ⟨w.heap.size,1,none⟩=some (.int .i64 X):=by simp[World.cell?,E.box]
theorem EnW.c2:W'.cell? ⟨w.heap.size,2,none⟩=some (.int .i64 x2):=by simp[World.cell?,E.box]
theorem EnW.c3:W'.cell? ⟨w.heap.size,3,none⟩=some (.int .i64 x3):=by simp[World.cell?,E.box]
theorem EnW.c4:W'.cell? ⟨w.heap.size,4,none⟩=some (.int .i64 x4):=by simp[World.cell?,E.box]
theorem EnW.c5:W'.cell? ⟨w.heap.size,5,none⟩=some v:=by simp[World.cell?,E.box]
theorem EnW.trans{e:World}(k:Up W'.heap.size W' e):EnW w W B x0 X x2 x3 x4 v out e:=
 ⟨(k.block _ (Nat.lt_trans E.lt E.le)).trans E.box,E.up.trans (k.mono E.up.size),JOE E.bd k,E.lt,Nat.lt_of_lt_of_le E.le k.size⟩
theorem EnW.write{g:World}{e:List UInt8}(k:Below B W' g)(hb:Lib.IsBuilder 160 5 B B (Lib.byteCells e) g):EnW w W B x0 X x2 x3 x4 v e g:=
 ⟨(k.block _ E.lt).trans E.box,E.up.trans ((Up.of_below k).mono (Nat.le_of_lt E.lt)),hb,E.lt,Nat.lt_of_lt_of_le E.le k.size⟩
theorem EnW.push{e:World}{f:List UInt8}(k:Below B W' e)(hb:Lib.BuilderAt 160 5 B B (.pointer (some ⟨B,0,none⟩)) (Lib.byteCells out++Lib.strCells ⟨f.toArray⟩) e):EnW w W B x0 X x2 x3 x4 v (out++f) e:=
 E.write k (by rw[Lib.strCells_eq,<-Lib.byteCells_append]at hb;exact .inr hb)
end
theorem En.good(x:RT)(w:World)(a:Option Addr)(c:Nat)(g: ∀(i:Nat) e,x.2.2.2.2.2[i]?=some e-> ∃r o,a=some ⟨r,o,none⟩/\r<w.heap.size/\ ∀(j:Nat) u,(enT e)[j]?=some u->w.cell? ⟨r,o+i*13+j,none⟩=some u)
  (hlen:x.2.2.2.2.2.length<=4096) {h f:List UInt8} {y:List UInt8×Int} (hf:mR h=some f) (a6:f.length<=140737488355328) (he:sE mR oC 40 x.2.2.2.2.2 f=some y)
  (hv: ∀W,Up w.heap.size w W->Calls Tryz.prog 92 #[kW x (.slice a x.2.2.2.2.2.length c)] W λen W'=>en=.returned (.bool true)/\Up W.heap.size W W')
  (hh: ∀W,Up w.heap.size w W->Calls Tryz.prog 102 #[kW x (.slice a x.2.2.2.2.2.length c)] W λen W'=>en=.returned (.string ⟨h.toArray⟩)/\Up W.heap.size W W'):
  Calls Tryz.prog 51 #[kW x (.slice a x.2.2.2.2.2.length c)] w λen w'=>en=.returned (.tuple #[.string ⟨y.1.toArray⟩,.int .i64 y.2])/\Up w.heap.size w w':=by
 obtain⟨x0,X,x2,x3,x4,es⟩:=x;unfold kW at hv hh⊢;dsimp only at hv hh g hlen he⊢;have T:Up w.heap.size w (w.alloc (.cells #[.int .i64 x0,.int .i64 X,.int .i64 x2,.int .i64 x3,.int .i64 x4,.slice a es.length c] 83)):=(Up.refl _ w).alloc (zQ0 _) _;have M:=World.alloc_heap_new w (.cells #[.int .i64 x0,.int .i64 X,.int .i64 x2,.int .i64 x3,.int .i64 x4,.slice a es.length c] 83);have L:(w.alloc (.cells #[.int .i64 x0,.int .i64 X,.int .i64 x2,.int .i64 x3,.int .i64 x4,.slice a es.length c] 83)).heap.size=w.heap.size+1:=by simp
 have F1: ∀W,Up (w.alloc (.cells #[.int .i64 x0,.int .i64 X,.int .i64 x2,.int .i64 x3,.int .i64 x4,.slice a es.length c] 83)).heap.size (w.alloc (.cells #[.int .i64 x0,.int .i64 X,.int .i64 x2,.int .i64 x3,.int .i64 x4,.slice a es.length c] 83)) W->EnW w W W.heap.size x0 X x2 x3 x4 (.slice a es.length c) [] (W.alloc (.cells #[.pointer none,.slice none 0 0] 160)):=λW k=>by rw[L]at k;have h1:=k.size;exact⟨(Below.heap_alloc W _ _ (by omega)).trans ((k.block _ (by omega)).trans M),(T.trans (k.mono (by omega))).alloc (by omega) _,Lib.fresh_isBuilder 160 5 W,by omega,by simp⟩
 go_enter Tryz.func51,Tryz.ntmps51
 go_wp2_with (first
  |(go_at_call 92;refine(hv _ T).mono ?_;rintro e W ⟨rfl,k⟩;have E:=F1 W k;have q0:=E.c0;have q1:=E.c1;have q2:=E.c2;have q3:=E.c3;have q4:=E.c4;have q5:=E.c5)
  |(go_at_call 102;refine(hh _ E.up).mono ?_;rintro e W2 ⟨rfl,k2⟩;have E2:=E.trans k2)
  |(go_at_call 101;refine(xp _ _ hf _).mono ?_;rintro e W3 ⟨rfl,k3⟩;have I:=E2.trans k3)
  |(go_at_call 100;refine(Tryz.WriteString W.heap.size W.heap.size (Lib.byteCells []) ⟨f.toArray⟩ _ I.bd (Mu (out:=[]) (by simpa using a6)) (Nat.le_of_lt I.le)).mono ?_;rintro e W4 ⟨rfl,q,k4⟩;have H:=I.push k4 q;have q6:=H.c5))
 generalize W.heap.size=B at H⊢;clear E E2 I k k2 k3 k4 q q0 q1 q2 q3 q4 q5 F1 L T M hh hv;have HH:Hid (EnW w W B x0 X x2 x3 x4 (.slice a es.length c) ([]++f) W4):=H;have HE:Hid (sE mR oC 40 es f=some y):=he;clear H he
 go_wp2
 go_loopw [19] (λi wr=> ∃(j:Nat) (out:List UInt8),j<=es.length/\i=.int .i64 j/\sE mR oC 40 (es.drop j) out=some y/\EnW w W B x0 X x2 x3 x4 (.slice a es.length c) out wr)
  (λi _=>es.length-(Go.RowKit.intOf i).toNat)
 case atStart=>exact⟨0,f,zQ2 _,rfl,by rw[GN];exact HE.out,HH.out⟩
 case round=>
  obtain⟨j,out,hj,rfl,he,E⟩:=hrel;by_cases v:j<es.length
  ·obtain⟨⟨Z,e1,e2,e3,U,R,⟨P,O,⟨Y,S⟩,C,F⟩,D⟩,G⟩: ∃e,es[j]?=some e:=⟨_,bC v⟩;obtain⟨r,o,rfl,hr,hc⟩:=g j _ G;have cell: ∀(k:Nat) u,(enT (Z,e1,e2,e3,U,R,(P,O,(Y,S),C,F),D))[k]?=some u->wr.cell? ⟨r,o+j*13+k,none⟩=some u:=λk u hk=>by rw[World.cell?_of_block (E.up.block r hr)];exact hc k u hk
   have t0:=cell 0 _ rfl;have t1:=cell 1 _ rfl;have t2:=cell 2 _ rfl;have t3:=cell 3 _ rfl;have t4:=cell 4 _ rfl;have t5:=cell 5 _ rfl;have t6:=cell 6 _ rfl;have t7:=cell 7 _ rfl;have t8:=cell 8 _ rfl;have t9:=cell 9 _ rfl;have b2:=cell 10 _ rfl;have az:=cell 11 _ rfl;have b4:=cell 12 _ rfl;rw[xN]at t0;have hd:es.drop j=(Z,e1,e2,e3,U,R,(P,O,(Y,S),C,F),D)::es.drop (j+1):=by rw[List.drop_eq_getElem_cons v,(dS.1 G).2]
   rw[hd]at he;unfold sE at he;obtain⟨b,hb,he⟩:=bQ.1 he;have n: ∀W,Calls Tryz.prog 103 #[.agg #[.int .i64 Z,.int .i64 e1,.int .i64 e2,.int .i64 e3,.int .i64 U,.int .i64 R,.int .i64 P,.int .i64 O,.bool Y,.string ⟨S.toArray⟩,.bool C,.string ⟨F.toArray⟩,.string ⟨D.toArray⟩]] W λen w'=>en=.returned (.tuple #[.string ⟨b.1.toArray⟩,.int .i64 b.2])/\Up W.heap.size W w':=λW=>JLK _ b hb W;have HN:Hid (EnW w W B x0 X x2 x3 x4 (.slice (some ⟨r,o,none⟩) es.length c) out wr):=E;have b3:(0:Int)<=(j:Int):=Int.natCast_nonneg _;have ay:(j:Int)<(es.length:Int):=by omega
   have EA: ∀Q,EnW w W B x0 X x2 x3 x4 (.slice (some ⟨r,o,none⟩) es.length c) out (wr.alloc Q):=λQ=>E.trans ((Up.refl _ wr).alloc (zQ0 _) Q);clear cell g G hd hc hb E;obtain⟨b0,b1⟩:=b;by_cases hz:b1=0
   ·subst hz;rw[if_pos rfl]at he;obtain⟨z,K,he⟩:=bQ.1 he;split at he
    case isFalse=>cases he
    rename_i J;have HF:Hid (mR b0=some z):=K;have HS:Hid (out.length+z.length<=140737488355328):=J;have aa:Hid (sE mR oC 40 (es.drop (j+1)) (out++z)=some y):=he;clear K J he
    go_wp2_with (first
     |(go_at_call 103;refine(n _).mono ?_;rintro e W5 ⟨rfl,A⟩;have V:=(EA _).trans A)
     |(go_at_call 101;refine(xp _ _ HF.out _).mono ?_;rintro e W6 ⟨rfl,k6⟩;have N:=V.trans k6)
     |(go_at_call 100;refine(Tryz.WriteString B B (Lib.byteCells out) ⟨z.toArray⟩ _ N.bd (Mu HS.out) (Nat.le_of_lt N.le)).mono ?_;rintro e W7 ⟨rfl,q,k7⟩;have E7:=N.push k7 q))
    exact⟨⟨j+1,out++z,v,by simp,aa.out,E7⟩,by simp[Go.RowKit.intOf];omega⟩
   ·rw[if_neg hz]at he;injection he with he;subst he
    go_wp2_with (go_at_call 103;refine(n _).mono ?_;rintro e W5 ⟨rfl,A⟩;have V:=(EA _).trans A)
    go_ret2
    exact⟨rfl,V.up⟩
  ·have ab:j=es.length:=by omega
   subst ab;rw[List.drop_length]at he;unfold sE at he;injection he with he;subst he
   go_wp2_with (go_at_call 104;refine(Tryz.String B B out wr E.bd (Nat.le_of_lt E.le)).mono ?_;rintro e W5 ⟨rfl,A⟩)
   go_ret2
   exact⟨rfl,E.up.trans ((Up.of_below A).mono (Nat.le_of_lt E.lt))⟩
theorem JPK{x:RT}(h:jQ x=some true):x.2.2.2.2.2.length<=4096:=by
 unfold jQ at h;obtain⟨b,_,h⟩:=bQ.1 h;split at h;split at h;simp at h;rename_i e;have e: ¬decide (((x.2.2.2.2.2.length:Nat):Int)>4096)=true:=e;simp only[decide_eq_true_eq]at e;omega;simp at h
theorem Xn: ∀args blks r,AU eD EK args blks=some r->J6a Tryz.prog 51 args blks r:=JO4 λx y blks D=>
 ⟨⟨Tryz.f51,Tryz.func51,by kernel_rfl,by kernel_rfl⟩,λg w vals hi hl j=>by
  obtain⟨B,rfl⟩: ∃B,vals= #[B]:=by
   obtain⟨l⟩:=vals
   match l,hl with
   |[v],_=>exact⟨v,rfl⟩
  obtain⟨vs,rfl,q⟩:=JQj (x:=x) (j 0 _ _ rfl rfl);have fin: ∀{w':World},Up w.heap.size w w'-> ∃v g',(Ending.returned (.tuple #[.string ⟨y.1.toArray⟩,.int .i64 y.2]))=.returned v/\Inv ⟨blks,g',w'⟩/\bJ ⟨blks,g,w⟩ ⟨blks,g',w'⟩/\JK ⟨blks,g',w'⟩ (.tup [.p (.s y.1),.p (.i .i64 y.2)]) v:=fun{w'} k=>by
   obtain⟨h1,h2⟩:=JK7 hi k (λ_ _=>False) (λ_ _ h=>h.elim);refine⟨_,_,rfl,h1,h2,.tup _ _ rfl λi a b j hb=>?_⟩
   match i with
   |0=>injection j with j;injection hb with hb;subst j hb;exact .p _ _ (.s _)
   |1=>injection j with j;injection hb with hb;subst j hb;exact .p _ _ (.i _ _)
   |i+2=>simp at j
  have e:ML jQ zP mR oC (λx=>x.2.2.2.2.2) x=some y:=D;unfold ML at e;obtain⟨b,hb,e⟩:=bQ.1 e;have A: ∀W,Up w.heap.size w W->Calls Tryz.prog 92 #[kW x vs] W λen W'=>en=.returned (.bool b)/\Up W.heap.size W W':=λW o=>JLG x b hb g.C W vs (q.up o λ_ _ h _=>h);cases b with
  |false=>rw[if_neg (by decide)]at e;injection e with e;subst e;refine(En.bad x w vs A).mono ?_;rintro en w' ⟨rfl,k⟩;exact fin k
  |true=>
   rw[if_pos rfl]at e;obtain⟨h,E,e⟩:=bQ.1 e;obtain⟨f,hf,e⟩:=bQ.1 e;split at e;rename_i z;have hd: ∀W,Up w.heap.size w W->Calls Tryz.prog 102 #[kW x vs] W λen W'=>en=.returned (.string ⟨h.toArray⟩)/\Up W.heap.size W W':=λW o=>JNY x h E g.C W vs (q.up o λ_ _ h _=>h);obtain⟨a,c,rfl,n⟩:=JMb q;refine(En.good x w a c n (JPK hb) hf z e A hd).mono ?_;rintro en w' ⟨rfl,k⟩;exact fin k;cases e⟩
theorem JQW:kJ Tryz.prog (AF (vB BM)):=by
 refine Iq mixed (λf e h=>?_) (λf g h=>?_) (λf k h=>?_);rcases IX h with⟨x,h1,h2⟩|⟨x,h1,h2⟩|⟨x,h1,h2⟩|⟨x,h1,h2⟩;injection h2 with h2;subst h2;exact Ma _ (CP h1);cases h2;cases h2;cases h2;rcases IX h with⟨x,h1,h2⟩|⟨x,h1,h2⟩|⟨x,h1,h2⟩|⟨x,h1,h2⟩;cases h2;cases h2;injection h2 with h2;subst h2;exact N3 _ (CP h1);injection h2 with h2;subst h2;unfold BM at h1;split at h1;rename_i hf;injection h1 with h1;subst h1;subst hf;exact Xn;cases h1;rcases IX h with⟨x,h1,h2⟩|⟨x,h1,h2⟩|⟨x,h1,h2⟩|⟨x,h1,h2⟩;cases h2;injection h2 with h2;subst h2;exact Mg _ (CP h1);cases h2;cases h2
end Go.Proofs.YtckgllmahldikaaGreat
end
