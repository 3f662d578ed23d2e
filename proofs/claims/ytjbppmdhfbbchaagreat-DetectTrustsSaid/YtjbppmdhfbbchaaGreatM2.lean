/-
  Parts of a proof.
-/
import Derived.Orders
import Derived.LoopN
import Derived.Scope
import Derived.Below
import Derived.Test.YtjbppmdhfbbchaaGreatM1
set_option linter.unusedSimpArgs false
set_option linter.unusedVariables false
section
namespace Go.Am
theorem J0u.weaken{w:World}{C e:Nat->Nat->Prop}(h: ∀r o,C r o->e r o){x v}(hr:J0u w C x v):J0u w e x v:=by
 induction hr with
 |b x=>exact .b x
 |i k n=>exact .i k n
 |s l=>exact .s l
 |np=>exact .np
 |nf=>exact .nf
 |sl0 esz a cap=>exact .sl0 esz a cap
 |sl esz rows r o cap vals h1 h2 h3 _ ih=>exact .sl esz rows r o cap vals h1 h2 (λi j row x hr hx=>⟨h _ _ (h3 i j row x hr hx).1,(h3 i j row x hr hx).2⟩) ih
 |slc esz rows a _ ih=>exact .slc esz rows a ih
theorem JKp{s c:Sn}(hi:Inv s)(hw:c.w=s.w)(q: ∀k cs,c.σ[k]?=some (.box cs)->JDn c k cs)(v: ∀k wm esz rows,c.σ[k]?=some (.arr wm esz rows)->JDA c k wm esz rows)
  (id:Nat->Nat) (x: ∀e j,e<c.σ.length->j<c.σ.length->id e=id j->e=j) (y: ∀k r o,Wr1 c k r o->Wr1 s (id k) r o)
  (z: ∀r o,c.g.C r o->r<s.w.heap.size/\ ∀k,¬Wr1 c k r o):Inv c:=by
 have n: ∀k r o,Wr1 c k r o->k<c.σ.length:=by
  intro k r o h;unfold Wr1 at h;cases hk:c.σ[k]? with
  |none=>rw[hk]at h;exact h.elim
  |some b=>exact Ji hk
 exact⟨q,v,λe j r o h1 h2=>x e j (n _ _ _ h1) (n _ _ _ h2) (hi.apart _ _ _ _ (y _ _ _ h1) (y _ _ _ h2)),λr o h=>by rw[hw];exact z r o h⟩
theorem J6w{m ids sto}: ∀{xs e:List AV},fin.finL m ids sto xs=some e->xs.length=e.length/\ ∀(i:Nat) x y,xs[i]?=some x->e[i]?=some y->fin m ids sto x=some y
 |[],e,h=>by simp[fin.finL]at h;subst h;exact⟨rfl,λi x y h=>by simp at h⟩
 |x::xs,e,h=>by
  simp only[fin.finL]at h;split at h
  ·rename_i y l hy hl;injection h with h;subst h;obtain⟨h1,h2⟩:=J6w hl;refine⟨by simp[h1],λi a b ha hb=>?_⟩;cases i with
   |zero=>simp at ha hb;subst ha hb;exact hy
   |succ i=>exact h2 i a b (by simpa using ha) (by simpa using hb)
  ·cases h
theorem Jf8{m ids sto}: ∀{xs e:List Blk},Jdu m ids sto xs=some e->xs.length=e.length/\ ∀(i:Nat) x y,xs[i]?=some x->e[i]?=some y->J5q m ids sto x=some y
 |[],e,h=>by simp[Jdu]at h;subst h;exact⟨rfl,λi x y h=>by simp at h⟩
 |x::xs,e,h=>by
  simp only[Jdu]at h;split at h
  ·rename_i y l hy hl;injection h with h;subst h;obtain⟨h1,h2⟩:=Jf8 hl;refine⟨by simp[h1],λi a b ha hb=>?_⟩;cases i with
   |zero=>simp at ha hb;subst ha hb;exact hy
   |succ i=>exact h2 i a b (by simpa using ha) (by simpa using hb)
  ·cases h
theorem Jwc{sto}: ∀{ids:List Nat} {e:List Blk},Jh8 sto ids=some e->ids.length=e.length/\ ∀(i:Nat) b y,ids[i]?=some b->e[i]?=some y->sto[b]?=some y
 |[],e,h=>by simp[Jh8]at h;subst h;exact⟨rfl,λi x y h=>by simp at h⟩
 |x::xs,e,h=>by
  simp only[Jh8]at h;split at h
  ·rename_i y l hy hl;injection h with h;subst h;obtain⟨h1,h2⟩:=Jwc hl;refine⟨by simp[h1],λi a b ha hb=>?_⟩;cases i with
   |zero=>simp at ha hb;subst ha hb;exact hy
   |succ i=>exact h2 i a b (by simpa using ha) (by simpa using hb)
  ·cases h
theorem JgW{b:Nat}: ∀{ids:List Nat} {k j:Nat},J4T b ids k=some j->k<=j/\ids[j-k]?=some b
 |[],k,j,h=>by simp[J4T]at h
 |x::r,k,j,h=>by
  simp only[J4T]at h;split at h
  ·rename_i hx;injection h with h;subst h;exact⟨zQ0 _,by simp[hx]⟩
  ·obtain⟨h1,h2⟩:=JgW h;refine⟨by omega,?_⟩;rw[show j-k=(j-(k+1))+1 by omega];simpa using h2
theorem JAl{b:Nat}: ∀{ids:List Nat} {k:Nat},J4T b ids k=none->b∉ids
 |[],_,_=>by simp
 |x::r,k,h=>by
  simp only[J4T]at h;split at h
  ·cases h
  ·rename_i hx;simp only[J3i,not_or];exact⟨λe=>hx e.symm,JAl h⟩
theorem JeZ: ∀{l:List Nat},J4Z l=true->l.Nodup
 |[],_=>List.nodup_nil
 |x::r,h=>by
  simp only[J4Z,J02,Jzs]at h;refine List.nodup_cons.2 ⟨?_,JeZ h.2⟩;intro hm;have:r.contains x=true:=by simpa using hm
  rw[this]at h;cases h.1
theorem Jh9{α:Type}: ∀{l:List α},l.Nodup-> ∀{i j:Nat} {x:α},l[i]?=some x->l[j]?=some x->i=j
 |[],_,i,j,x,h,_=>by simp at h
 |y::l,h,i,j,x,h1,h2=>by
  obtain⟨hn,hl⟩:=List.nodup_cons.1 h;cases i with
  |zero=>
   cases j with
   |zero=>rfl
   |succ j=>simp at h1 h2;subst h1;exact absurd (J0F h2) hn
  |succ i=>
   cases j with
   |zero=>simp at h1 h2;subst h2;exact absurd (J0F h1) hn
   |succ j=>exact congrArg (· +1) (Jh9 hl (i:=i) (j:=j) (x:=x) (by simpa using h1) (by simpa using h2))
def JU8(s:Sn)(m:Nat)(ids:List Nat):Nat->Nat->Prop:=λr o=>s.g.C r o\/ ∃b wm esz rows,m<=b/\b∉ids/\s.σ[b]?=some (Blk.arr wm esz rows)/\s.g.μ b=some (r,0)/\o<rows.length*esz
def J7y(s:Sn)(m:Nat)(ids:List Nat)(σ:List Blk):Sn:=
 ⟨σ,⟨λk=>if k<m then s.g.μ k else match ids[k-m]? with
   |some b=>s.g.μ b
   |none=>none,JU8 s m ids⟩,s.w⟩
section
variable {s:Sn} {m:Nat} {ids:List Nat} {l q q':List Blk}
def J6G(m:Nat)(ids:List Nat)(k:Nat):Nat:=if k<m then k else(ids[k-m]?).getD 0
structure JLU(s:Sn)(m:Nat)(ids:List Nat)(σ:List Blk):Prop where
 inv:Inv s
 le:m<=s.σ.length
 nodup:ids.Nodup
 ge: ∀b∈ids,m<=b
 len:σ.length=m+ids.length
 blk: ∀k x,σ[k]?=some x-> ∃y,s.σ[J6G m ids k]?=some y/\J5q m ids s.σ y=some x
variable {σ:List Blk} (h:JLU s m ids σ)
theorem Jf1(k:Nat)(hk:k<m+ids.length):(J7y s m ids σ).g.μ k=s.g.μ (J6G m ids k):=by
 simp only[J7y,J6G];split
 ·rfl
 ·have:k-m<ids.length:=by omega
  simp[this]
include h in
theorem JxC{k:Nat}{x:Blk}(hk:σ[k]?=some x):k<m+ids.length/\ ∃y,s.σ[J6G m ids k]?=some y/\J5q m ids s.σ y=some x:=by have:=Ji hk;exact⟨by rw[<-h.len];exact this,h.blk k x hk⟩
include h in
theorem Jqx{b k:Nat}{y:Blk}(g:J6G m ids k=b)(hk:k<m+ids.length)(hb:s.σ[b]?=some y): ∃x,σ[k]?=some x/\J5q m ids s.σ y=some x:=by
 have e:k<σ.length:=by rw[h.len];exact hk
 obtain⟨j,h1,h2⟩:=h.blk k σ[k] (JK e);rw[g,hb]at h1;injection h1 with h1;subst h1
 exact⟨_,JK e,h2⟩
theorem J9y{k:Nat}(hk:k<m):J6G m ids k=k:=by simp[J6G,hk]
theorem Jyq{b j:Nat}(hj:J4T b ids m=some j):J6G m ids j=b/\j<m+ids.length:=by obtain⟨h1,h2⟩:=JgW hj;have:=Ji h2;exact⟨by simp[J6G,h2];omega,by omega⟩
include h in
theorem JyZ{x y:AV}{v:Value}(hr:JL s x v):fin m ids s.σ x=some y->JL (J7y s m ids σ) y v:=by
 have H: ∀r o,s.g.C r o->(J7y s m ids σ).g.C r o:=λr o h=>.inl h
 induction hr generalizing y with
 |p c v hp=>intro hf;simp[fin]at hf;subst hf;exact .p _ _ (hp.weaken H)
 |data cs vs h1 h2=>intro hf;simp[fin]at hf;subst hf;exact .data _ _ h1 λi x v hx hv=>(h2 i x v hx hv).weaken H
 |agg cs vs h1 G h2 ih=>
  intro hf;simp only[fin]at hf;split at hf
  ·rename_i l hl;obtain⟨E,D⟩:=J6w hl;have hrel: ∀(i:Nat) y v,l[i]?=some y->vs[i]?=some v->JL (J7y s m ids σ) y v:=by intro i y v hy hv;have z:=Ji hy;have hx:cs[i]?=some (cs[i]'(by omega)):=JK _;exact ih i _ v hx hv (D i _ y hx hy)
   split at hf
   ·rename_i q hq;injection hf with hf;subst hf;have:=JlS hq;subst this;refine .data _ _ (by simpa[E]using h1) λi c v hc hv=>?_;have:=hrel i (.p c) v (by simp[hc]) hv;cases this with|p _ _ h=>exact h
   ·injection hf with hf;subst hf;exact .agg _ _ (by omega) G hrel
  ·cases hf
 |tup cs vs h1 h2 ih=>
  intro hf;simp only[fin]at hf;split at hf
  ·rename_i l hl;injection hf with hf;subst hf;obtain⟨E,D⟩:=J6w hl;refine .tup _ _ (by omega) λi y v hy hv=>?_;have z:=Ji hy;have hx:cs[i]?=some (cs[i]'(by omega)):=JK _;exact ih i _ v hx hv (D i _ y hx hy)
  ·cases hf
 |ptr b off r o hm hb=>
  intro hf;obtain⟨cs,hb⟩:=hb;have go: ∀k,J6G m ids k=b->k<m+ids.length->JL (J7y s m ids σ) (.ptr k off) (.pointer (some ⟨r,o+off,none⟩)):=by
   intro k A hk;obtain⟨x,hx,w⟩:=Jqx h A hk hb;simp only[J5q]at w;split at w
   ·injection w with w;subst w;exact .ptr k off r o (by rw[Jf1 k hk,A];exact hm) ⟨_,hx⟩
   ·cases w
  simp only[fin]at hf;split at hf
  ·rename_i z;injection hf with hf;subst hf;exact go b (J9y z) (by omega)
  ·obtain⟨k,hk,rfl⟩:=J5R.1 hf;obtain⟨h1,h2⟩:=Jyq hk;exact go k h1 h2
 |cp cs off r o vals Q R=>
  intro hf;simp[fin]at hf;subst hf;exact .cp cs off r o vals (λj x hx=>⟨H _ _ (Q j x hx).1,(Q j x hx).2⟩) λj x hx=>(R j x hx).weaken H
 |slr b i n v wm esz rows G hb F hv=>
  intro hf;have go: ∀k,J6G m ids k=b->k<m+ids.length->JL (J7y s m ids σ) (.slr k i n) v:=by
   intro k A hk;obtain⟨x,hx,w⟩:=Jqx h A hk hb;simp only[J5q]at w;injection w with w;subst w;refine .slr k i n v wm esz rows G hx F λe=>?_;have O:(J7y s m ids σ).g.μ k=s.g.μ b:=by rw[Jf1 k hk,A]
   rcases hv e with⟨B,q1,q2,q3⟩|⟨r,cap,c,e1,fz,B,q⟩
   ·exact .inl ⟨by rw[O];exact B,q1,q2,q3⟩
   ·exact .inr ⟨r,cap,c,e1,fz,by rw[O];exact B,q⟩
  simp only[fin]at hf;split at hf
  ·rename_i z;injection hf with hf;subst hf;exact go b (J9y z) (by omega)
  ·rename_i T;split at hf
   ·rename_i k hk;injection hf with hf;subst hf;obtain⟨h1,h2⟩:=Jyq hk;exact go k h1 h2
   ·rename_i I;rw[hb]at hf;simp only at hf;split at hf
    ·rename_i e;injection hf with hf;subst hf;obtain⟨a,cap,E,D,K,L⟩:=J6U.of_slr h.inv (.slr b i n v wm esz rows G hb F hv) hb e;refine .p _ _ (JiG (s:=J7y s m ids σ) E D K (L.imp id ?_));rintro⟨r,o,rfl,hx⟩;refine⟨r,o,rfl,λk j row x hk hj=>⟨.inr ⟨b,wm,esz,rows,by omega,JAl I,hb,?_⟩,?_⟩⟩
     ·rcases hv e with⟨B,q1,q2,q3⟩|⟨r',S,c,e1,fz,B,q1,_⟩
      ·rw[E]at q3;simp at q3
      ·rw[E]at q1;injection q1 with v1 v2 v3;injection v1 with v1;injection v1 with v1 v4;subst v1 v4
       refine⟨B,?_⟩;have M:=Ji hk;have J:=Ji hj;rw[K row (J0F hk)]at J;rw[JfJ]at M;have:=J6f (a:=i+k) (b:=j) (n:=rows.length) (e:=esz) (by omega) J;rw[J4c]at this;exact this
     ·obtain⟨u,hu,hr⟩:=hx k j row x hk hj;exact⟨u,hu,hr.weaken H⟩
    ·cases hf
 |ep b ext i off v wm esz rows G hb F hv=>
  intro hf;have go: ∀k,J6G m ids k=b->k<m+ids.length->JL (J7y s m ids σ) (.ep k ext i off) v:=by intro k A hk;obtain⟨x,hx,w⟩:=Jqx h A hk hb;simp only[J5q]at w;injection w with w;subst w;refine .ep k ext i off v wm esz rows G hx F λe1 e2=>?_;obtain⟨r,B,q⟩:=hv e1 e2;exact⟨r,by rw[Jf1 k hk,A];exact B,q⟩
  simp only[fin]at hf;split at hf
  ·rename_i z;injection hf with hf;subst hf;exact go b (J9y z) (by omega)
  ·obtain⟨k,hk,rfl⟩:=J5R.1 hf;obtain⟨h1,h2⟩:=Jyq hk;exact go k h1 h2
 |fn f first caps fs cs h1 h2 _ _ P N=>
  intro hf;simp only[fin]at hf;split at hf
  ·rename_i a c ha hc;injection hf with hf;subst hf;obtain⟨E,D⟩:=J6w ha;obtain⟨K,L⟩:=J6w hc;refine .fn f a c fs cs (by omega) (by omega) (λi y v hy hv=>?_) (λi y v hy hv=>?_)
   ·have z:=Ji hy;have hx:first[i]?=some (first[i]'(by omega)):=JK _
    exact P i _ v hx hv (D i _ y hx hy)
   ·have z:=Ji hy;have hx:caps[i]?=some (caps[i]'(by omega)):=JK _;exact N i _ v hx hv (L i _ y hx hy)
  ·cases hf
 |unk x=>intro hf;simp[fin]at hf;subst hf;exact .unk x
include h in
theorem Jx2(k r o:Nat)(hw:Wr1 (J7y s m ids σ) k r o):k<m+ids.length/\Wr1 s (J6G m ids k) r o:=by
 unfold Wr1 at hw;have g:(J7y s m ids σ).σ=σ:=rfl;rw[g]at hw;cases hk:σ[k]? with
 |none=>rw[hk]at hw;exact hw.elim
 |some x=>
  obtain⟨e,y,hy,hf⟩:=JxC h hk;refine⟨e,?_⟩;rw[hk]at hw;rw[Jf1 k e]at hw;unfold Wr1;rw[hy];cases y with
  |dead=>simp[J5q]at hf;subst hf;exact hw
  |box cs=>
   simp only[J5q]at hf;split at hf
   ·rename_i l hl;injection hf with hf;subst hf;have:=(J6w hl).1;simp only at hw⊢;rw[this];exact hw
   ·cases hf
  |arr w esz rows=>simp[J5q]at hf;subst hf;exact hw
include h in
theorem JK4:Inv (J7y s m ids σ):=by
 have hi:=h.inv;have P: ∀n g,n<m+ids.length->g<m+ids.length->J6G m ids n=J6G m ids g->n=g:=by
  intro n g h1 h2 he;simp only[J6G]at he;split at he<;>split at he
  ·exact he
  ·rename_i a b;have:g-m<ids.length:=by omega
   have:=h.ge ids[g-m] (by simp);simp[show g-m<ids.length by omega]at he;omega
  ·rename_i a b;have:=h.ge (ids[n-m]'(by omega)) (by simp);simp[show n-m<ids.length by omega]at he;omega
  ·have e1:n-m<ids.length:=by omega
   have e2:g-m<ids.length:=by omega
   simp[e1,e2]at he;have:=Jh9 h.nodup (JK e1) (by rw[he];exact JK e2);omega
 refine JKp hi rfl ?_ ?_ (J6G m ids) (λn g h1 h2 he=>P n g (by rw[<-h.len];exact h1) (by rw[<-h.len];exact h2) he) (λk r o hw=>(Jx2 h k r o hw).2) ?_
 ·intro k cs hk;obtain⟨q,y,hy,hf⟩:=JxC h hk;cases y with
  |dead=>simp[J5q]at hf
  |arr=>simp[J5q]at hf
  |box C=>
   simp only[J5q]at hf;split at hf
   ·rename_i l hl;injection hf with hf;injection hf with hf;subst hf;obtain⟨n,g⟩:=J6w hl;obtain⟨r,o,c,e,fz,hm,D,S,hx,B⟩:=hi.box _ _ hy;refine⟨r,o,c,e,fz,by rw[Jf1 k q];exact hm,D,by omega,λi x G=>?_,by rw[<-n];exact B⟩;have R:=Ji G;have J:C[i]?=some (C[i]'(by omega)):=JK _;obtain⟨v,hv,hr,h1⟩:=hx i _ J;exact⟨v,hv,JyZ h hr (g i _ x J G),h1⟩
   ·cases hf
 ·intro k wm esz rows hk;obtain⟨q,y,hy,hf⟩:=JxC h hk;cases y with
  |dead=>simp[J5q]at hf
  |box C=>simp only[J5q]at hf;split at hf<;>cases hf
  |arr w e U=>
   simp[J5q]at hf;obtain⟨rfl,rfl,rfl⟩:=hf;rcases hi.arr _ _ _ _ hy with⟨hm,hr⟩|⟨r,c,e,fz,hm,D,z,hl,hx,B⟩
   ·exact .inl ⟨by rw[Jf1 k q];exact hm,hr⟩
   ·refine .inr ⟨r,c,e,fz,by rw[Jf1 k q];exact hm,D,z,hl,λi j row x h1 h2=>?_,B⟩;obtain⟨⟨v,hv,hr⟩,hc⟩:=hx i j row x h1 h2;exact⟨⟨v,hv,hr.weaken λr o h=>.inl h⟩,λe=>.inl (hc e)⟩
 ·intro r o hc;rcases hc with hc|⟨b,wm,esz,rows,T,Q,K,E,I⟩
  ·exact⟨(hi.const r o hc).1,λk hw=>(hi.const r o hc).2 _ (Jx2 h k r o hw).2⟩
  ·rcases hi.arr _ _ _ _ K with⟨hm,_⟩|⟨r',c,e,fz,hm,D,z,hl,hx,_⟩
   ·rw[E]at hm;cases hm
   ·rw[E]at hm;injection hm with hm;injection hm with hm _;subst hm
    refine⟨J2s D,λk hw=>?_⟩;obtain⟨q,hw⟩:=Jx2 h k r o hw;have M:J6G m ids k≠b:=by
     intro e;simp only[J6G]at e;split at e
     ·omega
     ·have:k-m<ids.length:=by omega
      simp[this]at e;exact Q (by rw[<-e];simp)
    cases wm with
    |true=>
     refine M (hi.apart _ _ _ _ hw ?_);unfold Wr1;rw[K];exact⟨0,E⟩
    |false=>
     have N:0<esz:=by
      rcases JEA esz with L|L
      ·subst L;simp at I
      ·exact L
     have F:o/esz<rows.length:=Nat.div_lt_of_lt_mul (by rw[JuP];exact I);have A:rows[o/esz]?=some (rows[o/esz]'F):=JK _;have hlen:=z _ (J0F A);have O:o%esz<(rows[o/esz]'F).length:=by rw[hlen];exact Nat.mod_lt _ N
     have H:=(hx _ _ _ _ A (JK O)).2 rfl;have:o/esz*esz+o%esz=o:=by rw[JuP];exact Nat.div_add_mod o esz
     rw[this]at H;exact(hi.const r o H).2 _ hw
include h in
theorem JAe{E:Sn}(t:J0k E s)(H:E.σ.length<=m):J0k E (J7y s m ids σ):=by
 have hi:=h.inv;refine⟨t.keep,λr o hc=>.inl (t.cmono r o hc),λr o hc=>?_,λr o ⟨k,hw⟩=>t.wnew r o ⟨_,(Jx2 h k r o hw).2⟩,?_,λb cs hb=>?_,λb wm esz rows hb=>?_⟩
 ·rcases hc with hc|⟨b,wm,esz,rows,G,F,z,q,y⟩
  ·exact t.cnew r o hc
  ·cases wm with
   |true=>
    have:=t.wnew r o ⟨b,by unfold Wr1;rw[z];exact⟨0,q⟩⟩;exact .inr this
   |false=>
    rcases hi.arr _ _ _ _ z with⟨hm,_⟩|⟨r',c,e,fz,hm,I,D,hl,hx,_⟩
    ·rw[q]at hm;cases hm
    ·rw[q]at hm;injection hm with hm;injection hm with hm _;subst hm
     have B:0<esz:=by
      rcases JEA esz with A|A
      ·subst A;simp at y
      ·exact A
     have v:o/esz<rows.length:=Nat.div_lt_of_lt_mul (by rw[JuP];exact y);have n:rows[o/esz]?=some (rows[o/esz]'v):=JK _;have hlen:=D _ (J0F n);have C:o%esz<(rows[o/esz]'v).length:=by rw[hlen];exact Nat.mod_lt _ B
     have w:=(hx _ _ _ _ n (JK C)).2 rfl;have:o/esz*esz+o%esz=o:=by rw[JuP];exact Nat.div_add_mod o esz
     rw[this]at w;exact t.cnew r o w
 ·show E.σ.length<=σ.length;rw[h.len];omega
 ·have j:b<m:=by have:=Ji hb;omega
  obtain⟨⟨cs',h1,h2⟩,h3⟩:=t.box b cs hb;obtain⟨x,hx,g⟩:=Jqx h (J9y j) (by omega) h1;simp only[J5q]at g;split at g
  ·rename_i l hl;injection g with g;subst g;exact⟨⟨l,hx,by rw[<-(J6w hl).1];exact h2⟩,by rw[Jf1 b (by omega),J9y j];exact h3⟩
  ·cases g
 ·have j:b<m:=by have:=Ji hb;omega
  obtain⟨wm',rows',h1,h2,h3,h4⟩:=t.arr b wm esz rows hb;obtain⟨x,hx,g⟩:=Jqx h (J9y j) (by omega) h1;simp[J5q]at g;subst g;exact⟨wm',rows',hx,h2,h3,λe=>by rw[Jf1 b (by omega),J9y j];exact h4 e⟩
end
end Go.Am
end
section
namespace Go.Am
def J85(P:Program)(f:FuncId)(args:List AV)(blks:List Blk)(r:Res):Prop:=
 (∃fn,P.funcs[f]?=some fn∧fn.body.isSome=true∧(fn.name== "runtime.NumGoroutine")=false)∧
 ∀(g:Gh) (w:World) (vals:Array Value),Inv ⟨blks,g,w⟩->args.length=vals.size->(∀(i:Nat) x v,args[i]?=some x->vals[i]?=some v->JL ⟨blks,g,w⟩ x v)->
  Calls P f vals w λe w'=> ∃v g',e=.returned v/\Inv ⟨r.2,g',w'⟩/\J0k ⟨blks,g,w⟩ ⟨r.2,g',w'⟩/\JL ⟨r.2,g',w'⟩ r.1 v
def J5J(P:Program)(F:Orc):Prop:= ∀f args blks r,F f args blks=some r->J85 P f args blks r
theorem J6m{e:Ent}: ∀{es:List Ent} {k j:Nat},J1U e es k=some j->k<=j/\es[j-k]?=some e
 |[],k,j,h=>by simp[J1U]at h
 |x::r,k,j,h=>by
  simp only[J1U]at h;split at h
  ·rename_i hx;injection h with h;subst h;exact⟨zQ0 _,by simp[hx]⟩
  ·obtain⟨h1,h2⟩:=J6m h;refine⟨by omega,?_⟩;rw[show j-k=(j-(k+1))+1 by omega];simpa using h2
theorem J6c{ρ:Ent->Option Nat}: ∀{xs e:List AV},ren.renL ρ xs=some e->xs.length=e.length/\ ∀(i:Nat) x y,xs[i]?=some x->e[i]?=some y->ren ρ x=some y
 |[],e,h=>by simp[ren.renL]at h;subst h;exact⟨rfl,λi x y h=>by simp at h⟩
 |x::xs,e,h=>by
  simp only[ren.renL]at h;split at h
  ·rename_i y l hy hl;injection h with h;subst h;obtain⟨h1,h2⟩:=J6c hl;refine⟨by simp[h1],λi a b ha hb=>?_⟩;cases i with
   |zero=>simp at ha hb;subst ha hb;exact hy
   |succ i=>exact h2 i a b (by simpa using ha) (by simpa using hb)
  ·cases h
theorem J7s{es:List Ent}{new:Nat}: ∀{xs e:List AV},bk.bkL es new xs=some e->xs.length=e.length/\ ∀(i:Nat) x y,xs[i]?=some x->e[i]?=some y->bk es new x=some y
 |[],e,h=>by simp[bk.bkL]at h;subst h;exact⟨rfl,λi x y h=>by simp at h⟩
 |x::xs,e,h=>by
  simp only[bk.bkL]at h;split at h
  ·rename_i y l hy hl;injection h with h;subst h;obtain⟨h1,h2⟩:=J7s hl;refine⟨by simp[h1],λi a b ha hb=>?_⟩;cases i with
   |zero=>simp at ha hb;subst ha hb;exact hy
   |succ i=>exact h2 i a b (by simpa using ha) (by simpa using hb)
  ·cases h
def JL8(s:Sn)(ρ:Ent->Option Nat)(e:Ent)(x:Blk):Prop:=
 match e with
 | .whole b=>(∃cs l,s.σ[b]?=some (.box cs)/\ren.renL ρ cs=some l/\x=.box l)\/(∃w esz rows,s.σ[b]?=some (.arr w esz rows)/\x=.arr w esz rows)
 | .elem b ext i=> ∃esz rows row,s.σ[b]?=some (.arr true esz rows)/\ext=rows.length/\rows[i]?=some row/\x=.box (row.map .p)
section
variable {s:Sn} {env:List (Nat×AV)}
theorem Jue{e:List Blk}{ws:List (Nat×Blk)}{b:Nat}{x:Blk}(h:(JiC ws b).run ⟨env,e⟩=some x):(upd ws e)[b]?=some x:=by
 simp only[JiC,RM.run]at h;split at h
 ·rename_i y hy;have g:=Ji hy;rw[Jbj _ _ _ g];split at h
  ·rename_i z hz;simp only[RM.run]at h;injection h with h;subst h;simp[hz]
  ·rename_i hz;simp only[RM.run]at h;injection h with h;subst h;first|exact hy|(simp[hz];exact hy)
 ·cases h
theorem JNi{j:List Blk}{ws:List (Nat×Blk)}(k:s.σ=upd ws j){ρ:Ent->Option Nat}{e:Ent}{x:Blk}(h:(Jme ws ρ e).run ⟨env,j⟩=some x):JL8 s ρ e x:=by
 cases e with
 |whole b=>
  simp only[Jme]at h;obtain⟨y,h1,h⟩:=bind_some h;have hb:=Jue h1;rw[<-k]at hb;cases y with
  |dead=>cases h
  |box cs=>
   dsimp only at h;split at h
   ·rename_i l hl;simp only[RM.run]at h;injection h with h;subst h
    exact .inl ⟨cs,l,hb,hl,rfl⟩
   ·cases h
  |arr w esz rows=>
   simp only[RM.run]at h;injection h with h;subst h
   exact .inr ⟨w,esz,rows,hb,rfl⟩
 |elem b ext i=>
  simp only[Jme]at h;obtain⟨y,h1,h⟩:=bind_some h;have hb:=Jue h1;rw[<-k]at hb;cases y with
  |arr w esz rows=>
   cases w
   ·cases h
   ·dsimp only at h;split at h
    ·rename_i he;split at h
     ·rename_i row g;simp only[RM.run]at h;injection h with h;subst h
      exact⟨esz,rows,row,hb,he,g,rfl⟩
     ·cases h
    ·cases h
  |_=>cases h
theorem Jw0{g:List Blk}{ws:List (Nat×Blk)}(j:s.σ=upd ws g){ρ:Ent->Option Nat}: ∀{es:List Ent} {blks:List Blk},(J5p ws ρ es).run ⟨env,g⟩=some blks->
  es.length=blks.length/\ ∀(k:Nat) e x,es[k]?=some e->blks[k]?=some x->JL8 s ρ e x
 |[],blks,h=>by simp only[J5p,RM.run]at h;injection h with h;subst h;exact⟨rfl,λk e x h=>by simp at h⟩
 |e::es,blks,h=>by
  simp only[J5p]at h;obtain⟨x,h1,h⟩:=bind_some h;obtain⟨l,h2,h⟩:=bind_some h;simp only[RM.run]at h;injection h with h;subst h
  obtain⟨n,q⟩:=Jw0 j h2;refine⟨by simp[n],λk e' o he hx=>?_⟩;cases k with
  |zero=>simp at he hx;subst he hx;exact JNi j h1
  |succ k=>exact q k e' o (by simpa using he) (by simpa using hx)
def J8l(s:Sn)(es:List Ent)(blks:List Blk):Sn:=
 ⟨blks,⟨λk=>match es[k]? with
   |some (.whole b)=>s.g.μ b
   |some (.elem b _ i)=>(match s.σ[b]? with
    |some (.arr _ esz _)=>(match s.g.μ b with
     |some p=>some (p.1,i*esz)
     |none=>none)
    |_=>none)
   |none=>none,s.g.C⟩,s.w⟩
structure JEY(s:Sn)(es:List Ent)(blks:List Blk):Prop where
 inv:Inv s
 nodup:(es.map Ent.id).Nodup
 len:es.length=blks.length
 blk: ∀(k:Nat) e x,es[k]?=some e->blks[k]?=some x->JL8 s (λe=>J1U e es 0) e x
variable {es:List Ent} {blks:List Blk} (h:JEY s es blks)
include h in
theorem Jdh{k:Nat}{e:Ent}(he:es[k]?=some e): ∃x,blks[k]?=some x/\JL8 s (λe=>J1U e es 0) e x:=by
 have g:=Ji he;have:k<blks.length:=by rw[<-h.len];exact g
 exact⟨blks[k],JK this,h.blk k e _ he (JK this)⟩
theorem J5a{k b:Nat}(he:es[k]?=some (.whole b)):(J8l s es blks).g.μ k=s.g.μ b:=by simp[J8l,he]
theorem Ji4{k b ext i esz:Nat}{wm rows r}(he:es[k]?=some (.elem b ext i))(hb:s.σ[b]?=some (.arr wm esz rows))(hm:s.g.μ b=some (r,0)):(J8l s es blks).g.μ k=some (r,i*esz):=by simp[J8l,he,hb,hm]
include h in
theorem JNE{x y:AV}{v:Value}(hr:JL s x v):ren (λe=>J1U e es 0) x=some y->JL (J8l s es blks) y v:=by
 induction hr generalizing y with
 |p c v hp=>intro hf;simp[ren]at hf;subst hf;exact .p _ _ hp
 |data cs vs h1 h2=>intro hf;simp[ren]at hf;subst hf;exact .data _ _ h1 h2
 |cp cs off r o vals N M=>intro hf;simp[ren]at hf;subst hf;exact .cp cs off r o vals N M
 |unk x=>intro hf;simp[ren]at hf;subst hf;exact .unk x
 |agg cs vs h1 C h2 ih=>
  intro hf;simp only[ren]at hf;obtain⟨l,hl,rfl⟩:=J5R.1 hf;obtain⟨F,B⟩:=J6c hl;refine .agg _ _ (by omega) C λi y v hy hv=>?_;have z:=Ji hy;have hx:cs[i]?=some (cs[i]'(by omega)):=JK _;exact ih i _ v hx hv (B i _ y hx hy)
 |tup cs vs h1 h2 ih=>
  intro hf;simp only[ren]at hf;obtain⟨l,hl,rfl⟩:=J5R.1 hf;obtain⟨F,B⟩:=J6c hl;refine .tup _ _ (by omega) λi y v hy hv=>?_;have z:=Ji hy;have hx:cs[i]?=some (cs[i]'(by omega)):=JK _;exact ih i _ v hx hv (B i _ y hx hy)
 |ptr b off r o hm hb=>
  intro hf;simp only[ren]at hf;obtain⟨k,hk,rfl⟩:=J5R.1 hf;obtain⟨_,hk⟩:=J6m hk;simp only[Jlv]at hk;obtain⟨cs,hb⟩:=hb;obtain⟨x,hx,j⟩:=Jdh h hk;rcases j with⟨cs',l,h1,h2,rfl⟩|⟨w,esz,rows,h1,rfl⟩
  ·exact .ptr k off r o (by rw[J5a hk];exact hm) ⟨l,hx⟩
  ·rw[hb]at h1;cases h1
 |slr b i n v wm esz rows C hb D hv=>
  intro hf;simp only[ren]at hf;obtain⟨k,hk,rfl⟩:=J5R.1 hf;obtain⟨_,hk⟩:=J6m hk;simp only[Jlv]at hk;obtain⟨x,hx,j⟩:=Jdh h hk;rcases j with⟨cs',l,h1,h2,rfl⟩|⟨w,E,rows',h1,rfl⟩
  ·rw[hb]at h1;cases h1
  ·rw[hb]at h1;injection h1 with h1;injection h1 with a1 a2 a3;subst a1 a2 a3
   refine .slr k i n v wm esz rows C hx D λe=>?_;have G:(J8l s es blks).g.μ k=s.g.μ b:=J5a hk;rcases hv e with⟨A,q1,q2,q3⟩|⟨r,cap,c,e1,fz,A,q⟩
   ·exact .inl ⟨by rw[G];exact A,q1,q2,q3⟩
   ·exact .inr ⟨r,cap,c,e1,fz,by rw[G];exact A,q⟩
 |ep b ext i off v wm esz rows C hb D hv=>
  intro hf;simp only[ren]at hf;obtain⟨k,hk,rfl⟩:=J5R.1 hf;obtain⟨_,hk⟩:=J6m hk;simp only[Jlv]at hk;obtain⟨x,hx,j⟩:=Jdh h hk;obtain⟨E,rows',row,h1,h2,h3,rfl⟩:=j;have J:=h1;rw[hb]at h1;injection h1 with h1;injection h1 with a1 a2 a3;subst a1 a2 a3
  have z:=Ji h3;obtain⟨r,A,hv⟩:=hv h2 (by omega);subst hv;exact .ptr k off r (i*esz) (Ji4 hk J A) ⟨_,hx⟩
 |fn f first caps fs cs h1 h2 _ _ H K=>
  intro hf;simp only[ren]at hf;obtain⟨Q,L,hf⟩:=J25.1 hf;obtain⟨R,I,rfl⟩:=J5R.1 hf;obtain⟨F,B⟩:=J6c L;obtain⟨P,O⟩:=J6c I;refine .fn f _ _ fs cs (by omega) (by omega) (λi y v hy hv=>?_) (λi y v hy hv=>?_)
  ·have z:=Ji hy;have hx:first[i]?=some (first[i]'(by omega)):=JK _
   exact H i _ v hx hv (B i _ y hx hy)
  ·have z:=Ji hy;have hx:caps[i]?=some (caps[i]'(by omega)):=JK _;exact K i _ v hx hv (O i _ y hx hy)
def idE(es:List Ent)(k:Nat):Nat:=((es[k]?).map Ent.id).getD 0
theorem Je0{k:Nat}{e:Ent}(he:es[k]?=some e):idE es k=e.id:=by simp[idE,he]
include h in
theorem Jf9(k r o:Nat)(hw:Wr1 (J8l s es blks) k r o):k<es.length/\Wr1 s (idE es k) r o:=by
 unfold Wr1 at hw;have v:(J8l s es blks).σ=blks:=rfl;rw[v]at hw;cases hk:blks[k]? with
 |none=>rw[hk]at hw;exact hw.elim
 |some x=>
  have n:k<es.length:=by rw[h.len];exact Ji hk
  refine⟨n,?_⟩;have e:es[k]?=some es[k]:=JK n;have j:=h.blk k _ x e hk;rw[Je0 e];rw[hk]at hw;unfold Wr1;cases hcase:es[k]with
  |whole b=>
   rw[hcase]at j e;rcases j with⟨cs',l,h1,h2,rfl⟩|⟨w,q,rows',h1,rfl⟩
   ·simp only[Ent.id];rw[h1];rw[J5a e]at hw;have:=(J6c h2).1;simp only at hw⊢;rw[this];exact hw
   ·simp only[Ent.id];rw[h1];rw[J5a e]at hw;exact hw
  |elem b ext i=>
   rw[hcase]at j e;obtain⟨q,rows',row,h1,h2,h3,rfl⟩:=j;simp only[Ent.id];rw[h1];obtain⟨y,m,_⟩:=hw;have: ∃p,s.g.μ b=some p/\p.1=r:=by
    simp only[J8l,e,h1]at m;cases hp:s.g.μ b with
    |none=>simp[hp]at m
    |some p=>simp[hp]at m;exact⟨p,rfl,m.1⟩
   obtain⟨p,hp,hr⟩:=this;exact⟨p.2,by rw[hp,<-hr]⟩
include h in
theorem JT3:Inv (J8l s es blks):=by
 have hi:=h.inv;have hlen:(J8l s es blks).σ.length=es.length:=h.len.symm;refine JKp hi rfl ?_ ?_ (idE es) ?_ (λk r o hw=>(Jf9 h k r o hw).2) (λr o hc=>⟨(hi.const r o hc).1,λk hw=>(hi.const r o hc).2 _ (Jf9 h k r o hw).2⟩)
 ·intro k cs hk;have hk:blks[k]?=some (.box cs):=hk;have B:k<es.length:=by rw[h.len];exact Ji hk
  have n:es[k]?=some es[k]:=JK B;have y:=h.blk k _ _ n hk;cases hcase:es[k]with
  |whole b=>
   rw[hcase]at y n;rcases y with⟨cs',l,h1,h2,g⟩|⟨w,q,rows',h1,g⟩
   ·injection g with g;subst g;obtain⟨A,D⟩:=J6c h2;obtain⟨r,o,c,e,fz,hm,H,N,hx,C⟩:=hi.box _ _ h1;refine⟨r,o,c,e,fz,by rw[J5a n];exact hm,H,by omega,λi x E=>?_,by rw[<-A];exact C⟩;have L:=Ji E;have F:cs'[i]?=some (cs'[i]'(by omega)):=JK _;obtain⟨v,hv,hr,h1⟩:=hx i _ F;exact⟨v,hv,JNE h hr (D i _ x F E),h1⟩
   ·cases g
  |elem b ext i=>
   rw[hcase]at y n;obtain⟨q,rows',row,h1,h2,h3,g⟩:=y;injection g with g;subst g;have G:=Ji h3;rcases hi.arr _ _ _ _ h1 with⟨hm,hr⟩|⟨r,c,e,fz,hm,H,I,hl,hx,C⟩
   ·subst hr;simp at h3
   ·have M:=I row (J0F h3);have J:i*q+q<=rows'.length*q:=by have:=zQ7 q (show i+1<=rows'.length from G);rwa[J4c,JuB]at this
    refine⟨r,i*q,c,e,fz,Ji4 n h1 hm,H,by simp;omega,λj x z=>?_,λo h1 h2=>C.1 o (zQ5 _) (by simp at h2;omega)⟩;rw[J2c]at z;cases hrj:row[j]? with
    |none=>simp[hrj]at z
    |some K=>
     simp[hrj]at z;subst z;obtain⟨⟨v,hv,hr⟩,_⟩:=hx i j row K h3 hrj;exact⟨v,hv,.p _ _ hr,hr.one⟩
 ·intro k wm esz rows hk;have hk:blks[k]?=some (.arr wm esz rows):=hk;have B:k<es.length:=by rw[h.len];exact Ji hk
  have n:es[k]?=some es[k]:=JK B;have y:=h.blk k _ _ n hk;cases hcase:es[k]with
  |whole b=>
   rw[hcase]at y n;rcases y with⟨cs',l,h1,h2,g⟩|⟨w,q,rows',h1,g⟩
   ·cases g
   ·injection g with a1 a2 a3;subst a1 a2 a3;rcases hi.arr _ _ _ _ h1 with⟨hm,hr⟩|⟨r,c,e,fz,hm,hq⟩
    ·exact .inl ⟨by rw[J5a n];exact hm,hr⟩
    ·exact .inr ⟨r,c,e,fz,by rw[J5a n];exact hm,hq⟩
  |elem b ext i=>
   rw[hcase]at y n;obtain⟨q,rows',row,h1,h2,h3,g⟩:=y;cases g
 ·intro A D h1 h2 he;rw[hlen]at h1 h2;have e1:es[A]?=some es[A]:=JK h1;have e2:es[D]?=some es[D]:=JK h2;rw[Je0 e1,Je0 e2]at he;refine Jh9 h.nodup (x:=es[A].id) ?_ ?_
  ·rw[J2c,e1];rfl
  ·rw[J2c,e2,he];rfl
end
end Go.Am
end
section
namespace Go.Am
def Jcm(s1:Sn)(es:List Ent)(new:Nat)(σ2:List Blk)(k:Nat)(y:Blk):Prop:=
 match es[k]? with
 |some (.whole b)=>(∃cs l,y=.box cs/\bk.bkL es new cs=some l/\σ2[b]?=some (.box l))\/(∃w esz rows,y=.arr w esz rows/\σ2[b]?=some (.arr w esz rows))
 |some (.elem b _ i)=> ∃w esz rows e,s1.σ[b]?=some (.arr w esz rows)/\y=.box (e.map .p)/\σ2[b]?=some (.arr w esz (rows.set i e))
 |none=>(∃cs l,y=.box cs/\bk.bkL es new cs=some l/\σ2[new+(k-es.length)]?=some (.box l))\/(∃w esz rows,y=.arr w esz rows/\σ2[new+(k-es.length)]?=some (.arr w esz rows))
structure JK2(s1:Sn)(es:List Ent)(blks:List Blk)(new kf:Nat)(c':Sn)(σ2:List Blk):Prop where
 cin:JEY s1 es blks
 inv:Inv c'
 trans:J0k (J8l s1 es blks) c'
 len:c'.σ.length=es.length+kf
 slen:σ2.length=s1.σ.length
 dead: ∀j,j<kf->s1.σ[new+j]?=some .dead
 out: ∀k y,c'.σ[k]?=some y->Jcm s1 es new σ2 k y
 same: ∀b,b∉es.map Ent.id->(b<new\/new+kf<=b)->σ2[b]?=s1.σ[b]?
def kOf(es:List Ent)(new kf b:Nat):Option Nat:=
 match J1U (.whole b) es 0 with
 |some k=>some k
 |none=>if new<=b/\b<new+kf/\b∉es.map Ent.id then some (es.length+(b-new))else none
def J3D(s1:Sn)(es:List Ent)(new kf:Nat)(c':Sn)(σ2:List Blk):Sn:=
 ⟨σ2,⟨λb=>match kOf es new kf b with
   |some k=>c'.g.μ k
   |none=>s1.g.μ b,c'.g.C⟩,c'.w⟩
theorem JvF{e:Ent}: ∀{es:List Ent} {k:Nat},J1U e es k=none->e∉es
 |[],k,_=>by simp
 |x::r,k,h=>by
  simp only[J1U]at h;split at h
  ·cases h
  ·rename_i hx;simp only[J3i,not_or];exact⟨λe=>hx e.symm,JvF h⟩
section
variable {s1 c':Sn} {es:List Ent} {blks σ2:List Blk} {new kf:Nat} (h:JK2 s1 es blks new kf c' σ2)
theorem Jgb{k:Nat}{e:Ent}(he:es[k]?=some e):e.id∈es.map Ent.id:=J4J.2 ⟨e,J0F he,rfl⟩
include h in
theorem Jj3{e g:Nat}{e1 e2:Ent}(h1:es[e]?=some e1)(h2:es[g]?=some e2)(he:e1.id=e2.id):e=g:=
 Jh9 h.cin.nodup (x:=e1.id) (by rw[J2c,h1];rfl) (by rw[J2c,h2,he];rfl)
include h in
theorem JQy{k:Nat}{e:Ent}(he:es[k]?=some e): ∃y,s1.σ[e.id]?=some y/\y≠.dead:=by
 obtain⟨x,_,g⟩:=Jdh h.cin he;cases e with
 |whole b=>
  rcases g with⟨cs',l,h1,h2,rfl⟩|⟨w,j,rows',h1,rfl⟩
  ·exact⟨_,h1,by simp⟩
  ·exact⟨_,h1,by simp⟩
 |elem b ext i=>
  obtain⟨j,rows',row,h1,h2,h3,rfl⟩:=g;exact⟨_,h1,by simp⟩
include h in
theorem JOl{j:Nat}(hj:j<kf):new+j∉es.map Ent.id:=by intro hm;obtain⟨e,he,g⟩:=J4J.1 hm;obtain⟨k,hk⟩:=J9V he;obtain⟨y,hy,hd⟩:=JQy h hk;rw[g,h.dead j hj]at hy;injection hy with hy;exact hd hy.symm
include h in
theorem JN8{k b:Nat}(he:es[k]?=some (.whole b)):kOf es new kf b=some k:=by
 unfold kOf;cases hc:J1U (.whole b) es 0 with
 |none=>exact absurd (J0F he) (JvF hc)
 |some g=>
  obtain⟨_,e⟩:=J6m hc;simp only[Jlv]at e;rw[Jj3 h e he rfl]
include h in
theorem JPK{k b e i:Nat}(he:es[k]?=some (.elem b e i)):kOf es new kf b=none:=by
 unfold kOf;cases hc:J1U (.whole b) es 0 with
 |some j=>
  obtain⟨_,g⟩:=J6m hc;simp only[Jlv]at g;have:=Jj3 h g he rfl;subst this;rw[he]at g;cases g
 |none=>
  have:b∈es.map Ent.id:=Jgb he;simp[this]
include h in
theorem JNp{j:Nat}(hj:j<kf):kOf es new kf (new+j)=some (es.length+j):=by
 unfold kOf;have hn:=JOl h hj;cases hc:J1U (.whole (new+j)) es 0 with
 |some g=>
  obtain⟨_,e⟩:=J6m hc;simp only[Jlv]at e;exact absurd (Jgb e) hn
 |none=>
  simp only;rw[if_pos ⟨by omega,by omega,hn⟩]
  congr 1;omega
theorem Jif{b:Nat}(h1:b∉es.map Ent.id)(h2:b<new\/new+kf<=b):kOf es new kf b=none:=by
 unfold kOf;cases hc:J1U (.whole b) es 0 with
 |some g=>
  obtain⟨_,e⟩:=J6m hc;simp only[Jlv]at e;exact absurd (Jgb e) h1
 |none=>
  simp only;rw[if_neg (by omega)]
def tgt(es:List Ent)(new k:Nat):Nat:=match es[k]? with
 |some e=>e.id
 |none=>new+(k-es.length)
include h in
theorem Jap{k:Nat}(hk:k<es.length+kf)(q: ∀b e i,es[k]?≠some (.elem b e i)):(J3D s1 es new kf c' σ2).g.μ (tgt es new k)=c'.g.μ k:=by
 simp only[J3D,tgt];cases he:es[k]? with
 |some e=>
  cases e with
  |whole b=>simp only[Ent.id];rw[JN8 h he]
  |elem b e i=>exact absurd he (q b e i)
 |none=>
  have n:es.length<=k:=by
   rcases zQ1 k es.length with o|n
   ·rw[JK o]at he;cases he
   ·exact n
  have:=JNp h (j:=k-es.length) (by omega);simp only;rw[this];simp only
  congr 1;omega
include h in
theorem J9r{k b ext i:Nat}(he:es[k]?=some (.elem b ext i)): ∃esz rows row r j,s1.σ[b]?=some (.arr true esz rows)/\ext=rows.length/\rows[i]?=some row/\s1.g.μ b=some (r,0)/\
  c'.σ[k]?=some (.box (j.map .p))/\j.length=row.length/\row.length=esz/\c'.g.μ k=some (r,i*esz)/\σ2[b]?=some (.arr true esz (rows.set i j))/\(J3D s1 es new kf c' σ2).g.μ b=some (r,0):=by
 obtain⟨x,hx,v⟩:=Jdh h.cin he;obtain⟨esz,rows,row,h1,h2,h3,rfl⟩:=v;have A:=Ji h3;rcases h.cin.inv.arr _ _ _ _ h1 with⟨hm,hr⟩|⟨r,c,e,fz,hm,D,q,hl,C,B⟩
 ·subst hr;simp at h3
 ·obtain⟨⟨cs',q1,q2⟩,q3⟩:=h.trans.box k _ hx;have ho:=h.out k _ q1;unfold Jcm at ho;rw[he]at ho;obtain⟨w,y,rows',j,n,o,z⟩:=ho;rw[h1]at n;injection n with n;injection n with a1 a2 a3;subst a1 a2 a3
  injection o with o;subst o;refine⟨esz,rows,row,r,j,h1,h2,h3,hm,q1,by simpa using q2,q row (J0F h3),?_,z,?_⟩
  ·rw[q3,Ji4 he h1 hm]
  ·simp only[J3D];rw[JPK h he];exact hm
include h in
theorem JJL{x y:AV}{v:Value}(hr:JL c' x v):bk es new x=some y->JL (J3D s1 es new kf c' σ2) y v:=by
 have C: ∀{k:Nat} {z:Blk},c'.σ[k]?=some z->k<es.length+kf:=λhz=>by rw[<-h.len];exact Ji hz
 induction hr generalizing y with
 |p c v hp=>intro hf;simp[bk]at hf;subst hf;exact .p _ _ hp
 |data cs vs h1 h2=>intro hf;simp[bk]at hf;subst hf;exact .data _ _ h1 h2
 |cp cs off r o vals U Q=>intro hf;simp[bk]at hf;subst hf;exact .cp cs off r o vals U Q
 |unk x=>intro hf;simp[bk]at hf;subst hf;exact .unk x
 |agg cs vs h1 G h2 ih=>
  intro hf;simp only[bk]at hf;split at hf
  ·rename_i l hl;injection hf with hf;subst hf;obtain⟨N,E⟩:=J7s hl;refine .agg _ _ (by omega) G λi y v hy hv=>?_;have A:=Ji hy;have hx:cs[i]?=some (cs[i]'(by omega)):=JK _;exact ih i _ v hx hv (E i _ y hx hy)
  ·cases hf
 |tup cs vs h1 h2 ih=>
  intro hf;simp only[bk]at hf;split at hf
  ·rename_i l hl;injection hf with hf;subst hf;obtain⟨N,E⟩:=J7s hl;refine .tup _ _ (by omega) λi y v hy hv=>?_;have A:=Ji hy;have hx:cs[i]?=some (cs[i]'(by omega)):=JK _;exact ih i _ v hx hv (E i _ y hx hy)
  ·cases hf
 |ptr k off r o hm hb=>
  intro hf;obtain⟨cs,hb⟩:=hb;have hk:=C hb;have ho:=h.out k _ hb;unfold Jcm at ho;simp only[bk]at hf;split at hf
  ·rename_i A;have V:es[k]?=some es[k]:=JK A;split at hf
   ·rename_i b he;injection hf with hf;subst hf;have j:=Jap h hk (by rw[he];simp);simp only[tgt,he,Ent.id]at j;rw[he]at ho;rcases ho with⟨cs',l,e1,e2,D⟩|⟨w,esz,rows,e1,e2⟩
    ·exact .ptr b off r o (by rw[j];exact hm) ⟨l,D⟩
    ·cases e1
   ·rename_i b e i he;injection hf with hf;subst hf;obtain⟨esz,rows,row,r',K,f1,R,f3,Y,f5,Z,W,I,S,P⟩:=J9r h he;rw[hm]at I;injection I with I;injection I with g1 g2;subst g1 g2
    exact .ep b e i off _ true esz (rows.set i K) ⟨_,_,rfl⟩ S (by simp[R]) λ_ _=>⟨r,P,rfl⟩
   ·cases hf
  ·rename_i J;injection hf with hf;subst hf;have he:es[k]?=none:=zQ3 (by omega);have j:=Jap h hk (by rw[he];simp);simp only[tgt,he]at j;rw[he]at ho;rcases ho with⟨cs',l,e1,e2,D⟩|⟨w,esz,rows,e1,e2⟩
   ·exact .ptr _ off r o (by rw[j];exact hm) ⟨l,D⟩
   ·cases e1
 |slr k i n v wm esz rows G hb F hv=>
  intro hf;have hk:=C hb;have ho:=h.out k _ hb;unfold Jcm at ho;have go: ∀b,(J3D s1 es new kf c' σ2).g.μ b=c'.g.μ k->σ2[b]?=some (.arr wm esz rows)->JL (J3D s1 es new kf c' σ2) (.slr b i n) v:=by
   intro b j L;refine .slr b i n v wm esz rows G L F λe=>?_;rcases hv e with⟨H,q1,q2,q3⟩|⟨r,cap,c,e1,fz,H,q⟩
   ·exact .inl ⟨by rw[j];exact H,q1,q2,q3⟩
   ·exact .inr ⟨r,cap,c,e1,fz,by rw[j];exact H,q⟩
  simp only[bk]at hf;split at hf
  ·rename_i A;split at hf
   ·rename_i b he;injection hf with hf;subst hf;have j:=Jap h hk (by rw[he];simp);simp only[tgt,he,Ent.id]at j;rw[he]at ho;rcases ho with⟨cs',l,e1,e2,D⟩|⟨w,B,rows',e1,e2⟩
    ·cases e1
    ·injection e1 with a1 a2 a3;subst a1 a2 a3;exact go b j e2
   ·cases hf
  ·rename_i J;injection hf with hf;subst hf;have he:es[k]?=none:=zQ3 (by omega);have j:=Jap h hk (by rw[he];simp);simp only[tgt,he]at j;rw[he]at ho;rcases ho with⟨cs',l,e1,e2,D⟩|⟨w,B,rows',e1,e2⟩
   ·cases e1
   ·injection e1 with a1 a2 a3;subst a1 a2 a3;exact go _ j e2
 |ep k ext i off v wm esz rows G hb F hv=>
  intro hf;have hk:=C hb;have ho:=h.out k _ hb;unfold Jcm at ho;have go: ∀b,(J3D s1 es new kf c' σ2).g.μ b=c'.g.μ k->σ2[b]?=some (.arr wm esz rows)->JL (J3D s1 es new kf c' σ2) (.ep b ext i off) v:=by intro b j L;refine .ep b ext i off v wm esz rows G L F λe1 e2=>?_;obtain⟨r,H,q⟩:=hv e1 e2;exact⟨r,by rw[j];exact H,q⟩
  simp only[bk]at hf;split at hf
  ·rename_i A;split at hf
   ·rename_i b he;injection hf with hf;subst hf;have j:=Jap h hk (by rw[he];simp);simp only[tgt,he,Ent.id]at j;rw[he]at ho;rcases ho with⟨cs',l,e1,e2,D⟩|⟨w,B,rows',e1,e2⟩
    ·cases e1
    ·injection e1 with a1 a2 a3;subst a1 a2 a3;exact go b j e2
   ·cases hf
  ·rename_i J;injection hf with hf;subst hf;have he:es[k]?=none:=zQ3 (by omega);have j:=Jap h hk (by rw[he];simp);simp only[tgt,he]at j;rw[he]at ho;rcases ho with⟨cs',l,e1,e2,D⟩|⟨w,B,rows',e1,e2⟩
   ·cases e1
   ·injection e1 with a1 a2 a3;subst a1 a2 a3;exact go _ j e2
 |fn f first caps fs cs h1 h2 _ _ O M=>
  intro hf;simp only[bk]at hf;split at hf
  ·rename_i a c ha hc;injection hf with hf;subst hf;obtain⟨N,E⟩:=J7s ha;obtain⟨k3,T⟩:=J7s hc;refine .fn f a c fs cs (by omega) (by omega) (λi y v hy hv=>?_) (λi y v hy hv=>?_)
   ·have A:=Ji hy;have hx:first[i]?=some (first[i]'(by omega)):=JK _
    exact O i _ v hx hv (E i _ y hx hy)
   ·have A:=Ji hy;have hx:caps[i]?=some (caps[i]'(by omega)):=JK _;exact M i _ v hx hv (T i _ y hx hy)
  ·cases hf
inductive JKZ(es:List Ent)(new kf b:Nat):Prop where
 |out (k:Nat):k<es.length+kf->tgt es new k=b->(∀b e i,es[k]?≠some (.elem b e i))->JKZ es new kf b
 |elem (k e i:Nat):es[k]?=some (.elem b e i)->JKZ es new kf b
 |other:b∉es.map Ent.id->(b<new\/new+kf<=b)->JKZ es new kf b
theorem J9I(b:Nat):JKZ es new kf b:=by
 by_cases hm:b∈es.map Ent.id
 ·obtain⟨e,he,g⟩:=J4J.1 hm;obtain⟨k,hk⟩:=J9V he;have n:=Ji hk;cases e with
  |whole j=>simp only[Ent.id]at g;subst g;exact .out k (by omega) (by simp[tgt,hk,Ent.id]) (by rw[hk];simp)
  |elem j e' h=>simp only[Ent.id]at g;subst g;exact .elem k e' h hk
 ·by_cases hr:new<=b/\b<new+kf
  ·have he:es[es.length+(b-new)]?=none:=zQ3 (by omega);refine .out (es.length+(b-new)) (by omega) ?_ (by rw[he];simp);simp only[tgt,he];omega
  ·exact .other hm (by omega)
include h in
theorem Jp0{k:Nat}(hk:k<es.length+kf)(g: ∀b e i,es[k]?≠some (.elem b e i))(r o:Nat):
  Wr1 (J3D s1 es new kf c' σ2) (tgt es new k) r o↔Wr1 c' k r o:=by
 have x:=Jap h hk g;have q:k<c'.σ.length:=by rw[h.len];exact hk
 have v:c'.σ[k]?=some c'.σ[k]:=JK q;have ho:=h.out k _ v;unfold Jcm at ho;unfold Wr1;rw[v,x];have y:(J3D s1 es new kf c' σ2).σ=σ2:=rfl;rw[y];cases he:es[k]? with
 |some e=>
  cases e with
  |whole b=>
   simp only[tgt,he,Ent.id];rw[he]at ho;rcases ho with⟨cs',l,e1,e2,n⟩|⟨w,j,rows',e1,e2⟩
   ·rw[e1,n];simp only;rw[(J7s e2).1]
   ·rw[e1,e2]
  |elem b e i=>exact absurd he (g b e i)
 |none=>
  simp only[tgt,he];rw[he]at ho;rcases ho with⟨cs',l,e1,e2,n⟩|⟨w,j,rows',e1,e2⟩
  ·rw[e1,n];simp only;rw[(J7s e2).1]
  ·rw[e1,e2]
include h in
theorem JiW{k b e i:Nat}(he:es[k]?=some (.elem b e i))(r o:Nat):Wr1 (J3D s1 es new kf c' σ2) b r o↔Wr1 s1 b r o:=by obtain⟨esz,rows,row,r',v,j,B,C,n,z,A,y,x,w,g⟩:=J9r h he;unfold Wr1;have q:(J3D s1 es new kf c' σ2).σ=σ2:=rfl;rw[q,w,j,g,n]
include h in
theorem Jus{b:Nat}(h1:b∉es.map Ent.id)(h2:b<new\/new+kf<=b)(r o:Nat):Wr1 (J3D s1 es new kf c' σ2) b r o↔Wr1 s1 b r o:=by
 unfold Wr1;have j:(J3D s1 es new kf c' σ2).σ=σ2:=rfl;have e:(J3D s1 es new kf c' σ2).g.μ b=s1.g.μ b:=by simp only[J3D];rw[Jif h1 h2]
 rw[j,h.same b h1 h2,e]
include h in
theorem JA5{r o:Nat}(hw:Wr c' r o):(∃k e,es[k]?=some e/\Wr1 (J8l s1 es blks) k r o/\Wr1 s1 e.id r o)\/s1.w.heap.size<=r:=by
 rcases h.trans.wnew r o hw with⟨k,hk⟩|hn
 ·obtain⟨j,g⟩:=Jf9 h.cin k r o hk;have he:es[k]?=some es[k]:=JK j;rw[Je0 he]at g;exact .inl ⟨k,_,he,hk,g⟩
 ·exact .inr hn
include h in
theorem JAj:J0k s1 (J3D s1 es new kf c' σ2):=by
 refine⟨?_,λr o hc=>h.trans.cmono r o hc,λr o hc=>?_,λr o ⟨b,hw⟩=>?_,zQ4 h.slen.symm,λb cs hb=>?_,λb wm esz rows hb=>?_⟩
 ·refine h.trans.keep.mono λr o ⟨k,hk⟩=>?_;exact⟨_,(Jf9 h.cin k r o hk).2⟩
 ·rcases h.trans.cnew r o hc with hc|⟨k,hk⟩|hn
  ·exact .inl hc
  ·exact .inr (.inl ⟨_,(Jf9 h.cin k r o hk).2⟩)
  ·exact .inr (.inr hn)
 ·cases J9I (es:=es) (new:=new) (kf:=kf) b with
  |out k hk j g=>
   subst j;rcases JA5 h ⟨k,(Jp0 h hk g r o).1 hw⟩with⟨R,e,_,_,D⟩|hn
   ·exact .inl ⟨_,D⟩
   ·exact .inr hn
  |elem k e i he=>exact .inl ⟨b,(JiW h he r o).1 hw⟩
  |other h1 h2=>exact .inl ⟨b,(Jus h h1 h2 r o).1 hw⟩
 ·cases J9I (es:=es) (new:=new) (kf:=kf) b with
  |out k hk j g=>
   cases he:es[k]? with
   |none=>
    exfalso;simp only[tgt,he]at j;have n:es.length<=k:=by
     rcases zQ1 k es.length with v|n
     ·rw[JK v]at he;cases he
     ·exact n
    have:=h.dead (k-es.length) (by omega);rw[j,hb]at this;cases this
   |some e=>
    cases e with
    |elem b e i=>exact absurd he (g b e i)
    |whole K=>
     simp only[tgt,he,Ent.id]at j;subst j;obtain⟨x,hx,A⟩:=Jdh h.cin he;rcases A with⟨cs',l,h1,h2,rfl⟩|⟨w,z,rows',h1,rfl⟩
     ·rw[hb]at h1;injection h1 with h1;injection h1 with h1;subst h1
      obtain⟨⟨O,q1,q2⟩,q3⟩:=h.trans.box k _ hx;have ho:=h.out k _ q1;unfold Jcm at ho;rw[he]at ho;have y:=Jap h hk g;simp only[tgt,he,Ent.id]at y;rcases ho with⟨H,G,e1,e2,F⟩|⟨w,esz,rows,e1,e2⟩
      ·injection e1 with e1;subst e1;refine⟨⟨G,F,?_⟩,?_⟩
       ·rw[<-(J7s e2).1,q2,(J6c h2).1]
       ·rw[y,q3,J5a he]
      ·cases e1
     ·rw[hb]at h1;cases h1
  |elem k e i he=>
   obtain⟨esz,rows,row,r',C,q,_⟩:=J9r h he;rw[hb]at q;cases q
  |other h1 h2=>
   refine⟨⟨cs,by rw[<-hb];exact h.same b h1 h2,rfl⟩,?_⟩;simp only[J3D];rw[Jif h1 h2]
 ·cases J9I (es:=es) (new:=new) (kf:=kf) b with
  |out k hk j g=>
   cases he:es[k]? with
   |none=>
    exfalso;simp only[tgt,he]at j;have n:es.length<=k:=by
     rcases zQ1 k es.length with v|n
     ·rw[JK v]at he;cases he
     ·exact n
    have:=h.dead (k-es.length) (by omega);rw[j,hb]at this;cases this
   |some e=>
    cases e with
    |elem b e i=>exact absurd he (g b e i)
    |whole K=>
     simp only[tgt,he,Ent.id]at j;subst j;obtain⟨x,hx,A⟩:=Jdh h.cin he;rcases A with⟨cs',l,h1,h2,rfl⟩|⟨w,z,rows',h1,rfl⟩
     ·rw[hb]at h1;cases h1
     ·rw[hb]at h1;injection h1 with h1;injection h1 with a1 a2 a3;subst a1 a2 a3
      obtain⟨wm',B,q1,q2,q3,L⟩:=h.trans.arr k _ _ _ hx;have ho:=h.out k _ q1;unfold Jcm at ho;rw[he]at ho;have y:=Jap h hk g;simp only[tgt,he,Ent.id]at y;rcases ho with⟨H,G,e1,e2,F⟩|⟨w,J,I,e1,e2⟩
      ·cases e1
      ·injection e1 with a1 a2 a3;subst a1 a2 a3;exact⟨wm',B,e2,q2,q3,λe=>by rw[y,L e,J5a he]⟩
  |elem k e i he=>
   obtain⟨z,rows',row,r',C,q,U,V,M,S,T,Q,P,N,E⟩:=J9r h he;rw[hb]at q;injection q with q;injection q with a1 a2 a3;subst a1 a2 a3
   exact⟨true,_,N,λ_=>rfl,by simp,λ_=>by rw[E,M]⟩
  |other h1 h2=>
   refine⟨wm,rows,by rw[<-hb];exact h.same b h1 h2,id,zQ0 _,λ_=>?_⟩;simp only[J3D];rw[Jif h1 h2]
include h in
theorem JQz:Inv (J3D s1 es new kf c' σ2):=by
 have hi:=h.cin.inv;have t:=JAj h;have O: ∀{b},¬(b∈es.map Ent.id\/(new<=b/\b<new+kf))->b∉es.map Ent.id/\(b<new\/new+kf<=b):=λhn=>⟨λhm=>hn (.inl hm),by omega⟩;have D: ∀{k b e i r o},es[k]?=some (.elem b e i)->(Wr1 (J8l s1 es blks) k r o↔Wr1 c' k r o):=by intro k b e i r o he;obtain⟨x,hx,ab⟩:=Jdh h.cin he;obtain⟨esz,rows,row,h1,h2,h3,rfl⟩:=ab;obtain⟨⟨cs',q1,q2⟩,q3⟩:=h.trans.box k _ hx;have a4:(J8l s1 es blks).σ[k]?=some (.box (row.map .p)):=hx;unfold Wr1;rw[a4,q1,q3];simp only[q2]
 have Q: ∀{k b r o},k<es.length+kf->Wr1 c' k r o->Wr1 s1 b r o->(∃n,es[n]?=some (.whole b)\/ ∃e i,es[n]?=some (.elem b e i)/\n=k):=by
  intro k b r o hk hw hb;rcases JA5 h ⟨k,hw⟩with⟨n,e,he,az,q⟩|hn
  ·have z:=hi.apart _ _ _ _ q hb;cases e with
   |whole b'=>simp only[Ent.id]at z;subst z;exact⟨n,.inl he⟩
   |elem b' e' i'=>
    simp only[Ent.id]at z;subst z;have:=h.inv.apart _ _ _ _ ((D he).1 az) hw;exact⟨n,.inr ⟨e',i',he,this⟩⟩
  ·have:=JlD hi b r o hb;omega
 refine Jaa hi t (λb=>b∈es.map Ent.id\/(new<=b/\b<new+kf)) ?_ ?_ ?_ ?_ ?_ ?_ ?_ ?_
 ·intro b hn;obtain⟨h1,h2⟩:=O hn;exact⟨h.same b h1 h2,by simp only[J3D];rw[Jif h1 h2]⟩
 ·intro b r o v hn hw hv;refine h.trans.keep.cell ?_ hv;rintro⟨k,hk⟩;obtain⟨E,q⟩:=Jf9 h.cin k r o hk;have he:es[k]?=some es[k]:=JK E;rw[Je0 he]at q;have:=hi.apart _ _ _ _ q hw;exact hn (.inl (this▸Jgb he))
 ·intro b cs hd hb;have hb:σ2[b]?=some (.box cs):=hb;cases J9I (es:=es) (new:=new) (kf:=kf) b with
  |other h1 h2=>rcases hd with hd|hd;exact absurd hd h1;omega
  |elem k e i he=>
   obtain⟨ao,rows',row,r',av,f1,f2,f3,f4,f5,f6,f7,f8,N,an⟩:=J9r h he;rw[hb]at N;cases N
  |out k hk U A=>
   subst U;have E:k<c'.σ.length:=by rw[h.len];exact hk
   have M:c'.σ[k]?=some c'.σ[k]:=JK E;have ho:=h.out k _ M;unfold Jcm at ho;have aa: ∃K,c'.σ[k]?=some (.box K)/\bk.bkL es new K=some cs:=by
    cases he:es[k]? with
    |some e=>
     cases e with
     |elem b e i=>exact absurd he (A b e i)
     |whole b'=>
      simp only[tgt,he,Ent.id]at hb;rw[he]at ho;rcases ho with⟨L,l',e1,e2,y⟩|⟨w,I,H,e1,e2⟩
      ·rw[hb]at y;injection y with y;injection y with y;subst y;exact⟨L,by rw[M,e1],e2⟩
      ·rw[hb]at e2;cases e2
    |none=>
     simp only[tgt,he]at hb;rw[he]at ho;rcases ho with⟨L,l',e1,e2,y⟩|⟨w,I,H,e1,e2⟩
     ·rw[hb]at y;injection y with y;injection y with y;subst y;exact⟨L,by rw[M,e1],e2⟩
     ·rw[hb]at e2;cases e2
   obtain⟨K,h0,hl⟩:=aa;obtain⟨k1,Z⟩:=J7s hl;obtain⟨r,o,c,e,fz,hm,hh,c0,hx,a8⟩:=h.inv.box _ _ h0;refine⟨r,o,c,e,fz,by rw[Jap h hk A];exact hm,hh,by omega,λi x aj=>?_,by rw[<-k1];exact a8⟩;have bw:=Ji aj;have ak:K[i]?=some (K[i]'(by omega)):=JK _;obtain⟨v,hv,hr,h1⟩:=hx i _ ak;exact⟨v,hv,JJL h hr (Z i _ x ak aj),h1⟩
 ·intro b wm esz rows hd hb;have hb:σ2[b]?=some (.arr wm esz rows):=hb;cases J9I (es:=es) (new:=new) (kf:=kf) b with
  |other h1 h2=>rcases hd with hd|hd;exact absurd hd h1;omega
  |elem k e i he=>
   obtain⟨ao,rows',row,r',av,f1,f2,f3,f4,f5,f6,f7,f8,N,an⟩:=J9r h he;rw[hb]at N;injection N with N;injection N with a1 a2 a3;subst a1 a2 a3
   have E:=Ji f3;rcases hi.arr _ _ _ _ f1 with⟨hm,hr⟩|⟨r,c,e1,fz,hm,hh,P,hl,hx,a8⟩
   ·subst hr;simp at f3
   ·rw[f4]at hm;injection hm with hm;injection hm with hm _;subst hm
    obtain⟨c2,q1,q2,q3⟩:=t.keep.2.1 _ _ _ _ hh;obtain⟨rr,oo,c3,y,bx,m3,T,bm,b7,bo⟩:=h.inv.box _ _ f5;rw[f8]at m3;injection m3 with m3;injection m3 with w1 w2;subst w1 w2
    have al:c'.w.heap[r']?=some (.cells c2 e1 fz):=q1;rw[al]at T;injection T with T;injection T with w1 w2 w3;subst w1 w2 w3
    refine .inr ⟨r',c2,e1,fz,an,q1,λc1 bb=>?_,by simp;omega,λR j ap x0 F Y=>⟨?_,λh=>by cases h⟩,by rw[q2];exact a8⟩
    ·rcases Jyy bb with hm|hm
     ·exact P _ hm
     ·subst hm;omega
    ·have ad:=Ji Y;by_cases am:R=i
     ·subst am;rw[JpO E]at F;injection F with F;subst F;obtain⟨v,hv,hr,_⟩:=b7 j (.p x0) (by simp[Y]);refine⟨v,hv,?_⟩;cases hr with|p _ _ hr=>exact hr
     ·rw[JlL (Ne.symm am)]at F;obtain⟨⟨v',bg,b3⟩,_⟩:=hx R j ap x0 F Y;refine⟨v',?_,b3.mono hi t⟩;have af:J0M s1.w r' (R*esz+j)=some v':=by rw[J2C hh];exact bg
      have b8:j<esz:=by rw[P _ (J0F F)]at ad;exact ad
      have b5: ¬Wr (J8l s1 es blks) r' (R*esz+j):=by
       rintro⟨n,g⟩;obtain⟨G,q⟩:=Jf9 h.cin n _ _ g;have C:es[n]?=some es[n]:=JK G;rw[Je0 C]at q;have bh:Wr1 s1 b r' (R*esz+j):=by unfold Wr1;rw[f1];exact⟨0,f4⟩
       have z:=hi.apart _ _ _ _ q bh;have B:n=k:=Jj3 h C he z;subst B;obtain⟨x,a4,ab⟩:=Jdh h.cin he;obtain⟨I,bi,V,g1,g2,g3,rfl⟩:=ab;rw[f1]at g1;injection g1 with g1;injection g1 with z1 z2 z3;subst z2 z3
       have aw:(J8l s1 es blks).σ[n]?=some (.box (V.map .p)):=a4;unfold Wr1 at g;rw[aw,Ji4 he f1 f4]at g;obtain⟨o0,m0,bz,b9⟩:=g;injection m0 with m0;injection m0 with _ m0;subst m0;have bq:=P V (J0F g3);simp at b9;rcases zQ1 R i with ay|bt
       ·have:=J6f ay b8;omega
       ·have:=zQ7 esz (show i+1<=R by omega);rw[J4c,JuB]at this;omega
      have:=h.trans.keep.cell b5 af;rw[J2C al]at this;exact this
  |out k hk U A=>
   subst U;have E:k<c'.σ.length:=by rw[h.len];exact hk
   have M:c'.σ[k]?=some c'.σ[k]:=JK E;have ho:=h.out k _ M;unfold Jcm at ho;have aa:c'.σ[k]?=some (.arr wm esz rows):=by
    cases he:es[k]? with
    |some e=>
     cases e with
     |elem b e i=>exact absurd he (A b e i)
     |whole b'=>
      simp only[tgt,he,Ent.id]at hb;rw[he]at ho;rcases ho with⟨L,l',e1,e2,y⟩|⟨w,I,H,e1,e2⟩
      ·rw[hb]at y;cases y
      ·rw[hb]at e2;injection e2 with e2;rw[M,e1,e2]
    |none=>
     simp only[tgt,he]at hb;rw[he]at ho;rcases ho with⟨L,l',e1,e2,y⟩|⟨w,I,H,e1,e2⟩
     ·rw[hb]at y;cases y
     ·rw[hb]at e2;injection e2 with e2;rw[M,e1,e2]
   rcases h.inv.arr _ _ _ _ aa with⟨hm,hr⟩|⟨r,c,e,fz,hm,hq⟩
   ·exact .inl ⟨by rw[Jap h hk A];exact hm,hr⟩
   ·exact .inr ⟨r,c,e,fz,by rw[Jap h hk A];exact hm,hq⟩
 ·
  intro b1 b2 r o hd h1 h2;cases J9I (es:=es) (new:=new) (kf:=kf) b1 with
  |other g1 g2=>rcases hd with hd|hd;exact absurd hd g1;omega
  |out k1 a9 bc ac=>
   subst bc;have w1:=(Jp0 h a9 ac r o).1 h1;cases J9I (es:=es) (new:=new) (kf:=kf) b2 with
   |out Z S a7 J=>
    subst a7;have w2:=(Jp0 h S J r o).1 h2;rw[h.inv.apart _ _ _ _ w1 w2]
   |elem Z e i he=>
    exfalso;have w2:=(JiW h he r o).1 h2;obtain⟨n,g|⟨e',i',g,B⟩⟩:=Q a9 w1 w2
    ·have:=Jj3 h g he rfl;subst this;rw[he]at g;cases g
    ·subst B;exact ac _ _ _ g
   |other g1 g2=>
    exfalso;have w2:=(Jus h g1 g2 r o).1 h2;obtain⟨n,g|⟨e',i',g,B⟩⟩:=Q a9 w1 w2
    ·exact g1 (Jgb g)
    ·exact g1 (Jgb g)
  |elem k1 e1 i1 W=>
   have w1:=(JiW h W r o).1 h1;cases J9I (es:=es) (new:=new) (kf:=kf) b2 with
   |out Z S a7 J=>
    subst a7;exfalso;have w2:=(Jp0 h S J r o).1 h2;obtain⟨n,g|⟨e',i',g,B⟩⟩:=Q S w2 w1
    ·have:=Jj3 h g W rfl;subst this;rw[W]at g;cases g
    ·subst B;exact J _ _ _ g
   |elem Z e i he=>exact hi.apart _ _ _ _ w1 ((JiW h he r o).1 h2)
   |other g1 g2=>exact hi.apart _ _ _ _ w1 ((Jus h g1 g2 r o).1 h2)
 ·exact λr o hc=>(h.inv.const r o hc).1
 ·intro r o b hc hd hw;cases J9I (es:=es) (new:=new) (kf:=kf) b with
  |other g1 g2=>rcases hd with hd|hd;exact absurd hd g1;omega
  |out k hk U A=>
   subst U;exact(h.inv.const r o hc).2 _ ((Jp0 h hk A r o).1 hw)
  |elem k e i he=>
   have w1:=(JiW h he r o).1 hw;rcases h.trans.cnew r o hc with a5|⟨n,g⟩|hn
   ·exact(hi.const r o a5).2 _ w1
   ·obtain⟨G,q⟩:=Jf9 h.cin n _ _ g;have C:es[n]?=some es[n]:=JK G;rw[Je0 C]at q;have z:=hi.apart _ _ _ _ q w1;have B:n=k:=Jj3 h C he z;subst B;exact(h.inv.const r o hc).2 _ ((D he).1 g)
   ·have hn:s1.w.heap.size<=r:=hn;have:=JlD hi _ _ _ w1;omega
 ·intro r o b hc ba hd hw;rcases h.trans.cnew r o hc with a5|⟨n,g⟩|hn
  ·exact ba a5
  ·obtain⟨G,q⟩:=Jf9 h.cin n _ _ g;have C:es[n]?=some es[n]:=JK G;rw[Je0 C]at q;have z:=hi.apart _ _ _ _ q hw;exact hd (.inl (z▸Jgb C))
  ·have hn:s1.w.heap.size<=r:=hn;have:=JlD hi _ _ _ hw;omega
end
end Go.Am
end
section
namespace Go.Am
section
variable {P:Program} {F:Orc} {s:Sn} {a:Act} {env:List (Nat×AV)} {o:Oper} {new:Nat} {e:Eff}
theorem JFY{o:List Blk}(hi:Inv s)(r:Frz o s.σ){x:AV}{y:AV×List (Nat×Blk)}{v:Value}(h:(J9X x).run ⟨env,o⟩=some y)(hr:JL s x v):
  ∃g',Inv ⟨upd y.2 s.σ,g',s.w⟩/\J0k s ⟨upd y.2 s.σ,g',s.w⟩/\Frz s.σ (upd y.2 s.σ)/\JL ⟨upd y.2 s.σ,g',s.w⟩ y.1 v:=by
 have same: ∀{z:AV},(RM.ret (z,[]):RM (AV×List (Nat×Blk))).run ⟨env,o⟩=some y->JL s z v-> ∃g',Inv ⟨upd y.2 s.σ,g',s.w⟩/\J0k s ⟨upd y.2 s.σ,g',s.w⟩/\Frz s.σ (upd y.2 s.σ)/\JL ⟨upd y.2 s.σ,g',s.w⟩ y.1 v:=by
  intro z hz hr;simp only[RM.run]at hz;injection hz with hz;subst hz
  exact⟨s.g,hi,.refl s,.refl _,hr⟩
 cases x with
 |slr b i n=>
  simp only[J9X]at h;obtain⟨A,h1,h⟩:=bind_some h;obtain⟨g',j,q,k,c,hc,C⟩:=JbI hi r h1 hr;rw[hc]at h;simp only[RM.run]at h;injection h with h;subst h
  exact⟨g',j,q,k,.p _ _ C⟩
 |agg cs=>
  simp only[J9X]at h;obtain⟨A,h1,h⟩:=bind_some h;simp only[RM.run]at h;injection h with h;subst h
  obtain⟨g',j,q,k,D,B⟩:=JEI hi r h1 hr;cases hr with
  |agg _ vs h1 E h2=>exact⟨g',j,q,k,.data _ _ D λi x v hx hv=>B i x v hx hv⟩
 |tup=>simp only[J9X,RM.run]at h;cases h
 |p c=>exact same h hr
 |data cs=>exact same h hr
 |ptr b off=>exact same h hr
 |cp cs off=>exact same h hr
 |ep b e i off=>exact same h hr
 |fn f first caps=>exact same h hr
 |unk=>exact same h hr
theorem JA3{r:List Blk}: ∀{xs:List AV} {s:Sn} {y:List AV×List (Nat×Blk)} {vs:List Value},Inv s->Frz r s.σ->(J7N xs).run ⟨env,r⟩=some y->xs.length=vs.length->
  (∀(i:Nat) x v,xs[i]?=some x->vs[i]?=some v->JL s x v)->
  ∃g',Inv ⟨upd y.2 s.σ,g',s.w⟩/\J0k s ⟨upd y.2 s.σ,g',s.w⟩/\Frz s.σ (upd y.2 s.σ)/\y.1.length=vs.length/\
   ∀(i:Nat) x v,y.1[i]?=some x->vs[i]?=some v->JL ⟨upd y.2 s.σ,g',s.w⟩ x v
 |[],s,y,vs,hi,j,h,hl,hr=>by
  simp only[J7N,RM.run]at h;injection h with h;subst h
  exact⟨s.g,hi,.refl s,.refl _,by simpa using hl,λi c v hc=>by simp at hc⟩
 |x::xs,s,y,[],hi,j,h,hl,hr=>by simp at hl
 |x::xs,s,y,v::vs,hi,j,h,hl,hr=>by
  simp only[J7N]at h;obtain⟨k,h1,h⟩:=bind_some h;obtain⟨G,h2,h⟩:=bind_some h;simp only[RM.run]at h;injection h with h;subst h
  obtain⟨g1,z,q,o,B⟩:=JFY hi j h1 (hr 0 x v rfl rfl);obtain⟨g2,C,n,D,F,E⟩:=JA3 (s:=⟨upd k.2 s.σ,g1,s.w⟩) z (j.trans o) h2 (by simpa using hl) λi x v hx hv=>(hr (i+1) x v (by simpa using hx) (by simpa using hv)).mono hi q;refine⟨g2,by rw[J1A];exact C,by rw[J1A];exact q.trans n,by rw[J1A];exact o.trans D,by simp[F],λi c' A hc' e=>?_⟩;rw[J1A];cases i with
  |zero=>
   simp at hc' e;subst hc' e;exact JL.mono (s0:=⟨upd k.2 s.σ,g1,s.w⟩) (s:=⟨upd G.2 (upd k.2 s.σ),g2,s.w⟩) z n B
  |succ i=>exact E i c' A (by simpa using hc') (by simpa using e)
def JNS(s1:Sn)(es:List Ent)(new:Nat)(e:Ent)(x:Blk)(y:Nat×Blk):Prop:=
 y.1=e.id/\match e with
 | .whole _=>(∃cs l,x=.box cs/\bk.bkL es new cs=some l/\y.2=.box l)\/(∃w esz rows,x=.arr w esz rows/\y.2=.arr w esz rows)
 | .elem b _ i=> ∃w esz rows g,s1.σ[b]?=some (.arr w esz rows)/\x=.box (g.map .p)/\y.2=.arr w esz (rows.set i g)
theorem JLD{j:List Blk}{ws:List (Nat×Blk)}(k:s.σ=upd ws j){es:List Ent}{en:Ent}{x:Blk}{y:Nat×Blk}(h:(J8P ws es new en x).run ⟨env,j⟩=some y):JNS s es new en x y:=by
 unfold J8P at h;split at h
 ·rename_i b cs;split at h
  ·rename_i l hl;simp only[RM.run]at h;injection h with h;subst h
   exact⟨rfl,.inl ⟨cs,l,rfl,hl,rfl⟩⟩
  ·cases h
 ·simp only[RM.run]at h;injection h with h;subst h
  exact⟨rfl,.inr ⟨_,_,_,rfl,rfl⟩⟩
 ·rename_i b ext i cs;obtain⟨z,h1,h⟩:=bind_some h;have hb:=Jue h1;rw[<-k]at hb;cases z with
  |arr w esz rows=>
   dsimp only at h;split at h
   ·rename_i e g;simp only[RM.run]at h;injection h with h;subst h
    exact⟨rfl,w,esz,rows,e,hb,by rw[JlS g],rfl⟩
   ·cases h
  |_=>cases h
 ·cases h
theorem Jti{n:List Blk}{ws:List (Nat×Blk)}(o:s.σ=upd ws n){es:List Ent}: ∀{g:List Ent} {xs:List Blk} {j:List (Nat×Blk)},(J3r ws es new g xs).run ⟨env,n⟩=some j->
  g.length=j.length/\g.length<=xs.length/\ ∀(k:Nat) en x y,g[k]?=some en->xs[k]?=some x->j[k]?=some y->JNS s es new en x y
 |[],xs,j,h=>by simp only[J3r,RM.run]at h;injection h with h;subst h;exact⟨rfl,zQ5 _,λk e x y h=>by simp at h⟩
 |_::_,[],j,h=>by cases h
 |en::g,x::xs,j,h=>by
  simp only[J3r]at h;obtain⟨y,h1,h⟩:=bind_some h;obtain⟨l,h2,h⟩:=bind_some h;simp only[RM.run]at h;injection h with h;subst h
  obtain⟨q,z,r⟩:=Jti o h2;refine⟨by simp[q],by simpa using z,λk e' w v he hx hy=>?_⟩;cases k with
  |zero=>simp at he hx hy;subst he hx hy;exact JLD o h1
  |succ k=>exact r k e' w v (by simpa using he) (by simpa using hx) (by simpa using hy)
theorem JiF{es:List Ent}: ∀{xs:List Blk} {g:Nat} {e:List (Nat×Blk)},J2I es new g xs=some e->
  xs.length=e.length/\ ∀(j:Nat) x y,xs[j]?=some x->e[j]?=some y->y.1=g+j/\((∃cs l,x=.box cs/\bk.bkL es new cs=some l/\y.2=.box l)\/(∃w esz rows,x=.arr w esz rows/\y.2=.arr w esz rows))
 |[],g,e,h=>by simp[J2I]at h;subst h;exact⟨rfl,λj x y h=>by simp at h⟩
 | .dead::_,g,e,h=>by simp[J2I]at h
 | .box cs::xs,g,e,h=>by
   simp only[J2I]at h;split at h
   ·rename_i c l hc hl;injection h with h;subst h;obtain⟨k,n⟩:=JiF hl;refine⟨by simp[k],λj x y hx hy=>?_⟩;cases j with
    |zero=>simp at hx hy;subst hx hy;exact⟨rfl,.inl ⟨cs,c,rfl,hc,rfl⟩⟩
    |succ j=>obtain⟨h1,h2⟩:=n j x y (by simpa using hx) (by simpa using hy);exact⟨by omega,h2⟩
   ·cases h
 | .arr w esz rows::xs,g,e,h=>by
   simp only[J2I]at h;split at h
   ·rename_i l hl;injection h with h;subst h;obtain⟨k,n⟩:=JiF hl;refine⟨by simp[k],λj x y hx hy=>?_⟩;cases j with
    |zero=>simp at hx hy;subst hx hy;exact⟨rfl,.inr ⟨w,esz,rows,rfl,rfl⟩⟩
    |succ j=>obtain⟨h1,h2⟩:=n j x y (by simpa using hx) (by simpa using hy);exact⟨by omega,h2⟩
   ·cases h
theorem JAa(b:Nat)(p q:List (Nat×Blk)):J5c b (p++q)=match J5c b q with
  |some y=>some y
  |none=>J5c b p:=by
 induction p with
 |nil=>simp[J5c];cases J5c b q<;>rfl
 |cons x p ih=>
  obtain⟨c,z⟩:=x;simp only[JiJ,J5c,ih];cases J5c b q<;>rfl
theorem Ju9{b:Nat}{x:Blk}: ∀{ws:List (Nat×Blk)},(ws.map (·.1)).Nodup-> ∀{k:Nat},ws[k]?=some (b,x)->J5c b ws=some x
 |[],_,k,h=>by simp at h
 |(c,z)::r,hn,k,h=>by
  obtain⟨h1,h2⟩:=List.nodup_cons.1 hn;simp only[J5c];cases k with
  |zero=>
   simp at h;obtain⟨rfl,rfl⟩:=h;rw[J6h h1];simp
  |succ k=>rw[Ju9 h2 (k:=k) (by simpa using h)]
theorem JIj(n k:Nat):((List.range k).map (n+ ·)).Nodup:=by rw[List.Nodup,List.pairwise_map];exact(List.nodup_range (n:=k)).imp λh e=>h (by omega)
theorem JA6(hF:J5J P F){f:FuncId}{ar:List AV×List (Nat×Blk)}{q:Nat}{vals:Array Value}(K: ∀j,j<q->s.σ[new+j]?=some .dead)
  {g1:Gh} (i1:Inv ⟨upd ar.2 s.σ,g1,s.w⟩) (t1:J0k s ⟨upd ar.2 s.σ,g1,s.w⟩) (f1:Frz s.σ (upd ar.2 s.σ)) (l1:ar.1.length=vals.toList.length)
  (r1: ∀(i:Nat) x v,ar.1[i]?=some x->vals.toList[i]?=some v->JL ⟨upd ar.2 s.σ,g1,s.w⟩ x v)
  (h:(J2O F f ar q new).run ⟨env,s.σ⟩=some e)
  (aj: ∀fn,P.funcs[f]?=some fn→fn.body.isSome=true→(fn.name== "runtime.NumGoroutine")=false→(execOp a.eval o).run P s.w=.ok (.enter f vals) s.w):J1b P o a s e:=by
 unfold J2O at h;obtain⟨az,h2,h⟩:=bind_some h;obtain⟨es,h3,h⟩:=bind_some h;split at h
 ·rename_i ai;split at h
  ·cases h
  ·rename_i R aa;obtain⟨blks,h4,h⟩:=bind_some h;split at h
   ·cases h
   ·rename_i r ad;split at h
    ·rename_i Y;obtain⟨k,hlen,hk⟩: ∃k,r.2.length=es.length+k/\k<=q:=⟨r.2.length-es.length,by omega,by omega⟩;have O: ∀j,j<k->s.σ[new+j]?=some .dead:=λj hj=>K j (by omega);clear Y;split at h
     ·rename_i v fresh hv M;obtain⟨n,h5,h⟩:=bind_some h;simp only[RM.run]at h;injection h with h;subst h
      let s1:Sn:=⟨upd ar.2 s.σ,g1,s.w⟩
      obtain⟨bl,a8⟩:=Jw0 (s:=s1) rfl h4;have cin:JEY s1 es blks:=⟨i1,JeZ ai,bl,a8⟩;obtain⟨⟨fn,ah,S,U⟩,T⟩:=hF f R blks r ad;obtain⟨q1,q2⟩:=J6c aa;have ci:=JT3 cin;have hc:=T (J8l s1 es blks).g s.w vals ci (by rw[<-q1,l1];simp) (λi x v hx hv=>by have z:=Ji hx;have a0:ar.1[i]?=some (ar.1[i]'(by omega)):=JK _;exact JNE cin (r1 i _ v a0 (by simpa using hv)) (q2 i _ x a0 hx))
      intro next Q V;simp only[Oper.wp,aj fn ah S U,Oper.upon];refine hc.mono ?_;rintro e w' ⟨rv,g',rfl,ab,L,a6⟩;simp only;obtain⟨b1,b2,b3⟩:=Jti (s:=s1) rfl h5;obtain⟨n1,n2⟩:=JiF M;have A: ∀j,j<k->s1.σ[new+j]?=some .dead:=λj hj=>f1.2 _ _ (O j hj) (by simp);have b4:(r.2.drop es.length).length=k:=by simp;omega
      have N:n.map (·.1)=es.map Ent.id:=by
       apply Jp5;intro i;rw[J2c,J2c];by_cases z:i<es.length
       ·have e1:es[i]?=some es[i]:=JK z;have e2:n[i]?=some (n[i]'(by omega)):=JK _;have C:r.2[i]?=some (r.2[i]'(by omega)):=JK _;have:=(b3 i _ _ _ e1 C e2).1;rw[e1,e2];simp[this]
       ·rw[zQ3 (by omega),zQ3 (by omega)];rfl
      have G: ∀j,j<k->fresh[j]?=some (new+j,(fresh[j]?.map (·.2)).getD .dead):=by intro j hj;have e1:fresh[j]?=some (fresh[j]'(by omega)):=JK _;have e2:(r.2.drop es.length)[j]?=some ((r.2.drop es.length)[j]'(by omega)):=JK _;have:=(n2 j _ _ e2 e1).1;rw[e1];simp[<-this]
      have a3:(fresh.map (·.1)).Nodup:=by
       have:fresh.map (·.1)=(List.range k).map (new+ ·):=by
        apply Jp5;intro j;by_cases hj:j<k
        ·rw[J2c,G j hj,J2c,Jm7 hj];rfl
        ·rw[zQ3 (by simp;omega),zQ3 (by simp;omega)]
       rw[this];exact JIj new k
      have H: ∀b,b∈fresh.map (·.1)↔new<=b/\b<new+k:=by
       intro b;constructor
       ·intro hm;obtain⟨j,hj⟩:=J9V hm;have z:=Ji hj;simp at z;rw[J2c,G j (by omega)]at hj;simp at hj;omega
       ·intro hm;have:=G (b-new) (by omega);rw[show new+(b-new)=b by omega]at this;exact J4J.2 ⟨_,J0F this,rfl⟩
      have Z:(upd (n++fresh) s1.σ).length=s1.σ.length:=Jd6 _ _;have W: ∀{q:Nat} {en:Ent},es[q]?=some en->en.id<s1.σ.length/\ ¬(new<=en.id/\en.id<new+k):=by
       intro q en he;obtain⟨x,_,a2⟩:=Jdh cin he;have hy: ∃y,s1.σ[en.id]?=some y/\y≠.dead:=by
        cases en with
        |whole b=>
         rcases a2 with⟨cs',l,h1,h2,rfl⟩|⟨w,a5,rows',h1,rfl⟩
         ·exact⟨_,h1,by simp⟩
         ·exact⟨_,h1,by simp⟩
        |elem b ext i=>
         obtain⟨a5,rows',row,h1,h2,h3,rfl⟩:=a2;exact⟨_,h1,by simp⟩
       obtain⟨y,hy,hd⟩:=hy;refine⟨Ji hy,λhm=>?_⟩;have:=A (en.id-new) (by omega);rw[show new+(en.id-new)=en.id by omega,hy]at this;injection this with this;exact hd this
      have af: ∀{q:Nat} {en:Ent} {y:Nat×Blk},es[q]?=some en->n[q]?=some y->(upd (n++fresh) s1.σ)[en.id]?=some y.2:=by intro q en y he hy;obtain⟨z,ag⟩:=W he;have C:r.2[q]?=some (r.2[q]'(by have:=Ji he;omega)):=JK _;have D:=(b3 q en _ y he C hy).1;rw[Jbj _ _ _ z,JAa,J6h (by rw[H];exact ag)];simp only;rw[Ju9 (x:=y.2) (by rw[N];exact cin.nodup) (k:=q) (by rw[hy,<-D])]
      have ac: ∀{j:Nat} {y:Nat×Blk},j<k->fresh[j]?=some y->(upd (n++fresh) s1.σ)[new+j]?=some y.2:=by intro j y hj hy;have z:=Ji (A j hj);have e2:(r.2.drop es.length)[j]?=some ((r.2.drop es.length)[j]'(by omega)):=JK _;have D:=(n2 j _ _ e2 hy).1;rw[Jbj _ _ _ z,JAa,Ju9 (x:=y.2) a3 (k:=j) (by rw[hy,<-D])]
      have co:JK2 s1 es blks new k ⟨r.2,g',w'⟩ (upd (n++fresh) s1.σ):=by
       refine⟨cin,ab,L,hlen,Z,A,λq y hy=>?_,λb ak b0=>?_⟩
       ·have hy:r.2[q]?=some y:=hy;unfold Jcm;cases he:es[q]? with
        |some en=>
         have z:=Ji he;have e2:n[q]?=some (n[q]'(by omega)):=JK _;obtain⟨D,I⟩:=b3 q en y _ he hy e2;have J:=af he e2;cases en with
         |whole b=>
          rcases I with⟨cs,l,e1,C,B⟩|⟨w,esz,rows,e1,B⟩
          ·exact .inl ⟨cs,l,e1,C,by rw[<-B];exact J⟩
          ·exact .inr ⟨w,esz,rows,e1,by rw[<-B];exact J⟩
         |elem b ext i=>
          obtain⟨w,esz,rows,a7,e1,C,B⟩:=I;exact⟨w,esz,rows,a7,e1,C,by rw[<-B];exact J⟩
        |none=>
         have a1:es.length<=q:=by
          rcases zQ1 q es.length with z|a1
          ·rw[JK z]at he;cases he
          ·exact a1
         have z:=Ji hy;have e2:fresh[q-es.length]?=some (fresh[q-es.length]'(by omega)):=JK _;have C:(r.2.drop es.length)[q-es.length]?=some y:=by rw[Jb3,<-hy];congr 1;omega
         obtain⟨D,I⟩:=n2 _ _ _ C e2;have J:=ac (j:=q-es.length) (by omega) e2;rcases I with⟨cs,l,e1,e5,B⟩|⟨w,esz,rows,e1,B⟩
         ·exact .inl ⟨cs,l,e1,e5,by rw[<-B];exact J⟩
         ·exact .inr ⟨w,esz,rows,e1,by rw[<-B];exact J⟩
       ·by_cases z:b<s1.σ.length
        ·rw[Jbj _ _ _ z,J6h];rw[Jc6,J2a,N,H];rintro(h|h)
         ·exact ak h
         ·omega
        ·rw[zQ3 (by omega),zQ3 (by omega)]
      have oi:=JQz co;have ot:=JAj co;have E:upd (ar.2++n++fresh) s.σ=upd (n++fresh) s1.σ:=by rw[Jb1,J1A]
      refine V rv w' (J3D s1 es new k ⟨r.2,g',w'⟩ (upd (n++fresh) s1.σ)).g ?_ ?_ ?_
      ·rw[E];exact oi
      ·rw[E];exact t1.trans ot
      ·rw[E];exact JJL co a6 hv
     ·cases h
    ·cases h
 ·cases h
theorem JJY{f:FuncId}{args:List AV}{k:Nat}{s:St}(h:(J5O F f args k new).run s=some e): ∃ar,(J7N args).run s=some ar/\(J2O F f ar k new).run s=some e:=by
 unfold J5O at h;obtain⟨ar,h1,h⟩:=bind_some h;obtain⟨q,h2,h⟩:=bind_some h;obtain⟨es,h3,h⟩:=bind_some h;refine⟨ar,h1,?_⟩;unfold J2O;rw[run_bind,h2,JJ,run_bind,h3,JJ];split at h
 ·rename_i n;rw[if_pos n];split at h
  ·cases h
  ·rename_i o g;obtain⟨blks,h4,h⟩:=bind_some h
   try rw[g]
   try dsimp only
   rw[run_bind,h4,JJ];split at h
   ·cases h
   ·rename_i r j
    try rw[j]
    try dsimp only
    split at h
    ·rename_i hlen;rw[if_pos (by omega)];exact h
    ·cases h
 ·cases h
theorem JJV(y:J5J P F)(hi:Inv s){f:FuncId}{args:List AV}{k:Nat}{vals:Array Value}(g: ∀j,j<k->s.σ[new+j]?=some .dead)
  (h:(J5O F f args k new).run ⟨env,s.σ⟩=some e) (hl:args.length=vals.size) (hr: ∀(i:Nat) x v,args[i]?=some x->vals[i]?=some v->JL s x v)
  (n: ∀fn,P.funcs[f]?=some fn→fn.body.isSome=true→(fn.name== "runtime.NumGoroutine")=false→(execOp a.eval o).run P s.w=.ok (.enter f vals) s.w):J1b P o a s e:=by
 obtain⟨ar,h1,h2⟩:=JJY h;obtain⟨g1,A,z,r,B,q⟩:=JA3 (vs:=vals.toList) hi (.refl _) h1 (by simpa using hl) (λi x v hx hv=>hr i x v hx (by simpa using hv));exact JA6 y g A z r B q h2 n
theorem JN3{o:List Blk}: ∀{m:List Bool} {xs:List AV} {s:Sn} {y:List AV×List (Nat×Blk)} {vs:List Value},Inv s->Frz o s.σ->(J3v m xs).run ⟨env,o⟩=some y->xs.length=vs.length->
  (∀(i:Nat) x v,xs[i]?=some x->vs[i]?=some v->JL s x v)->
  ∃g',Inv ⟨upd y.2 s.σ,g',s.w⟩/\J0k s ⟨upd y.2 s.σ,g',s.w⟩/\Frz s.σ (upd y.2 s.σ)/\y.1.length=vs.length/\
   ∀(i:Nat) x v,y.1[i]?=some x->vs[i]?=some v->JL ⟨upd y.2 s.σ,g',s.w⟩ x v:=by
 intro m xs
 induction xs generalizing m with
 |nil=>
  intro s y vs hi n h hl hr;have h:(RM.ret ([],[]):RM (List AV×List (Nat×Blk))).run ⟨env,o⟩=some y:=by cases m<;>exact h
  simp only[RM.run]at h;injection h with h;subst h
  exact⟨s.g,hi,.refl s,.refl _,by simpa using hl,λi c v hc=>by simp at hc⟩
 |cons x xs ih=>
  intro s y vs hi n h hl hr;cases vs with
  |nil=>simp at hl
  |cons v vs=>
   have q: ∀{A:List Bool},((J9X x).bind λa=>(J3v A xs).bind λc=>.ret (a.1::c.1,a.2++c.2)).run ⟨env,o⟩=some y->
     ∃g',Inv ⟨upd y.2 s.σ,g',s.w⟩/\J0k s ⟨upd y.2 s.σ,g',s.w⟩/\Frz s.σ (upd y.2 s.σ)/\y.1.length=(v::vs).length/\
      ∀(i:Nat) x j,y.1[i]?=some x->(v::vs)[i]?=some j->JL ⟨upd y.2 s.σ,g',s.w⟩ x j:=by
    intro A h;obtain⟨z,h1,h⟩:=bind_some h;obtain⟨H,h2,h⟩:=bind_some h;simp only[RM.run]at h;injection h with h;subst h
    obtain⟨g1,G,F,E,I⟩:=JFY hi n h1 (hr 0 x v rfl rfl);obtain⟨g2,r,k,B,D,C⟩:=ih (m:=A) (s:=⟨upd z.2 s.σ,g1,s.w⟩) G (n.trans E) h2 (by simpa using hl) λi x v hx hv=>(hr (i+1) x v (by simpa using hx) (by simpa using hv)).mono hi F;refine⟨g2,by rw[J1A];exact r,by rw[J1A];exact F.trans k,by rw[J1A];exact E.trans B,by simp[D],λi c' j hc' e=>?_⟩;rw[J1A];cases i with
    |zero=>
     simp at hc' e;subst hc' e;exact JL.mono (s0:=⟨upd z.2 s.σ,g1,s.w⟩) (s:=⟨upd H.2 (upd z.2 s.σ),g2,s.w⟩) G k I
    |succ i=>exact C i c' j (by simpa using hc') (by simpa using e)
   cases m with
   |nil=>exact q h
   |cons b m=>
    cases b with
    |false=>exact q h
    |true=>
     simp only[J3v]at h;obtain⟨H,h2,h⟩:=bind_some h;simp only[RM.run]at h;injection h with h;subst h
     obtain⟨g2,r,k,B,D,C⟩:=ih (m:=m) hi n h2 (by simpa using hl) λi x v hx hv=>hr (i+1) x v (by simpa using hx) (by simpa using hv);refine⟨g2,r,k,B,by simp[D],λi c' j hc' e=>?_⟩;cases i with
     |zero=>
      simp at hc' e;subst hc' e;exact(hr 0 x v rfl rfl).mono hi k
     |succ i=>exact C i c' j (by simpa using hc') (by simpa using e)
theorem Jfm{f:FuncId}{args:Array Value}{fn:Func}(h1:P.funcs[f]?=some fn)(h2:fn.body.isSome=true)(h3:(fn.name== "runtime.NumGoroutine")=false)(w:World):
  (callFunc f args).run P w=.ok (.enter f args) w:=by
 have e:fn.name≠ "runtime.NumGoroutine" :=by simpa using h3
 have h4:fn.body≠none:=by intro h;rw[h]at h2;cases h2
 simp[callFunc,h1,e,h4]
theorem JQS(A:J5J P F)(hi:Inv s)(he:J0j s a.tmps env){f args k}(n: ∀j,j<k->s.σ[new+j]?=some .dead)(h:(opR F (.call f args k) new).run ⟨env,s.σ⟩=some e)
  (hc:J01 P (.call f args k) o.op=true):J1b P o a s e:=by
 simp only[opR]at h;obtain⟨vs,h1,z⟩:=bind_some h;clear h;unfold J01 at hc;simp only at hc;split at hc
 ·rename_i c y;split at hc
  ·rename_i g w;simp only[J02,beq_iff_eq]at hc;obtain⟨rfl,q⟩:=hc;obtain⟨l,r⟩:=Jfh he h1 q;refine JJV A hi n z (vals:=c.args.map a.eval) (by simpa using l) (λi x v hx hv=>r i x v hx (by simpa using hv)) λfn g1 g2 B=>?_;simp[execOp,y,resolve,w,Act.eval,Deferred.ofValue,invoke,Jfm g1 g2 B]
  ·cases hc
 ·cases hc
theorem JO7(C:J5J P F)(hi:Inv s)(he:J0j s a.tmps env){f keep args k}(n: ∀j,j<k->s.σ[new+j]?=some .dead)(h:(opR F (.callo f keep args k) new).run ⟨env,s.σ⟩=some e)
  (hc:J01 P (.callo f keep args k) o.op=true):J1b P o a s e:=by
 simp only[opR]at h;obtain⟨vs,h1,z⟩:=bind_some h;obtain⟨ar,h2,h3⟩:=bind_some z;clear h z;unfold J01 at hc;simp only at hc;split at hc
 ·rename_i c y;split at hc
  ·rename_i g w;simp only[J02,beq_iff_eq]at hc;obtain⟨rfl,q⟩:=hc;obtain⟨l,r⟩:=Jfh he h1 q;obtain⟨g1,E,D,B,G,A⟩:=JN3 (vs:=(c.args.map a.eval).toList) hi (.refl _) h2 (by simpa using l) (λi x v hx hv=>r i x v hx (by simpa using hv));refine JA6 C n (vals:=c.args.map a.eval) E D B G A h3 λfn g1 g2 H=>?_;simp[execOp,y,resolve,w,Act.eval,Deferred.ofValue,invoke,Jfm g1 g2 H]
  ·cases hc
 ·cases hc
theorem JO5(J:J5J P F)(hi:Inv s)(he:J0j s a.tmps env){x args k}(g: ∀j,j<k->s.σ[new+j]?=some .dead)(h:(opR F (.callv x args k) new).run ⟨env,s.σ⟩=some e)
  (hc:J01 P (.callv x args k) o.op=true):J1b P o a s e:=by
 simp only[opR]at h;obtain⟨u,I,A⟩:=bind_some h;clear h;unfold J01 at hc;simp only at hc;split at hc
 ·rename_i c C;split at hc
  ·rename_i y B;simp only[J02]at hc;obtain⟨hx,n⟩:=hc;have E:=J0b he I hx;cases u with
   |fn f first caps=>
    dsimp only at A;obtain⟨vs,h1,D⟩:=bind_some A;obtain⟨l,r⟩:=Jfh he h1 n;generalize hz:a.eval y=z at E;cases E with
    |fn _ _ _ fs cs K M G H=>
     have N:vs.length=c.args.size:=by simpa using l
     refine JJV J hi g D (vals:=fs++c.args.map a.eval++cs) (by simp;omega) (λi x v hx hv=>?_) λfn g1 g2 L=>?_
     ·rcases JcZ hx with hx|⟨q,hx⟩
      ·have w:=Ji hx;rw[Jr6 (by simp at w⊢;omega)]at hv;rcases JcZ hx with hx|⟨q,hx⟩
       ·have w:=Ji hx;rw[Jr6 (by omega)]at hv;exact G i x v hx hv
       ·rw[Array.getElem?_append_right (by omega)]at hv;exact r _ x v hx (by rw[<-K]at hv;simpa using hv)
      ·rw[Array.getElem?_append_right (by simp at q⊢;omega)]at hv;refine H _ x v hx ?_;rw[<-hv];congr 1;simp;omega
     ·simp[execOp,C,resolve,B,hz,Deferred.ofValue,invoke,Jfm g1 g2 L]
   |_=>cases A
  ·cases hc
 ·cases hc
end
end Go.Am
end
section
namespace Go.Am
section
variable {P:Program} {F:Orc} {s:Sn} {a:Act} {env:List (Nat×AV)} {o:Oper} {new:Nat} {e:Eff}
theorem JuO: ∀(os:List (Nat×Nat)) (n:Nat) {s:Sn},Inv s->(∀j,j<os.length->s.σ[n+j]?=some .dead)->
  ∃g',Inv ⟨upd (J54 os n) s.σ,g',s.w⟩/\J0k s ⟨upd (J54 os n) s.σ,g',s.w⟩/\
   (∀j,j<os.length->(∃esz,(upd (J54 os n) s.σ)[n+j]?=some (.arr true esz []))/\g'.μ (n+j)=none)/\
   (∀b,b<n\/n+os.length<=b->(upd (J54 os n) s.σ)[b]?=s.σ[b]?/\g'.μ b=s.g.μ b)
 |[],n,s,hi,_=>⟨s.g,hi,.refl s,λj hj=>by simp at hj,λb _=>⟨rfl,rfl⟩⟩
 |(off,esz)::r,n,s,hi,hd=>by
  obtain⟨q,o⟩:=JrO hi (hd 0 (by simp)) esz;obtain⟨g',k,h,h1,h2⟩:=JuO r (n+1) (s:=⟨s.σ.set n (.arr true esz []),J5r s.g n none,s.w⟩) q (λj hj=>by show(s.σ.set n _)[n+1+j]?=_;rw[J0t (by omega)];have:=hd (j+1) (by simp;omega);rw[show n+1+j=n+(j+1) by omega];exact this)
  refine⟨g',k,o.trans h,λj hj=>?_,λb hb=>?_⟩
  ·cases j with
   |zero=>
    obtain⟨e1,e2⟩:=h2 n (.inl (by omega));refine⟨⟨esz,?_⟩,?_⟩
    ·show(upd (J54 r (n+1)) (s.σ.set n (.arr true esz [])))[n+0]?=_;rw[JaY];exact e1.trans (J16 (hd 0 (by simp)))
    ·rw[JaY,e2];exact if_pos rfl
   |succ j=>
    have:=h1 j (by simpa using hj);rw[show n+(j+1)=n+1+j by omega];exact this
  ·obtain⟨e1,e2⟩:=h2 b (by simp at hb;omega);have e:n≠b:=by simp at hb;omega
   exact⟨e1.trans (J0t e),e2.trans (if_neg (Ne.symm e))⟩
theorem Jvm{t:TypeId}{os:List (Nat×Nat)}{v:Value}(hv:zeT P t=some v)(h:JDx P t os=true): ∀x∈os,v.cells[x.1]?=some (.slice none 0 0):=by
 intro x hx;unfold JDx at h;rw[hv]at h;have:=Juz.1 h x hx;split at this
 ·assumption
 ·cases this
theorem JuR{cells:Array Value}: ∀(os:List (Nat×Nat)) (n:Nat) {cs:List AV},(∀x∈os,cells[x.1]?=some (.slice none 0 0))->
  (∀j,j<os.length->(∃esz,s.σ[n+j]?=some (.arr true esz []))/\s.g.μ (n+j)=none)->
  (∀(i:Nat) x,cs[i]?=some x-> ∃u,cells[i]?=some u/\JL s x u/\u.oneCell'=true)->
  ∀(i:Nat) x,(Jd2 os n cs)[i]?=some x-> ∃u,cells[i]?=some u/\JL s x u/\u.oneCell'=true
 |[],_,_,_,_,h=>h
 |(off,esz)::r,n,cs,hz,ha,h=>by
  refine JuR r (n+1) (λx hx=>hz x (by simp[hx])) (λj hj=>by have:=ha (j+1) (by simpa using hj);rw[show n+1+j=n+(j+1) by omega];exact this) λi x hx=>?_
  by_cases hi:off=i
  ·subst hi;have e:=Ji hx;rw[List.length_set]at e;rw[JpO e]at hx;injection hx with hx;subst hx;obtain⟨⟨k,h1⟩,h2⟩:=ha 0 (by simp);rw[JaY]at h1 h2;exact⟨.slice none 0 0,hz (off,esz) (by simp),.slr n 0 0 _ true k [] ⟨none,0,rfl,.inl rfl⟩ h1 (zQ0 _) λ_=>.inl ⟨h2,rfl,rfl,rfl⟩,rfl⟩
  ·rw[JlL hi]at hx;exact h i x hx
theorem Jud: ∀(os:List (Nat×Nat)) (n:Nat) (cs:List AV),(Jd2 os n cs).length=cs.length
 |[],_,_=>rfl
 |_::r,n,cs=>(Jud r (n+1) _).trans (by simp)
theorem JKs(hi:Inv s){zero os}(n: ∀j,j<os.length+1->s.σ[new+j]?=some .dead)(h:(opR F (.newboxo zero os) new).run ⟨env,s.σ⟩=some e)(hc:J01 P (.newboxo zero os) o.op=true):J1b P o a s e:=by
 simp only[opR,RM.run]at h;injection h with h;subst h;unfold J01 at hc;simp only at hc;split at hc
 ·rename_i t r;simp only[J02]at hc;obtain⟨hz,hn⟩:=hc;obtain⟨v,hv,hl,hr⟩:=J50 hz;obtain⟨g1,B,A,h1,h2⟩:=JuO os new hi λj hj=>n j (by omega);have hd:(upd (J54 os new) s.σ)[new+os.length]?=some .dead:=((h2 _ (.inr (zQ0 _))).1).trans (n _ (by omega))
  let s1:Sn:=⟨upd (J54 os new) s.σ,g1,s.w⟩
  obtain⟨D,t'⟩:=JrV (s0:=s1) B hd (blk:=.box (Jd2 os new (zero.map .p))) (c:=v.cells) (e:=t) (fz:=(0,0)) (w':={s.w with heap:=s.w.heap.push (.cells v.cells t)}) rfl rfl rfl
   (λo _ _ h=>by simp at h) (λ_ _ _ h=>by cases h) ⟨by simp[Jud,hl],λi x hx=>by
    obtain⟨u,hu,y,q⟩:=JuR (s:=s1) (cells:=v.cells) os new (Jvm hv hn) h1 (λi x hx=>by
     rw[J2c]at hx;cases hzi:zero[i]? with
     |none=>simp[hzi]at hx
     |some c=>
      simp[hzi]at hx;subst hx;have E:=Ji hzi;have z:i<v.cells.size:=by omega
      have:=hr (w:=s1.w) (C:=s1.g.C) i c v.cells[i] hzi (by simp);exact⟨v.cells[i],by simp,.p _ _ this,this.one⟩) i x hx
    exact⟨u,hu,y,q⟩⟩
  have k:upd (J54 os new++[(new+os.length,Blk.box (Jd2 os new (zero.map .p)))]) s.σ=(upd (J54 os new) s.σ).set (new+os.length) (.box (Jd2 os new (zero.map .p))):=by rw[J1A];rfl
  refine J2h (e:=⟨.ptr (new+os.length) 0,J54 os new++[(new+os.length,.box (Jd2 os new (zero.map .p)))]⟩) (v:=.pointer (some ⟨s.w.heap.size,0,none⟩)) (g':=J5r g1 (new+os.length) (some (s.w.heap.size,0))) ?_
   (by rw[k];exact D) (by rw[k];exact A.trans t') (by rw[k];exact .ptr (new+os.length) 0 _ 0 (if_pos rfl) ⟨_,J16 hd⟩)
  simp[execOp,r,Instr.alloc,Jda hv,newVar,newRow]
 ·cases hc
theorem JN0(hi:Inv s)(he:J0j s a.tmps env)(hn:s.σ[new]?=some .dead){esz x}(h:(opR F (.storen esz x) new).run ⟨env,s.σ⟩=some e)(hc:J01 P (.storen esz x) o.op=true):J1b P o a s e:=by
 simp only[opR]at h;obtain⟨u,h1,R⟩:=bind_some h;obtain⟨e1,h2,h3⟩:=bind_some R;clear h R;simp only[RM.run]at h3;injection h3 with h3;subst h3
 obtain⟨M,t0⟩:=JrO hi hn esz;unfold J01 at hc;simp only at hc;split at hc
 ·rename_i t V T;simp only[J02,beq_iff_eq]at hc;obtain⟨hs,hx⟩:=hc;have B:=J0b he h1 hx;have Y: ∀{r n:Nat} {w':World},a.eval V=.pointer (some ⟨r,n,none⟩)->(storeVar t ⟨r,n,none⟩ (.slice none 0 0)).run P s.w=.ok () w'->(execOp a.eval o).run P s.w=.ok .skip w':=by intro r n w' hz L;have O:a.eval (.const (.slice none 0 0))=.slice none 0 0:=rfl;simp[execOp,T,hz,Instr.storeAt,Instr.sureAddr,L,O]
  unfold J43 at h2;split at h2
  ·rename_i b off;simp only[RM.run]at h2;split at h2
   ·rename_i blk hb;split at h2
    ·rename_i cs;split at h2
     ·rename_i l hl;split at h2
      ·rename_i J;split at h2
       ·rename_i cs' E;simp only[RM.run]at h2;injection h2 with h2;subst h2
        have hb:s.σ[b]?=some (.box cs):=hb;have Z:new≠b:=λe=>by rw[<-e,hn]at hb;cases hb
        let s1:Sn:=⟨s.σ.set new (.arr true esz []),J5r s.g new none,s.w⟩
        have y:s1.σ[b]?=some (.box cs):=(J0t Z).trans hb;have ry:JL s1 (.slr new 0 0) (.slice none 0 0):=
         .slr new 0 0 _ true esz [] ⟨none,0,rfl,.inl rfl⟩ (J16 hn) (zQ0 _) λ_=>.inl ⟨if_pos rfl,rfl,rfl,rfl⟩
        generalize hz:a.eval V=z at B;have B:=JL.mono (s:=s1) hi t0 B;cases B with
        |ptr _ _ r n m ac=>
         obtain⟨S,K,k3⟩:=Jdi hl ry;obtain⟨H,j2,j3,j4⟩:=Jsa E;obtain⟨r1,o1,c,et,fz,D,G,ad,N,hf⟩:=M.box b cs y;rw[m]at D;injection D with D;injection D with m1 m2;subst m1 m2
         have A:=J8V (vs:=(Value.slice none 0 0).cells.toList) (o:=n+off) G (by simp;omega);have hlen:(Value.slice none 0 0).cells.toList.length=l.length:=by simp[S]
         obtain⟨i',t'⟩:=JqF (s0:=s1) M (blk:=.box cs') y A (λk h1 h2=>by
          unfold Wr1;rw[y];exact⟨n,m,by omega,by omega⟩) (.box _ _ H) (λaa j v=>by
          injection j with j;subst j;obtain⟨c0,e0,ae,c',C,p2,p3,p4,p5,p6⟩:=A.there;rw[G]at C;injection C with C;injection C with q1 q2 q3;subst q1 q2 q3
          refine⟨r,n,c',et,fz,m,p2,by omega,λi x q=>?_,by rw[H];exact hf⟩;by_cases af:off<=i/\i<off+l.length
          ·have e1:cs'[off+(i-off)]?=l[i-off]?:=j3 (i-off) (by omega);rw[show off+(i-off)=i by omega,q]at e1;have ab:i-off<(Value.slice none 0 0).cells.size:=by omega
           have e2:=p5 (i-off) (Value.slice none 0 0).cells[i-off] (by simp);refine⟨(Value.slice none 0 0).cells[i-off],by rw[<-e2];congr 1;omega,v (k3 (i-off) x _ e1.symm (by simp)),K _ (by simp)⟩
          ·rw[j4 i (by omega)]at q;obtain⟨v',U,I,W⟩:=N i x q;exact⟨v',by rw[p6 _ (by simp;omega)];exact U,v I,W⟩)
          (λ_ _ j=>by cases j)
         refine Jrf (e:=⟨J2d,(new,.arr true esz [])::[(b,.box cs')]⟩) (Y hz (JfE (by rw[hs,<-J,S]) G (by omega) (λk h1 h2=>hf k (by omega) (by omega)) K)) rfl i' (t0.trans t')
       ·cases h2
      ·cases h2
     ·cases h2
    ·cases h2
   ·cases h2
  ·rename_i b ext i off;have Q:(fz (.slr new 0 0)).run ⟨env,s.σ⟩=none:=by simp only[fz,RM.run];rw[hn];rfl
   simp only[RM.run]at h2;split at h2
   ·split at h2
    ·split at h2
     ·split at h2
      ·rw[run_bind,Q]at h2;cases h2
      ·cases h2
     ·cases h2
    ·cases h2
   ·cases h2
  ·cases h2
 ·cases hc
theorem JNj(hi:Inv s)(he:J0j s a.tmps env){zero parts os}(G: ∀j,j<os.length->s.σ[new+j]?=some .dead)(h:(opR F (.buildo zero parts os) new).run ⟨env,s.σ⟩=some e)
  (hc:J01 P (.buildo zero parts os) o.op=true):J1b P o a s e:=by
 simp only[opR]at h;obtain⟨l,h1,q⟩:=bind_some h;clear h;unfold J01 at hc;simp only at hc;split at hc
 ·rename_i t ps O;simp only[J02]at hc;obtain⟨⟨hz,hn⟩,E⟩:=hc;obtain⟨z,I,Q,S⟩:=J50 hz;obtain⟨g1,i1,R,L,a5⟩:=JuO os new hi G;split at q
  ·rename_i cs hcs;split at q
   ·rename_i r h3;simp only[RM.run]at q;injection q with q;subst q
    let s1:Sn:=⟨upd (J54 os new) s.σ,g1,s.w⟩
    have H: ∀(i:Nat) x,(Jd2 os new (zero.map AV.p))[i]?=some x-> ∃u,z.cells[i]?=some u/\JL s1 x u/\u.oneCell'=true:=
     JuR (s:=s1) (cells:=z.cells) os new (Jvm I hn) L (by
      intro i x hx;rw[J2c]at hx;cases hzi:zero[i]? with
      |none=>simp[hzi]at hx
      |some c=>
       simp[hzi]at hx;subst hx;have M:=Ji hzi;have a0:i<z.cells.size:=by omega
       have:=S (w:=s1.w) (C:=s1.g.C) i c z.cells[i] hzi (by simp);exact⟨z.cells[i],by simp,.p _ _ this,this.one⟩)
    have fin: ∀{place:Nat->Option (Nat×Nat)},J6F place parts ps.toList=true->
      ∃n,Instr.fill place z.cells (ps.toList.map λx=>(x.1,a.eval x.2))=some n/\JL s1 r (.agg n):=by
     intro place D;obtain⟨W,k2⟩:=Jmh he h1 D;obtain⟨n,J,f2,U⟩:=JtU (s:=s1) (cells:=z.cells) hcs W (λk off size cs i v hk hv=>by obtain⟨p1,Z,V,Y⟩:=k2 k off size cs i v hk hv;exact⟨p1,Z,V,λj y u hy hu=>(Y j y u hy hu).mono hi R⟩) (by simp[Jud,Q]) H
     refine⟨n,J,?_⟩
     have:=Jwp (s:=s1) (vs:=n.toList) h3 (by simpa using f2) (λv hv=>by
       obtain⟨i,A⟩:=J9V hv;have A:n[i]?=some v:=by simpa using A
       have M:=JeY A;obtain⟨u,hu,_,h1⟩:=U i cs[i] (by rw[JK]);rw[A]at hu;injection hu with hu;subst hu;exact h1)
      (λi y v hy hv=>by
        obtain⟨u,hu,hr,_⟩:=U i y hy;have hv:n[i]?=some v:=by simpa using hv
        rw[hv]at hu;injection hu with hu;subst hu;exact hr)
     rcases this with⟨_,hr⟩|⟨hf,_⟩
     ·simpa using hr
     ·cases hf
    have T:(ps.map λx=>(x.1,a.eval x.2)).toList=ps.toList.map λx=>(x.1,a.eval x.2):=by simp
    split at E
    ·rename_i fs hu;simp only[J02]at E;obtain⟨B,D⟩:=E;obtain⟨n,J,hr⟩:=fin D;have N:(λi=>(fs.map λf=>(f.offset,(szT P f.type).getD 0))[i]?)=Jfg P fs:=by
      funext i
      simp only[Jfg,Array.getElem?_map];cases hfi:fs[i]? with
      |none=>rfl
      |some f=>
       have:=JHl.1 B f (Array.mem_of_getElem? hfi);cases hq:szT P f.type<;>simp[hq]at this⊢
     have K:(fs.mapM λf=>do pure (f.offset,<-sizeOf f.type):Sem (Array (Nat×Nat))).run P s.w=.ok (fs.map λf=>(f.offset,(szT P f.type).getD 0)) s.w:=by
      rw[Array.mapM_eq_mapM_toList];simp only[Sem.run_map,JlM (P:=P) (fs:=fs.toList) (λf hf=>JHl.1 B f (by simpa using hf)),J5L]
      congr 1
      apply JaT;simp
     have hf:Instr.fill (λi=>(fs.map λf=>(f.offset,(szT P f.type).getD 0))[i]?) z.cells (ps.map λx=>(x.1,a.eval x.2)).toList=some n:=by rw[N,T];exact J
     have hb:(Instr.build t (ps.map λx=>(x.1,a.eval x.2))).run P s.w=.ok (.agg n) s.w:=by unfold Instr.build;simp only[J5W,Jda I,J5L,run_underlying hu,K,hf];rfl
     refine J2h (e:=⟨r,J54 os new⟩) (v:=.agg n) (g':=g1) ?_ i1 R hr;simp only[execOp,O,J5W,hb,J5L,JaU]
    ·cases E
   ·cases q
  ·cases q
 ·cases hc
end
end Go.Am
end
section
namespace Go.Am
theorem JJH{new:Nat}{env:List (Nat×AV)}{σ:List Blk}: ∀{k new:Nat} {u:Unit},(Jf2 new k).run ⟨env,σ⟩=some u-> ∀j,j<k->σ[new+j]?=some .dead
 |0,_,_,_,j,hj=>by omega
 |k+1,new,u,h,j,hj=>by
  simp only[Jf2,RM.run]at h;split at h
  ·rename_i x hx;cases x with
   |dead=>
    dsimp only at h;cases j with
    |zero=>exact hx
    |succ j=>have:=JJH (new:=0) h j (by omega);rw[show new+(j+1)=new+1+j by omega];exact this
   |box=>cases h
   |arr=>cases h
  ·cases h
section
variable {P:Program} {F:Orc} {s:Sn} {a:Act} {env:List (Nat×AV)} {o:Oper} {new:Nat} {e:Eff}
theorem JTG(q:J5J P F)(hi:Inv s)(he:J0j s a.tmps env){n:AOp}(h:(opD F n new).run ⟨env,s.σ⟩=some e)(hc:J01 P n o.op=true):J1b P o a s e:=by
 unfold opD at h;obtain⟨u,hd,h⟩:=bind_some h;have g:=JJH (new:=0) hd;clear hd;have j:J5P n=1->s.σ[new]?=some .dead:=λh1=>g 0 (by omega);cases n with
 |mv x=>exact JTs hi he h hc
 |mkarr esz x=>exact JOo hi (j rfl) h hc
 |pick=>exact JQm hi he h hc
 |newbox=>exact JNk hi (j rfl) h hc
 |box=>exact JRE hi he (j rfl) h hc
 |build=>exact JOt hi he h hc
 |lits=>exact JQZ hi he (λe=>j (by simp[J5P,e])) h hc
 |load=>exact JR6 hi he h hc
 |store=>exact JOZ hi he h hc
 |nilchk=>exact JMG hi he h hc
 |bin op t x y=>
  cases t with
  |plain=>exact JGC hi he h hc
  |bool=>exact JIv hi he h hc
  |flat=>exact JJ5 hi he h hc
  |nils=>exact JJm hi he h hc
  |nilp=>exact JIY hi he h hc
  |nilf=>exact JJj hi he h hc
 |un=>exact JTk hi he h hc
 |conv k x=>
  cases k with
  |toBytes own=>exact JLt hi he (λe=>j (by simp[J5P,e])) h hc
  |_=>exact JQU hi he (by simp) h hc
 |mkslice=>exact JL1 hi he (λe=>j (by simp[J5P,e])) h hc
 |slice=>exact JOn hi he h hc
 |faddr=>exact JOv hi he h hc
 |field=>exact JOD hi he h hc
 |iaddr=>exact JP9 hi he h hc
 |aaddr=>exact JPp hi he h hc
 |sidx=>exact JQs hi he h hc
 |aidx=>exact JQX hi he h hc
 |extr=>exact JR2 hi he h hc
 |call=>exact JQS q hi he g h hc
 |callv=>exact JO5 q hi he g h hc
 |len=>exact JRC hi he h hc
 |alen=>exact JRi hi h hc
 |app=>exact JRO hi he h hc
 |appz=>exact JRg hi he h hc
 |appn=>exact JQY hi he (j rfl) h hc
 |appc=>exact JQj hi he (j rfl) h hc
 |mm=>exact JTv hi he h hc
 |mkfn=>exact JQq hi he h hc
 |newboxo=>exact JKs hi g h hc
 |buildo=>exact JNj hi he g h hc
 |storen=>exact JN0 hi he (j rfl) h hc
 |callo=>exact JO7 q hi he g h hc
end
def Jgw(P:Program)(N:Nat)(ops:Array Oper)(i:J1q)(o:Oper):Bool:=
 J01 P i.op o.op&&i.dst==o.dst&&(match i.dst with
  |some d=>decide (d<N)
  |none=>true)&&(match i.g,o.guard with
  |none,none=>true
  |some (g,w),some (j,w')=>w==w'&&(ops[j]?).bind (·.dst)==some g
  |_,_=>false)
def Sim(N:Nat)(E:Sn)(st:St)(a:Act)(w:World):Prop:=a.tmps.size=N/\a.defers=[]/\ ∃g,Inv ⟨st.sto,g,w⟩/\J0j ⟨st.sto,g,w⟩ a.tmps st.env/\J0k E ⟨st.sto,g,w⟩
theorem J0j.put{s:Sn}{tmps:Array Value}{env:List (Nat×AV)}(he:J0j s tmps env){d:Nat}(hd:d<tmps.size){x:AV}{v:Value}(hv:JL s x v):
  J0j s (tmps.setIfInBounds d v) ((d,x)::env):=by
 intro n y hy;simp only[lk]at hy;split at hy
 ·rename_i hn;injection hy with hy;subst hy hn;exact⟨v,by simp[hd],hv⟩
 ·rename_i hn;obtain⟨u,h1,h2⟩:=he n y hy;exact⟨u,by rw[Array.getElem?_setIfInBounds_ne (Ne.symm hn)];exact h1,h2⟩
theorem Sim.putd{N:Nat}{E:Sn}{st:St}{a:Act}{w w':World}{g g':Gh}{e:Eff}{v:Value}{d:Option Nat}
  (h1:a.tmps.size=N) (h2:a.defers=[]) (hi:Inv ⟨st.sto,g,w⟩) (he:J0j ⟨st.sto,g,w⟩ a.tmps st.env) (n:J0k E ⟨st.sto,g,w⟩) (hd: ∀x,d=some x->x<N)
  (j:Inv ⟨upd e.ws st.sto,g',w'⟩) (h:J0k ⟨st.sto,g,w⟩ ⟨upd e.ws st.sto,g',w'⟩) (hv:JL ⟨upd e.ws st.sto,g',w'⟩ e.val v):
  Sim N E (Am.put d e st) (a.put d v) w':=by
 have k:=he.mono hi h;cases d with
 |none=>exact⟨h1,h2,g',j,k,n.trans h⟩
 |some d=>exact⟨by simp[Act.put,h1],h2,g',j,k.put (by rw[h1];exact hd d rfl) hv,n.trans h⟩
section
variable {P:Program} {F:Orc} {N:Nat} {E:Sn} {st:St} {a:Act} {w:World} {ops:Array Oper} {i:J1q} {o:Oper} {e:Eff} {new k:Nat} {Q:Exit->Act->World->Prop} {K:Act->World->Prop}
theorem JKS{s:Sn}:JL s J2d undef:=.tup _ _ rfl λi x v h=>by simp at h
theorem JN9(G:J5J P F)(hs:Sim N E st a w)(ho:ops[k]?=some o)(hc:Jgw P N ops i o=true)(h:(J1o F i new).run st=some e)
  (next: ∀q w',Sim N E (Am.put i.dst e st) q w'->K q w'):wpOp P ops Q k K a w:=by
 obtain⟨h1,h2,g,hi,he,A⟩:=hs;simp only[Jgw,J02,beq_iff_eq]at hc;obtain⟨⟨⟨hc,hd⟩,r⟩,n⟩:=hc;have y: ∀x,i.dst=some x->x<N:=by intro x hx;rw[hx]at r;simpa using r
 have run: ∀{e:Eff},(opD F i.op new).run st=some e->(∀q w',Sim N E (Am.put i.dst e st) q w'->K q w')->o.wp P a w K Q:=by intro e h next;refine JTG (s:=⟨st.sto,g,w⟩) (env:=st.env) G hi he h hc K Q λv w' g' B C hv=>next _ _ ?_;rw[<-hd];exact Sim.putd h1 h2 hi he A y B C hv
 have skip:(∀q w',Sim N E (Am.put i.dst ⟨J2d,[]⟩ st) q w'->K q w')->K (a.put o.dst undef) w:=by intro next;refine next _ _ ?_;rw[<-hd];exact Sim.putd (e:=⟨J2d,[]⟩) h1 h2 hi he A y hi (.refl _) JKS
 unfold wpOp;rw[ho];dsimp only;unfold J1o at h;cases hig:i.g with
 |none=>
  rw[hig]at h n;cases hog:o.guard with
  |some x=>rw[hog]at n;cases n
  |none=>
   have hw:Region.wanted o (yielded ops a.tmps)=true:=by simp[Region.wanted,hog]
   rw[if_pos hw];exact .inl (run h next)
 |some H=>
  obtain⟨I,z⟩:=H;rw[hig]at h n;cases hog:o.guard with
  |none=>rw[hog]at n;cases n
  |some x=>
   obtain⟨j,D⟩:=x;rw[hog]at n;simp only[J02,beq_iff_eq]at n;obtain⟨rfl,hj⟩:=n;simp only[RM.run]at h;split at h
   ·rename_i v hv;obtain⟨u,hu,hr⟩:=he _ _ hv;split at h
    ·rename_i b;cases hr with
     |p _ _ hr=>
      cases hr with
      |b x=>
       have hy:yielded ops a.tmps j=some b:=by simp[yielded,hj,hu]
       by_cases hb:b=z
       ·have hw:Region.wanted o (yielded ops a.tmps)=true:=by simp[Region.wanted,hog,hy,hb]
        rw[if_pos hw];rw[if_pos hb]at h;exact .inl (run h next)
       ·have hw:Region.wanted o (yielded ops a.tmps)=false:=by simp[Region.wanted,hog,hy,hb]
        rw[if_neg (by rw[hw];simp)];rw[if_neg hb]at h;simp only[RM.run]at h;injection h with h;subst h
        exact skip next
    ·cases hr with
     |tup _ vs hl _=>
      have hvs:vs= #[]:=by
       have:vs.size=0:=by simpa using hl.symm
       simpa using this
      subst hvs;have hy:yielded ops a.tmps j=none:=by simp[yielded,hj,hu]
      have hw:Region.wanted o (yielded ops a.tmps)=false:=by simp[Region.wanted,hog,hy]
      rw[if_neg (by rw[hw];simp)];simp only[RM.run]at h;injection h with h;subst h
      exact skip next
    ·cases h
   ·cases h
end
theorem Jmm{σ:List Blk}{n b:Nat}{x:Blk}(h:(σ++List.replicate n Blk.dead)[b]?=some x)(hx:x≠.dead):σ[b]?=some x:=by
 rcases zQ1 b σ.length with g|e
 ·rwa[J9Q g]at h
 ·rw[J9O e,List.getElem?_replicate]at h;split at h
  ·injection h with h;exact absurd h.symm hx
  ·cases h
theorem Jq0{σ:List Blk}{n b:Nat}{x:Blk}(h:σ[b]?=some x):(σ++List.replicate n Blk.dead)[b]?=some x:=by rw[J9Q (Ji h)];exact h
theorem Js6{σ:List Blk}{g:Gh}{w:World}{n b r o:Nat}:Wr1 ⟨σ++List.replicate n .dead,g,w⟩ b r o↔Wr1 ⟨σ,g,w⟩ b r o:=by
 unfold Wr1;constructor
 ·intro h;dsimp only at h⊢;cases hb:(σ++List.replicate n Blk.dead)[b]? with
  |none=>rw[hb]at h;exact h.elim
  |some x=>
   cases x with
   |dead=>rw[hb]at h;exact h.elim
   |box cs=>rw[Jmm hb (by simp)];rw[hb]at h;exact h
   |arr wm esz rows=>rw[Jmm hb (by simp)];rw[hb]at h;exact h
 ·intro h;dsimp only at h⊢;cases hb:σ[b]? with
  |none=>rw[hb]at h;exact h.elim
  |some x=>rw[Jq0 hb];rw[hb]at h;exact h
theorem JlH{σ:List Blk}{g:Gh}{w:World}{n:Nat}:J0k ⟨σ,g,w⟩ ⟨σ++List.replicate n .dead,g,w⟩ where
 keep:=.refl _ _
 cmono _ _ h:=h
 cnew _ _ h:=.inl h
 wnew _ _ h:=let⟨b,hb⟩:=h;.inl ⟨b,Js6.1 hb⟩
 len:=by simp
 box b cs h:=⟨⟨cs,Jq0 h,rfl⟩,rfl⟩
 arr b wm esz rows h:=⟨wm,rows,Jq0 h,id,zQ0 _,λ_=>rfl⟩
theorem JPO{σ:List Blk}{g:Gh}{w:World}{n:Nat}(hi:Inv ⟨σ,g,w⟩):Inv ⟨σ++List.replicate n .dead,g,w⟩:=by
 have t:=JlH (σ:=σ) (g:=g) (w:=w) (n:=n);refine⟨λb cs h=>?_,λb wm esz rows h=>?_,λb1 b2 r o h1 h2=>hi.apart b1 b2 r o (Js6.1 h1) (Js6.1 h2),λr o hc=>⟨(hi.const r o hc).1,λb hb=>(hi.const r o hc).2 b (Js6.1 hb)⟩⟩
 ·obtain⟨r,o,c,e,fz,q1,q2,q3,y,q⟩:=hi.box b cs (Jmm h (by simp));exact⟨r,o,c,e,fz,q1,q2,q3,λi x hx=>let⟨v,j,z,k⟩:=y i x hx;⟨v,j,z.mono hi t,k⟩,q⟩
 ·exact hi.arr b wm esz rows (Jmm h (by simp))
theorem Sim.room{N:Nat}{E:Sn}{st:St}{a:Act}{w:World}(h:Sim N E st a w)(n:Nat):Sim N E ⟨st.env,room n st.sto⟩ a w:=by
 unfold Am.room;split
 ·exact h
 ·obtain⟨h1,h2,g,hi,he,e⟩:=h;exact⟨h1,h2,g,JPO hi,he.mono hi JlH,e.trans JlH⟩
theorem Sim.heap{N:Nat}{E:Sn}{st:St}{a:Act}{w w':World}(h:Sim N E st a w)(e:w'.heap=w.heap)(ho:w'.os=w.os)(hp:w'.output=w.output):Sim N E st a w':=by obtain⟨h1,h2,g,hi,he,k⟩:=h;obtain⟨j,t'⟩:=Jrb hi e ho hp;exact⟨h1,h2,g,j,he.mono hi t',k.trans t'⟩
theorem Sim.congr{N:Nat}{E:Sn}{st st':St}{a:Act}{w:World}(h:Sim N E st a w)(he: ∀m,lk m st'.env=lk m st.env)(hs:st'.sto=st.sto):Sim N E st' a w:=by obtain⟨h1,h2,g,hi,hr,e⟩:=h;refine⟨h1,h2,g,?_⟩;rw[hs];exact⟨hi,λn x hx=>hr n x (by rw[<-he];exact hx),e⟩
end Go.Am
end
section
namespace Go.Am
def J2f(P:Program)(N:Nat)(ops:Array Oper):List J1q->List Oper->Bool
 |[],[]=>true
 |i::r,o::q=>Jgw P N ops i o&&J2f P N ops r q
 |_,_=>false
def JeU(x y:J1q):Bool:=
 (match x.dst with
 |none=>true
 |some m=>y.dst !=some m&& !(J8M y).contains m)&&(match y.dst with
 |none=>true
 |some m=> !(J8M x).contains m)
def Jls(x y:J1q):Bool:=(!JuA x.op|| !JG9 y.op)&&(!JuA y.op|| !JG9 x.op)
def JwN:List Nat->List Nat->List Nat
 |[],acc=>acc
 |x::r,acc=>match acc.contains x with
  |true=>JwN r acc
  |false=>JwN r (x::acc)
theorem Jrm{i:Nat}: ∀{l acc:List Nat},i∈JwN l acc->i∈l\/i∈acc
 |[],_,h=>.inr h
 |x::r,acc,h=>by
  simp only[JwN]at h;split at h
  ·exact(Jrm h).imp (JLm _) id
  ·rcases Jrm h with h|h
   ·exact .inl (JLm _ h)
   ·rcases J3i.1 h with rfl|h
    ·exact .inl List.mem_cons_self
    ·exact .inr h
def JPU(l:List Nat):List Nat:=JwN l []
theorem JNV{i:Nat}{l:List Nat}(h:i∈JPU l):i∈l:=(Jrm h).resolve_right (by simp)
def JNK(acc:List (List Nat))(o:Oper):List Nat:=JPU<|(o.after.toList.filter λe=>Region.binds .any e).flatMap λe=>e.on::(acc[e.on]?).getD []
def JDr(acc:List (List Nat)):List Oper->List (List Nat)
 |[]=>acc
 |o::r=>JDr (acc++[JNK acc o]) r
def Jyo(e:List (List Nat))(pairs:List (Nat×Nat))(i j:Nat)(x y:J1q):Bool:=
 ((e[j]?).getD []).contains i||(JeU x y&&(Jls x y||pairs.contains (i,j)))
def Jg0(e:List (List Nat))(pairs:List (Nat×Nat))(j:Nat)(y:J1q):Nat->List J1q->Bool
 |_,[]=>true
 |i,x::r=>(decide (j<=i)||Jyo e pairs i j x y)&&Jg0 e pairs j y (i+1) r
def Js2(g:List (List Nat))(pairs:List (Nat×Nat))(e:List J1q):Nat->List J1q->Bool
 |_,[]=>true
 |j,y::r=>Jg0 g pairs j y 0 e&&Js2 g pairs e (j+1) r
def Jmn:Nat->List Oper->Bool
 |_,[]=>true
 |j,o::r=>(o.after.all λe=> !Region.binds .any e||decide (e.on<j))&&Jmn (j+1) r
def JHe(P:Program)(N:Nat)(draw:Bool)(pairs:List (Nat×Nat))(ins:List J1q)(ops:Array Oper):Bool:=
 J2f P N ops ins ops.toList&&(!draw||(Jmn 0 ops.toList&&Js2 (JDr [] ops.toList) pairs ins 0 ins))
section
variable {P:Program} {F:Orc} {N:Nat} {E:Sn} {st st':St} {a:Act} {w:World} {ops:Array Oper} {Q:Exit->Act->World->Prop}
theorem JAi: ∀{ins:List J1q} {os:List Oper},J2f P N ops ins os=true->ins.length=os.length/\ ∀(k:Nat) i,ins[k]?=some i-> ∃o,os[k]?=some o/\Jgw P N ops i o=true
 |[],[],_=>⟨rfl,λk i h=>by simp at h⟩
 |i::r,o::q,h=>by
  simp only[J2f,J02]at h;obtain⟨h1,h2⟩:=JAi h.2;refine⟨by simp[h1],λk x hx=>?_⟩;cases k with
  |zero=>simp at hx;subst hx;exact⟨o,rfl,h.1⟩
  |succ k=>exact h2 k x (by simpa using hx)
 |[],_::_,h=>by simp[J2f]at h
 |_::_,[],h=>by simp[J2f]at h
theorem JA1(q:J5J P F): ∀{r:List J1q} {k new:Nat} {st:St} {a:Act} {w:World},(∀(j:Nat) i,r[j]?=some i-> ∃o,ops[k+j]?=some o/\Jgw P N ops i o=true)->
  J30 F r new st=some st'->Sim N E st a w->(∀n w',Sim N E st' n w'->Q .normal n w')->wpOps P ops Q (List.range' k r.length) a w
 |[],k,new,st,a,w,_,h,hs,next=>by
  simp only[J30]at h;injection h with h;subst h
  exact next a w hs
 |i::r,k,new,st,a,w,hc,h,hs,next=>by
  simp only[J30]at h;split at h
  ·rename_i e he;obtain⟨o,ho,g⟩:=hc 0 i rfl;rw[JFF,List.range'_succ,wpOps_cons];refine JN9 q hs ho g he λn w' hs'=>JA1 q (λj i hj=>?_) h hs' next;obtain⟨o,ho,g⟩:=hc (j+1) i (by simpa using hj);exact⟨o,by rw[<-ho];congr 1;omega,g⟩
  ·cases h
theorem JNB: ∀{ins:List J1q} {g:Nat} {st:St},J30 F ins g st=some st'->
  ∃(new:Nat->Nat) (S:Nat->St) (eff:Nat->Eff),Run F ins new S eff/\S 0=st/\S ins.length=st'
 |[],g,st,h=>by
  simp only[J30]at h;injection h with h;subst h
  exact⟨λ_=>0,λ_=>st,λ_=>⟨J2d,[]⟩,⟨λk i h=>by simp at h⟩,rfl,rfl⟩
 |i::r,g,st,h=>by
  simp only[J30]at h;split at h
  ·rename_i e he;obtain⟨new,S,eff,hr,j,hl⟩:=JNB h;refine⟨fun|0=>g|k+1=>new k,fun|0=>st|k+1=>S k,fun|0=>e|k+1=>eff k,⟨λk x hx=>?_⟩,rfl,hl⟩;cases k with
   |zero=>simp at hx;subst hx;exact⟨he,j⟩
   |succ k=>exact hr.step k x (by simpa using hx)
  ·cases h
theorem JNb: ∀{ins:List J1q} {g:Nat} {st:St} {l j:Log},J4Y F ins g st l=some (st',j)->
  ∃(new:Nat->Nat) (S:Nat->St) (eff:Nat->Eff),Run F ins new S eff/\S 0=st/\S ins.length=st'/\
   (∀k,k<l.length->j[k]?=l[k]?)/\ ∀(k:Nat) i,ins[k]?=some i->j[l.length+k]?=some (J4W ((J1o F i (new k)).reads (S k)),(eff k).ws.map (·.1))
 |[],g,st,l,j,h=>by
  simp only[J4Y]at h;injection h with h;injection h with h1 h2;subst h1 h2
  exact⟨λ_=>0,λ_=>st,λ_=>⟨J2d,[]⟩,⟨λk i h=>by simp at h⟩,rfl,rfl,λ_ _=>rfl,λk i h=>by simp at h⟩
 |i::r,g,st,l,j,h=>by
  simp only[J4Y]at h;split at h
  ·rename_i e he;obtain⟨new,S,eff,hr,n,hl,q1,q2⟩:=JNb h;refine⟨fun|0=>g|k+1=>new k,fun|0=>st|k+1=>S k,fun|0=>e|k+1=>eff k,⟨λk x hx=>?_⟩,rfl,hl,λk hk=>?_,λk x hx=>?_⟩
   ·cases k with
    |zero=>simp at hx;subst hx;exact⟨he,n⟩
    |succ k=>exact hr.step k x (by simpa using hx)
   ·rw[q1 k (by simp;omega),J9Q hk]
   ·cases k with
    |zero=>
     simp at hx;subst hx;rw[JaY,q1 l.length (by simp),J9O (zQ0 _)];simp
    |succ k=>
     have:=q2 k x (by simpa using hx);rw[<-this];congr 1;simp;omega
  ·cases h
theorem Jf5{b:Nat}: ∀{l:List Loc},Loc.blk b∈l->b∈J4W l
 | .blk c::r,h=>by
   simp only[J4W,J3i]at*;rcases h with h|h
   ·left;injection h
   ·exact .inr (Jf5 h)
 | .slot n::r,h=>by
   simp only[J4W];refine Jf5 ?_;simpa using h
 |[],h=>by simp at h
theorem Juo{a b:List Nat}(h:J79 a b=true){x:Nat}(hx:x∈a):x∉b:=by simp only[J79,Juz,Jzs]at h;have:=h x hx;simpa using this
theorem Jwf{l:Log}: ∀{ps:List (Nat×Nat)} {i j:Nat},Jfa l ps=true->(i,j)∈ps->
  ∃x y,l[i]?=some x/\l[j]?=some y/\J79 x.2 y.1=true/\J79 x.2 y.2=true/\J79 x.1 y.2=true
 |[],i,j,_,h=>by simp at h
 |(p,q)::r,i,j,h,hm=>by
  simp only[Jfa,J02]at h;obtain⟨h1,h2⟩:=h;rcases J3i.1 hm with e|e
  ·injection e with e1 e2;subst e1 e2;split at h1
   ·rename_i x y hx hy;simp only[J02]at h1;exact⟨x,y,hx,hy,h1.1.1,h1.1.2,h1.2⟩
   ·cases h1
  ·exact Jwf h2 e
def Jya(ops:Array Oper)(D:Nat->Bool)(k:Nat):Prop:= ∀o,ops[k]?=some o-> ∀e∈o.after,Region.binds .any e=true->D e.on=true
def JNO(ops:Array Oper)(D:Nat->Bool):Prop:= ∀k,D k=true->Jya ops D k
def JPl(ops:Array Oper)(k i:Nat):Prop:= ∀D,JNO ops D->Jya ops D k->D i=true
theorem JMQ: ∀{os:List Oper} {acc:List (List Nat)},(∀(j:Nat) o,os[j]?=some o->ops[acc.length+j]?=some o)->(∀(k:Nat) l i,acc[k]?=some l->i∈l->JPl ops k i)->
  ∀(k:Nat) l i,(JDr acc os)[k]?=some l->i∈l->JPl ops k i
 |[],acc,_,ha=>ha
 |o::r,acc,ho,ha=>by
  refine JMQ (os:=r) (acc:=acc++[JNK acc o]) (λj x hx=>?_) λk l i hk hi=>?_
  ·have:=ho (j+1) x (by simpa using hx);rw[<-this];congr 1;simp;omega
  ·rcases JcZ hk with hk|⟨w,hk⟩
   ·exact ha k l i hk hi
   ·have h:k=acc.length:=by
     have:=Ji hk;simp at this;omega
    subst h;simp at hk;subst hk;intro D hD v;replace hi:=JNV hi;simp only[List.mem_flatMap,List.mem_filter]at hi;obtain⟨e,⟨q,n⟩,hi⟩:=hi;have g:=v o (by simpa using ho 0 o rfl) e (by simpa using q) n;rcases J3i.1 hi with rfl|hi
    ·exact g
    ·cases hac:acc[e.on]? with
     |none=>rw[hac]at hi;simp at hi
     |some l=>
      rw[hac]at hi;exact ha _ l i hac hi D hD (hD _ g)
theorem Jtx{g:List (List Nat)}{pairs:List (Nat×Nat)}{j:Nat}{y:J1q}: ∀{r:List J1q} {e:Nat},Jg0 g pairs j y e r=true-> ∀(k:Nat) x,r[k]?=some x->e+k<j->Jyo g pairs (e+k) j x y=true
 |[],e,_,k,x,hx,_=>by simp at hx
 |z::r,e,h,k,x,hx,n=>by
  simp only[Jg0,J02,Jz9,decide_eq_true_eq]at h;cases k with
  |zero=>simp at hx;subst hx;exact h.1.resolve_left (by omega)
  |succ k=>
   have:=Jtx h.2 k x (by simpa using hx) (by omega);rw[show e+(k+1)=e+1+k by omega];exact this
theorem Jwv{j:List (List Nat)}{pairs:List (Nat×Nat)}{g:List J1q}: ∀{r:List J1q} {e:Nat},Js2 j pairs g e r=true-> ∀(k:Nat) y,r[k]?=some y->Jg0 j pairs (e+k) y 0 g=true
 |[],e,_,k,y,hy=>by simp at hy
 |z::r,e,h,k,y,hy=>by
  simp only[Js2,J02]at h;cases k with
  |zero=>simp at hy;subst hy;exact h.1
  |succ k=>
   have:=Jwv h.2 k y (by simpa using hy);rw[show e+(k+1)=e+1+k by omega];exact this
theorem Jty: ∀{r:List Oper} {g:Nat},Jmn g r=true-> ∀(k:Nat) o,r[k]?=some o-> ∀e∈o.after,Region.binds .any e=true->e.on<g+k
 |[],g,_,k,o,ho=>by simp at ho
 |z::r,g,h,k,o,ho=>by
  simp only[Jmn,J02]at h;cases k with
  |zero=>
   simp at ho;subst ho;intro e he hb;have:=JHl.1 h.1 e he;simpa[hb]using this
  |succ k=>
   intro e he hb;have:=Jty h.2 k o (by simpa using ho) e he hb;omega
theorem JOQ{x y:J1q}(h:JeU x y=true):(∀m,x.dst=some m->y.dst≠some m/\m∉J8M y)/\(∀m,y.dst=some m->m∉J8M x):=by
 simp only[JeU,J02]at h;obtain⟨h1,h2⟩:=h;constructor
 ·intro m hm;rw[hm]at h1;simpa using h1
 ·intro m hm;rw[hm]at h2;simpa using h2
variable {ins:List J1q} {new:Nat->Nat} {S:Nat->St} {eff:Nat->Eff}
theorem JPv(hr:Run F ins new S eff){i j:Nat}(hi:i<ins.length)(hj:j<ins.length)(h1:JeU ins[i] ins[j]=true)
  (h2:Jls ins[i] ins[j]=true\/(J79 ((eff i).ws.map (·.1)) (J4W ((J1o F ins[j] (new j)).reads (S j)))=true/\
    J79 ((eff i).ws.map (·.1)) ((eff j).ws.map (·.1))=true/\J79 (J4W ((J1o F ins[i] (new i)).reads (S i))) ((eff j).ws.map (·.1))=true)):JDz F ins new S eff i j:=by
 obtain⟨s1,v⟩:=JOQ h1;have g:ins[i]?=some ins[i]:=JK hi;have e:ins[j]?=some ins[j]:=JK hj;obtain⟨q,_⟩:=hr.step i _ g;obtain⟨k,_⟩:=hr.step j _ e;refine⟨λx y m hx hy hm=>?_,λx y m hx hy hm hl=>?_,λy b hy hb=>?_,λx b hx hb hl=>?_⟩
 ·rw[g]at hx;injection hx with hx;subst hx
  rw[e]at hy;injection hy with hy;subst hy
  exact⟨(s1 m hm).1,λhl=>(s1 m hm).2 (JJJ F _ _ _ _ hl)⟩
 ·rw[g]at hx;injection hx with hx;subst hx
  rw[e]at hy;injection hy with hy;subst hy
  exact v m hm (JJJ F _ _ _ _ hl)
 ·rw[e]at hy;injection hy with hy;subst hy
  rcases h2 with h2|⟨n,r,o⟩
  ·simp only[Jls,J02,Jz9,Jzs]at h2;rcases h2.1 with h|h
   ·rw[Jyv F _ _ h _ _ q]at hb;simp at hb
   ·refine⟨?_,JJv F _ _ h _ _ k b⟩;rw[Jyv F _ _ (JNR h) _ _ k];simp
  ·exact⟨Juo r hb,λhl=>Juo n hb (Jf5 hl)⟩
 ·rw[g]at hx;injection hx with hx;subst hx
  rcases h2 with h2|⟨n,r,o⟩
  ·simp only[Jls,J02,Jz9,Jzs]at h2;rcases h2.2 with h|h
   ·rw[Jyv F _ _ h _ _ k]at hb;simp at hb
   ·exact JJv F _ _ h _ _ q b hl
  ·exact Juo o (Jf5 hl) hb
def Dl(e:Array Bool):Nat->Bool:=λj=>e.getD j false
theorem JMK{e:Array Bool}{i:Nat}(hi:i<e.size):Dl (e.setIfInBounds i true)=λj=>if j=i then true else Dl e j:=by
 funext j
 unfold Dl;by_cases h:j=i
 ·subst h;simp[hi]
 ·rw[if_neg h,getD_set_ne false (Ne.symm h)]
theorem Jxb{l:Array Bool}{i:Nat}(hi:i<l.size)(h:l.getD i false=false):(l.setIfInBounds i true).count false+1=l.count false:=by
 have he:l[i]=false:=by simpa[hi]using h
 have e:0<l.count false:=Array.count_pos_iff.2 (by rw[<-he];exact Array.getElem_mem hi);rw[Array.setIfInBounds,dif_pos hi,Array.count_set hi,he];simp;omega
theorem JwX{l:Array Bool}(h:l.count false=0){i:Nat}(hi:i<l.size):l.getD i false=true:=by
 cases hv:l.getD i false with
 |true=>rfl
 |false=>
  have:=Jxb hi hv;omega
theorem JQ4{l:Array Bool}: ∀m,m<=l.size->(∀j,j<m->Dl l j=true)\/ ∃k,k<m/\Dl l k=false/\ ∀j,j<k->Dl l j=true
 |0,_=>.inl λj hj=>by omega
 |m+1,h=>by
  rcases JQ4 (l:=l) m (by omega)with h1|⟨k,a,b,c⟩
  ·cases hm:Dl l m with
   |true=>left;intro j hj;by_cases e:j=m;(subst e;exact hm);exact h1 j (by omega)
   |false=>exact .inr ⟨m,by omega,hm,h1⟩
  ·exact .inr ⟨k,by omega,b,c⟩
theorem Jqz{l:Array Bool}{j:Nat}(hj:j<l.size):l.getD j true=l.getD j false:=by simp[hj]
theorem JT2(V:J5J P F)(hr:Run F ins new S eff)(hlen:ins.length=ops.size)(hc: ∀(k:Nat) i,ins[k]?=some i-> ∃o,ops[k]?=some o/\Jgw P N ops i o=true)
  (B: ∀(k:Nat) o,ops[k]?=some o-> ∀e∈o.after,Region.binds .any e=true->e.on<k)
  (G: ∀i j,i<j->j<ins.length->JPl ops j i\/JDz F ins new S eff i j)
  (next: ∀C w',Sim N E (S ins.length) C w'->Q .normal C w'):
  ∀(n:Nat) (g:Array Bool) (st:St) (a:Act) (w:World),g.size=ops.size->Agree ins eff (S 0) (Dl g) st->Sim N E st a w->JNO ops (Dl g)->g.count false=n->
   wpAny P .any ops Q n g a w:=by
 intro n
 induction n with
 |zero=>
  intro g st a w H A hs v y;refine⟨?_,?_⟩
  ·cases hre:Region.ready .any ops g with
   |nil=>rfl
   |cons j l=>
    exfalso;have hm:j∈Region.ready .any ops g:=by rw[hre];simp
    obtain⟨h1,o,ho,_⟩:=mem_ready.1 hm;have hj:j<ops.size:=(JL5.1 ho).1;rw[Jqz (by omega),JwX y (by omega)]at h1;cases h1
  ·obtain⟨e1,e2⟩:=JMX hr A λj hj=>JwX y (by omega);exact next a w (hs.congr (λm=>(e1 m).symm) e2.symm)
 |succ n ih=>
  intro g st a w H A hs v y;refine⟨λK=>?_,λk hk=>?_⟩
  ·exfalso;rcases JQ4 (l:=g) ops.size (by omega)with z|⟨k,hk,x,I⟩
   ·have:g.count false=0:=by
     rw[Array.count_eq_zero];intro hm;obtain⟨i,hi,he⟩:=Array.getElem_of_mem hm;have:=z i (by omega);unfold Dl at this;simp[hi,he]at this
    omega
   ·have hm:k∈Region.ready .any ops g:=by
     rw[mem_ready];refine⟨by rw[Jqz (by omega)];exact x,ops[k],by simp[hk],λe he hb=>?_⟩;exact I _ (B k ops[k] (by simp[hk]) e he hb)
    rw[K]at hm;cases hm
  ·obtain⟨h1,o,ho,z⟩:=mem_ready.1 hk;have U:k<ops.size:=(JL5.1 ho).1;have x:Dl g k=false:=by unfold Dl;rw[<-Jqz (by omega)];exact h1
   have L:ins[k]?=some (ins[k]'(by omega)):=JK _;obtain⟨Y,R,M⟩:=hc k _ L;have r:Jya ops (Dl g) k:=by
    intro J q e he hb;rw[ho]at q;injection q with q;subst q
    exact z e he hb
   obtain⟨T,W⟩:=JPa hr A L x (λj hj hDj=>by
    rcases G j k hj (by omega)with hm|hm
    ·have:=hm _ v r;rw[hDj]at this;cases this
    ·exact hm) (λj hj O hDj=>by
    rcases G k j hj O with hm|hm
    ·have:=hm _ v (v j hDj);rw[x]at this;cases this
    ·exact hm)
   refine JN9 V hs R M T λC w' hs'=>ih _ _ C w' (by simp[H]) ?_ hs' ?_ ?_
   ·rw[JMK (by omega)];exact W
   ·rw[JMK (by omega)];intro j hj J q e he hb;dsimp only at hj⊢;have hm:Dl g e.on=true->(if e.on=k then true else Dl g e.on)=true:=by intro h;split<;>simp[h]
    by_cases D:j=k
    ·subst D;exact hm (r J q e he hb)
    ·rw[if_neg D]at hj;exact hm (v j hj J q e he hb)
   ·have:=Jxb (l:=g) (i:=k) (by omega) x;omega
theorem JS2(U:J5J P F)(L:P.follows .mixedOrders=true){id:Nat}{draw:Bool}{pairs:List (Nat×Nat)}{ins:List J1q}(h:region F pairs ins st=some st')
  (hc:JHe P N draw pairs ins ops=true) (hs:Sim N E st a w) (next: ∀T w',Sim N E st' T w'->Q .normal T w'):(Code.region id ops draw).wp P Q a w:=by
 simp only[JHe,J02,Jz9,Jzs]at hc;obtain⟨O,J⟩:=hc;obtain⟨hlen,A⟩:=JAi O;have hlen:ins.length=ops.size:=by simpa using hlen
 have A: ∀(k:Nat) i,ins[k]?=some i-> ∃o,ops[k]?=some o/\Jgw P N ops i o=true:=λk i hi=>by simpa using A k i hi
 have K:=hs.room (news ins)
 have M: ∃(new:Nat->Nat) (S:Nat->St) (eff:Nat->Eff),Run F ins new S eff/\S 0=⟨st.env,room (news ins) st.sto⟩/\S ins.length=st'/\
   ∀i j,(i,j)∈pairs-> ∃x y,ins[i]?=some x/\ins[j]?=some y/\J79 ((eff i).ws.map (·.1)) (J4W ((J1o F y (new j)).reads (S j)))=true/\
   J79 ((eff i).ws.map (·.1)) ((eff j).ws.map (·.1))=true/\J79 (J4W ((J1o F x (new i)).reads (S i))) ((eff j).ws.map (·.1))=true:=by
  unfold region at h;split at h
  ·obtain⟨new,S,eff,hr,B,hl⟩:=JNB h;exact⟨new,S,eff,hr,B,hl,λi j hm=>by simp at hm⟩
  ·split at h
   ·rename_i s' l n;split at h
    ·rename_i hp;injection h with h;subst h;obtain⟨new,S,eff,hr,B,hl,_,q⟩:=JNb n;refine⟨new,S,eff,hr,B,hl,λi j hm=>?_⟩;obtain⟨x,y,hx,hy,Z,W,Y⟩:=Jwf hp hm;have R: ∀(k:Nat) z,l[k]?=some z->k<ins.length:=by
      intro k z hk;have:=Ji hk;have a0:l.length=ins.length:=by
       clear q hr B hl hp hx hy;have: ∀{r:List J1q} {g:Nat} {s0:St} {l0 v:Log} {s1:St},J4Y F r g s0 l0=some (s1,v)->v.length=l0.length+r.length:=by
        intro r
        induction r with
        |nil=>intro g s0 l0 v s1 h;simp only[J4Y]at h;injection h with h;injection h with h1 h2;subst h2;simp
        |cons i r ih=>
         intro g s0 l0 v s1 h;simp only[J4Y]at h;split at h
         ·rw[ih h];simp;omega
         ·cases h
       simpa using this n
      omega
     have hi:=R i x hx;have hj:=R j y hy;have I:ins[i]?=some ins[i]:=JK hi;have D:ins[j]?=some ins[j]:=JK hj;have G:=q i _ I;have H:=q j _ D;simp only[List.length_nil,zQ6]at G H;rw[hx]at G;injection G with G;subst G
     rw[hy]at H;injection H with H;subst H
     exact⟨_,_,I,D,Z,W,Y⟩
    ·cases h
   ·cases h
 obtain⟨new,S,eff,hr,B,hl,hp⟩:=M;cases draw with
 |false=>
  refine wp_region ?_;rw[List.range_eq_range',<-hlen];have C: ∃g,J30 F ins g ⟨st.env,room (news ins) st.sto⟩=some st':=by
   unfold region at h;split at h
   ·exact⟨_,h⟩
   ·split at h
    ·rename_i s' l n;split at h
     ·injection h with h;subst h;have: ∀{r:List J1q} {g:Nat} {s0:St} {l0 v:Log} {s1:St},J4Y F r g s0 l0=some (s1,v)->J30 F r g s0=some s1:=by
       intro r
       induction r with
       |nil=>intro g s0 l0 v s1 h;simp only[J4Y]at h;injection h with h;injection h with h1 h2;subst h1;rfl
       |cons i r ih=>
        intro g s0 l0 v s1 h;simp only[J4Y]at h;simp only[J30];split at h
        ·rename_i e he;exact ih h
        ·cases h
      exact⟨_,this n⟩
     ·cases h
    ·cases h
  obtain⟨g,C⟩:=C;exact JA1 U (λj i hj=>by simpa using A j i hj) C K next
 |true=>
  obtain⟨he,hd⟩:=J.resolve_left (by simp);refine wp_region_any L ?_;have V:Sim N E (S 0) a {w with drawn:=w.drawn+1}:=by rw[B];exact K.heap rfl rfl rfl
  refine JT2 U hr hlen A (λk o ho=>?_) (λi j a1 hj=>?_) (by rw[hl];exact next) ops.size _ (S 0) a _ (by simp) ?_ V ?_ ?_
  ·have:=Jty he k o (by simpa using ho);simpa using this
  ·have I:ins[i]?=some (ins[i]'(by omega)):=JK _;have D:ins[j]?=some ins[j]:=JK hj;have h1:=Jwv hd j _ D;rw[zQ6]at h1;have h2:=Jtx h1 i _ I (by omega);rw[zQ6]at h2;simp only[Jyo,Jz9,J02]at h2;rcases h2 with h2|⟨h2,h3⟩
   ·left;cases hb:(JDr [] ops.toList)[j]? with
    |none=>rw[hb]at h2;simp at h2
    |some l=>
     rw[hb]at h2;exact JMQ (ops:=ops) (os:=ops.toList) (acc:=[]) (λj o ho=>by simpa using ho) (λk l i hk=>by simp at hk) j l i hb (by simpa using h2)
   ·right;refine JPv hr (by omega) hj h2 ?_;rcases h3 with h3|h3
    ·exact .inl h3
    ·obtain⟨x,y,hx,hy,d⟩:=hp i j (by simpa using h3);rw[I]at hx;injection hx with hx;subst hx
     rw[D]at hy;injection hy with hy;subst hy
     exact .inr d
  ·have:Dl (Array.replicate ops.size false)=λ_=>false:=by
    funext j;unfold Dl;simp[Array.getElem?_replicate];split<;>rfl
   rw[this];exact JIX
  ·intro j hj;unfold Dl at hj;simp[Array.getElem?_replicate]at hj;split at hj<;>simp at hj
  ·simp
end
end Go.Am
end
section
namespace Go.Am
def J0P(P:Program)(N:Nat):J11->Code->Bool
 | .bad,_=>true
 | .skip,c=>match c with
   | .skip=>true
   | .label _=>true
   |_=>false
 | .reg draw pairs ins,c=>match c with
   | .region _ ops d=>draw==d&&JHe P N draw pairs ins ops
   |_=>false
 | .seq a b,c=>match c with
   | .seq x y=>J0P P N a x&&J0P P N b y
   |_=>false
 | .cond o a b,c=>match c with
   | .cond p x y=>J1d o p&&J0P P N a x&&J0P P N b y
   |_=>false
 | .block id a,c=>match c with
   | .block e x=>id==e&&J0P P N a x
   |_=>false
 | .loop _ a,c=>match c with
   | .loop x=>J0P P N a x
   |_=>false
 | .lp _ _ _,_=>false
 | .scope a,c=>match c with
   | .scope x=>J0P P N a x
   |_=>false
 | .exit id,c=>match c with
   | .exit e=>id==e
   |_=>false
 | .ret,c=>match c with
   | .ret=>true
   |_=>false
 | .keep _ a,c=>J0P P N a c
 | .tidy _ a,c=>J0P P N a c
 | .br _ pre o a b rest,c=>match c with
   | .seq (.seq p (.cond q x y)) z=>J0P P N pre p&&J1d o q&&J0P P N a x&&J0P P N b y&&J0P P N rest z
   |_=>false
def Ja7:AX->Exit
 | .normal=>.normal
 | .exit id=>.exit id
 | .ret=>.ret
def JkH(P:Program)(c:J11)(st:St)(r:Out):Prop:=
 match c with
 | .lp n _ b=> ∃k,∀(N:Nat) (e:Code) (E:Sn) (a:Act) (w:World) (Q:Exit->Act->World->Prop),J0P P N b e=true->E.σ.length<=n->n<=st.sto.length->Sim N E st a w->
    (∀g w',Sim N E r.2 g w'->Q (Ja7 r.1) g w')->Code.rounds P e Q k a w
 |c=> ∀(N:Nat) (e:Code) (E:Sn) (a:Act) (w:World) (Q:Exit->Act->World->Prop),J0P P N c e=true->Sim N E st a w->
   (∀g w',Sim N E r.2 g w'->Q (Ja7 r.1) g w')->e.wp P Q a w
theorem JkH.get{P:Program}{c:J11}{st:St}{r:Out}(h:JkH P c st r){N:Nat}{e:Code}{E:Sn}{a:Act}{w:World}{Q:Exit->Act->World->Prop}(hc:J0P P N c e=true)(hs:Sim N E st a w)
  (next: ∀g w',Sim N E r.2 g w'->Q (Ja7 r.1) g w'):e.wp P Q a w:=by
 cases c<;>first|exact h N e E a w Q hc hs next|(simp[J0P]at hc;done)
theorem Jma{env:List (Nat×AV)}{n:Nat}{x:AV}: ∀{live:List Nat},lk n (restr live env)=some x->lk n env=some x
 |[],h=>by simp[restr,lk]at h
 |k::r,h=>by
  simp only[restr]at h;split at h
  ·rename_i v hv;simp only[lk]at h;split at h
   ·rename_i e;subst e;rw[hv];exact h
   ·exact Jma h
  ·exact Jma h
theorem JKe{m:Nat}{sto:List Blk}{n:Nat}{y:AV}: ∀{env g:List (Nat×AV)},JqP m sto env=some g->lk n g=some y-> ∃x,lk n env=some x/\fin m [] sto x=some y
 |[],g,h,hy=>by simp[JqP]at h;subst h;simp[lk]at hy
 |(k,x)::r,g,h,hy=>by
  simp only[JqP]at h;split at h
  ·rename_i z l hz hl;injection h with h;subst h;simp only[lk]at hy⊢;split at hy
   ·rename_i e;injection hy with hy;subst hy;exact⟨x,by simp[e],hz⟩
   ·rename_i e;obtain⟨j,h1,h2⟩:=JKe hl hy;exact⟨j,by simp[e,h1],h2⟩
  ·cases h
section
variable {P:Program} {N:Nat} {E:Sn} {st st':St} {a:Act} {w:World}
theorem Sim.restr(h:Sim N E st a w)(live:List Nat):Sim N E ⟨restr live st.env,st.sto⟩ a w:=by obtain⟨h1,h2,g,hi,hr,e⟩:=h;exact⟨h1,h2,g,hi,λn x hx=>hr n x (Jma hx),e⟩
theorem Jmf{n:Nat}{live:List Nat}(h:Sim N E st a w)(hc:clean n live st=some st')(z:E.σ.length<=n)(hn:n<=st.sto.length):Sim N E st' a w/\st'.sto.length=n:=by
 unfold clean at hc;split at hc
 ·rename_i e;injection hc with hc;subst hc;exact⟨h.restr live,e⟩
 ·split at hc
  ·rename_i ev l o hl;injection hc with hc;subst hc;obtain⟨h1,h2,g,hi,hr,r⟩:=h;obtain⟨q,A⟩:=Jf8 hl;have hlen:l.length=n:=by rw[<-q];simp;omega
   have j:JLU ⟨st.sto,g,w⟩ n [] l:=by
    refine⟨hi,hn,List.nodup_nil,λb hb=>by simp at hb,by simp[hlen],λk x hk=>?_⟩;have B:=Ji hk;have hx:(st.sto.take n)[k]?=some (st.sto[k]'(by omega)):=by rw[Jye (by omega)];exact JK _
    refine⟨_,?_,A k _ x hx hk⟩;rw[J9y (by omega)];exact JK _
   refine⟨⟨h1,h2,(J7y ⟨st.sto,g,w⟩ n [] l).g,JK4 j,λk y hy=>?_,JAe j r z⟩,hlen⟩;obtain⟨x,hx,hf⟩:=JKe o hy;obtain⟨v,hv,hrel⟩:=hr k x (Jma hx);exact⟨v,hv,JyZ j hrel hf⟩
  ·cases hc
def J7Q(P:Program):List JqN->List ResultVar->Bool
 |[],[]=>true
 | .tmp t::r,.tmp t'::q=>t==t'&&J7Q P r q
 | .cell t agg size::r,.cell t' ty::q=>t==t'&&agT P ty==some agg&&szT P ty==some size&&J7Q P r q
 |_,_=>false
def JFm(tmps:Array Value):ResultVar->Sem Value
 | .tmp t=>pure (tmps.getD t undef)
 | .cell a t=>do loadVar t (<-asAddr (tmps.getD a undef))
theorem Jyj{s:Sn}{env:List (Nat×AV)}{tmps:Array Value}(hi:Inv s)(he:J0j s tmps env): ∀{B:List JqN} {C:List ResultVar} {vs:List AV},J7Q P B C=true->(Jea B).run ⟨env,s.σ⟩=some vs->
  ∃g:List Value,(C.mapM (JFm tmps)).run P s.w=.ok g s.w/\vs.length=g.length/\ ∀(i:Nat) x v,vs[i]?=some x->g[i]?=some v->JL s x v
 |[],[],vs,_,h=>by
  simp only[Jea,RM.run]at h;injection h with h;subst h
  exact⟨[],by simp,rfl,λi x v h=>by simp at h⟩
 | .tmp t::r,.tmp t'::q,vs,hc,h=>by
   simp only[J7Q,J02,beq_iff_eq]at hc;obtain⟨rfl,hc⟩:=hc;simp only[Jea]at h;obtain⟨x,h1,h⟩:=bind_some h;obtain⟨l,h2,h⟩:=bind_some h;simp only[RM.run]at h;injection h with h;subst h
   simp only[RM.run]at h1;split at h1
   ·rename_i y hy;injection h1 with h1;subst h1;obtain⟨v,hv,hr⟩:=he _ _ hy;obtain⟨g,k,A,n⟩:=Jyj hi he hc h2;refine⟨v::g,?_,by simp[A],λi x u hx hu=>?_⟩
    ·rw[List.mapM_cons];simp only[JFm,J5W,JaU,J5L,k,JPF,hv,JxH]
    ·cases i with
     |zero=>simp at hx hu;subst hx hu;exact hr
     |succ i=>exact n i x u (by simpa using hx) (by simpa using hu)
   ·cases h1
 | .cell t agg size::r,.cell t' ty::q,vs,hc,h=>by
   simp only[J7Q,J02,beq_iff_eq]at hc;obtain⟨⟨⟨rfl,ha⟩,hz⟩,hc⟩:=hc;simp only[Jea]at h;obtain⟨x,h1,h⟩:=bind_some h;obtain⟨e,h3,h⟩:=bind_some h;obtain⟨l,h2,h⟩:=bind_some h;simp only[RM.run]at h;injection h with h;subst h
   simp only[RM.run]at h1;split at h1
   ·rename_i y hy;injection h1 with h1;subst h1;obtain⟨v,hv,hr⟩:=he _ _ hy;obtain⟨g,k,A,n⟩:=Jyj hi he hc h2;obtain⟨D,o,ws,q1,q2,q3,_,E⟩:=JAd hi h3 hr;obtain⟨F,G⟩:=JtD (P:=P) ha hz q2 q3;have j: ∃u,(loadVar ty ⟨D,o,none⟩).run P s.w=.ok u s.w/\JL s e.val u:=by
     rcases E with⟨rfl,hq⟩|⟨rfl,u,hu,hq⟩
     ·exact⟨_,F rfl,hq⟩
     ·exact⟨u,G rfl u hu,hq⟩
    obtain⟨u,hu,hrel⟩:=j;refine⟨u::g,?_,by simp[A],λi x z hx hz=>?_⟩
    ·rw[List.mapM_cons];subst q1;simp only[JFm,J5W,JPF,hv,JxH];simp[asAddr,hu,k]
    ·cases i with
     |zero=>simp at hx hz;subst hx hz;exact hrel
     |succ i=>exact n i x z (by simpa using hx) (by simpa using hz)
   ·cases h1
 |[],_::_,_,hc,_=>by simp[J7Q]at hc
 | .tmp _::_,[],_,hc,_=>by simp[J7Q]at hc
 | .cell _ _ _::_,[],_,hc,_=>by simp[J7Q]at hc
 | .tmp _::_,.cell _ _::_,_,hc,_=>by simp[J7Q]at hc
 | .cell _ _ _::_,.tmp _::_,_,hc,_=>by simp[J7Q]at hc
theorem Jbl{m:Nat}{fresh:Bool}{sto:List Blk}: ∀{es:List Ent},∀b∈J4V m fresh sto es,m<=b
 |[],b,h=>by simp[J4V]at h
 | .elem _ _ _::r,b,h=>Jbl (es:=r) b (by simpa[J4V]using h)
 | .whole c::r,b,h=>by
   simp only[J4V]at h;split at h
   ·exact Jbl (es:=r) b h
   ·rename_i hc;have e:b∈c::J4V m fresh sto r->m<=b:=by
     intro h;rcases J3i.1 h with rfl|h
     ·omega
     ·exact Jbl (es:=r) b h
    split at h
    ·exact e h
    ·split at h
     ·exact e h
     ·exact Jbl (es:=r) b h
    ·exact Jbl (es:=r) b h
theorem JK6{s:Sn}{vs:List AV}{e:List Value}(hl:vs.length=e.length)(hr: ∀(i:Nat) x v,vs[i]?=some x->e[i]?=some v->JL s x v):
  JL s (one vs) (if h:e.toArray.size=1 then e.toArray[0]else .tuple e.toArray):=by
 by_cases h:e.toArray.size=1
 ·rw[dif_pos h];cases e with
  |nil=>simp at h
  |cons u q=>
   cases vs with
   |nil=>simp at hl
   |cons x p=>
    have hq:q=[]:=by simpa using h
    subst hq;have hp:p=[]:=by simpa using hl
    subst hp;exact hr 0 x u rfl rfl
 ·rw[dif_neg h];have:one vs=.tup vs:=by
   match vs,hl with
   |[],_=>rfl
   |[x],hl=>simp at h;simp at hl;omega
   |_::_::_,_=>rfl
  rw[this];exact .tup _ _ (by simpa using hl) λi x v hx hv=>hr i x v hx (by simpa using hv)
theorem JA8{e:AFn}{fn:Func}{m:Nat}{r:Res}(hs:Sim N E st a w)(hm:E.σ.length=m)(h:J3z e m st=some r)(hc:J7Q P e.res fn.results.toList=true):
  a.defers=[]/\ ∃v,(results fn a.tmps).run P w=.ok v w/\ ∃g',Inv ⟨r.2,g',w⟩/\J0k E ⟨r.2,g',w⟩/\JL ⟨r.2,g',w⟩ r.1 v:=by
 obtain⟨h1,h2,g,hi,hr,z⟩:=hs;refine⟨h2,?_⟩;unfold J3z at h;cases hvs:(Jea e.res).run st with
 |none=>rw[hvs]at h;cases h
 |some vs=>
  rw[hvs]at h;dsimp only at h;obtain⟨j,L,R,F⟩:=Jyj (P:=P) (s:=⟨st.sto,g,w⟩) (env:=st.env) hi hr hc hvs;have A:(results fn a.tmps).run P w=.ok (if h:j.toArray.size=1 then j.toArray[0]else .tuple j.toArray) w:=by
   have:results fn a.tmps=(do
    let vs<-fn.results.mapM (JFm a.tmps)
    pure (if h:vs.size=1 then vs[0]else .tuple vs)):=rfl
   rw[this,Array.mapM_eq_mapM_toList];have G:(fn.results.toList.mapM (JFm a.tmps)).run P w=.ok j w:=L;simp[G]
  refine⟨_,A,?_⟩;split at h
  ·injection h with h;subst h;exact⟨g,hi,z,JK6 R F⟩
  ·split at h
   ·rename_i H;have C:=Jbl (m:=m) (fresh:=e.fresh) (sto:=st.sto) (es:=Jdr st.sto (J0O.entsOfL vs []) (J0O.entsOfL vs []));generalize J4V m e.fresh st.sto (Jdr st.sto (J0O.entsOfL vs []) (J0O.entsOfL vs []))=ids at*;split at h
    ·rename_i ws l q D hl hq;split at h
     ·rename_i q' I;injection h with h;subst h;obtain⟨a1,a2⟩:=J6w D;obtain⟨b1,b2⟩:=Jf8 hl;obtain⟨U,Q⟩:=Jwc hq;obtain⟨T,M⟩:=Jf8 I;have J:m<=st.sto.length:=by rw[<-hm];exact z.len
      have hlen:l.length=m:=by rw[<-b1];simp;omega
      have B:JLU ⟨st.sto,g,w⟩ m ids (l++q'):=by
       refine⟨hi,J,JeZ H,C,by simp;omega,λk x hk=>?_⟩;rcases JcZ hk with hk|⟨S,hk⟩
       ·have n:=Ji hk;have hx:(st.sto.take m)[k]?=some (st.sto[k]'(by omega)):=by rw[Jye (by omega)];exact JK _
        refine⟨_,?_,b2 k _ x hx hk⟩;rw[J9y (by omega)];exact JK _
       ·have n:=Ji hk;have hx:q[k-l.length]?=some (q[k-l.length]'(by omega)):=JK _;refine⟨_,?_,M _ _ x hx hk⟩;have y:ids[k-l.length]?=some (ids[k-l.length]'(by omega)):=JK _;have O:=Q _ _ _ y hx;have K:J6G m ids k=ids[k-l.length]'(by omega):=by unfold J6G;rw[if_neg (by omega),<-hlen,y];rfl
        rw[K];exact O
      refine⟨_,JK4 B,JAe B z (by omega),JK6 (by omega) λi x v hx hv=>?_⟩;have n:=Ji hx;have o:vs[i]?=some (vs[i]'(by omega)):=JK _;exact JyZ B (F i _ v o hv) (a2 i _ x o hx)
     ·cases h
    ·cases h
   ·cases h
def J8p(P:Program)(f:FuncId)(e:AFn):Bool:=
 match P.funcs[f]? with
 |none=>false
 |some fn=>match fn.body with
  |none=>false
  |some g=>fn.name != "runtime.NumGoroutine" &&e.nt==e.np+(fn.ntmps-e.np)&&J7Q P e.res fn.results.toList&&J0P P e.nt e.body g
theorem JxN: ∀{args:List AV} {k n:Nat} {x:AV},lk n (J9P k args)=some x->k<=n/\args[n-k]?=some x
 |[],k,n,x,h=>by simp[J9P,lk]at h
 |y::r,k,n,x,h=>by
  simp only[J9P,lk]at h;split at h
  ·rename_i e;subst e;exact⟨zQ0 _,by simpa using h⟩
  ·rename_i e;obtain⟨h1,h2⟩:=JxN h;refine⟨by omega,?_⟩;rw[show n-k=(n-(k+1))+1 by omega];simpa using h2
end
section
variable {P:Program} {T:J4d}
theorem JOx{f:FuncId}{k:AFn}{args:List AV}{blks:List Blk}{r:Res}(hc:J8p P f k=true)(J:args.length=k.np)
  (h: ∀(o:Code) (g:Gh) (w:World) (a:Act) (Q:Exit->Act->World->Prop),J0P P k.nt k.body o=true->Sim k.nt ⟨blks,g,w⟩ ⟨J9P 0 args,blks⟩ a w->
    (∀e s j w',(e=.normal\/e=.ret)->J3z k blks.length s=some r->Sim k.nt ⟨blks,g,w⟩ s j w'->Q (Ja7 e) j w')->o.wp P Q a w):J85 P f args blks r:=by
 unfold J8p at hc;split at hc
 ·cases hc
 ·rename_i fn A;split at hc
  ·cases hc
  ·rename_i o hb;simp only[J02,beq_iff_eq,bne_iff_ne,ne_eq]at hc;obtain⟨⟨⟨y,I⟩,C⟩,z⟩:=hc;refine⟨⟨fn,A,by simp[hb],by simpa using y⟩,λg w vals B hlen hrel=>?_⟩;refine calls_of_wp A hb ?_;have E:Sim k.nt ⟨blks,g,w⟩ ⟨J9P 0 args,blks⟩ {tmps:=vals++Array.replicate (fn.ntmps-vals.size) undef,defers:=[]} w:=by refine⟨by simp;omega,rfl,g,B,λn x hx=>?_,.refl _⟩;obtain⟨_,hx⟩:=JxN hx;rw[Jlv]at hx;have H:=Ji hx;refine⟨vals[n]'(by omega),?_,hrel n x _ hx (Jly _)⟩;rw[Jr6 (by omega)];exact Jly _
   have fin: ∀{s},J3z k blks.length s=some r-> ∀j w',Sim k.nt ⟨blks,g,w⟩ s j w'->j.defers=[]/\ ∃v,(results fn j.tmps).run P w'=.ok v w'/\ ∃D g',Ending.returned v=.returned D/\
     Inv ⟨r.2,g',w'⟩/\J0k ⟨blks,g,w⟩ ⟨r.2,g',w'⟩/\JL ⟨r.2,g',w'⟩ r.1 D:=by
    intro s q j w' hs;obtain⟨q1,v,q2,g',q3,G,F⟩:=JA8 hs rfl q C;exact⟨q1,v,q2,v,g',rfl,q3,G,F⟩
   refine h o g w _ _ z E λe s j w' he q hs=>?_;rcases he with rfl|rfl
   ·exact fin q j w' hs
   ·exact fin q j w' hs
theorem JPq{R:J11->St->Option Out}(ih: ∀c s r,R c s=some r->JkH P c s r){f:FuncId}{k:Jgg}{args:List AV}{blks:List Blk}{r:Res}(hc:J8p P f k.af=true)(J:args.length=k.np)
  (h:JrN R k args blks=some r):J85 P f args blks r:=by
 refine JOx hc J λq g w a Q n B fin=>?_;simp only[Jgg.af]at n fin B;cases q<;>simp only[J0P,J5V]at n;rename_i L K;simp only[J02]at n;obtain⟨E,x⟩:=n;unfold JrN at h;split at h
 ·rename_i s0 H;split at h
  ·rename_i s1 D;refine wp_seq ((ih _ _ _ H).get E B λa0 w0 y=>?_);split at x
   ·rename_i cp G T S M;simp only[J02]at x;obtain⟨⟨⟨⟨hp,ho⟩,hx⟩,hy⟩,hz⟩:=x;simp only[Ja7,Exit.then];refine wp_seq (wp_seq ((ih _ _ _ D).get hp y λa1 w1 y=>?_))
    have z: ∀{c:J11} {q:Code},J0P P k.nt c q=true->JuX k.af blks.length (thn (R c s1) λs=>R k.rest s)=some r->
      q.wp P (Exit.then (M.wp P Q) Q) a1 w1:=by
     intro c q hc j;cases hR:R c s1 with
     |none=>rw[hR]at j;cases j
     |some o=>
      obtain⟨e,F⟩:=o;rw[hR]at j;refine(ih _ _ _ hR).get hc y λA w' hs'=>?_;cases e with
      |normal=>
       simp only[thn]at j;cases hR2:R k.rest F with
       |none=>rw[hR2]at j;cases j
       |some N=>
        obtain⟨e2,I⟩:=N;rw[hR2]at j;simp only[Ja7,Exit.then];refine(ih _ _ _ hR2).get hz hs' λA w' hs'=>?_;cases e2 with
        |normal=>exact fin .normal I A w' (.inl rfl) j hs'
        |ret=>exact fin .ret I A w' (.inr rfl) j hs'
        |exit id=>cases j
      |exit id=>cases j
      |ret=>exact fin .ret F A w' (.inr rfl) j hs'
    have C:=y;obtain⟨_,_,g,hi,hr,_⟩:=C;simp only[Ja7,Exit.then];split at h
    ·rename_i b hb;have hrel:=J0b (s:=⟨s1.sto,g,w1⟩) (env:=s1.env) hr hb ho;generalize hv:a1.eval G=v at hrel;cases hrel with
     |p _ _ hrel=>
      cases hrel with
      |b=>
       refine wp_cond hv ?_;cases b with
       |true=>exact z hx (by simpa using h)
       |false=>exact z hy (by simpa using h)
    ·rename_i hb;have hrel:=J0b (s:=⟨s1.sto,g,w1⟩) (env:=s1.env) hr hb ho;generalize hv:a1.eval G=v at hrel;cases hrel with
     |unk t=>
      refine wp_cond hv ?_;unfold Jvt at h;split at h
      ·rename_i O U e1 e2;split at h
       ·rename_i he;injection h with h;subst h;cases t with
        |true=>exact z hx e1
        |false=>rw[<-he]at e2;exact z hy e2
       ·cases h
      ·cases h
    ·cases h
   ·cases x
  ·cases h
 ·cases h
theorem JDZ{R:J11->St->Option Out}(ih: ∀c s r,R c s=some r->JkH P c s r)(G: ∀f j,T f=some (.fn j)->J8p P f j=true)
  (K: ∀f g,T f=some (.prim g)-> ∀args blks r,g args blks=some r->J85 P f args blks r) (H: ∀f k,T f=some (.fork k)->J8p P f k.af=true):J5J P (Jdm T R):=by
 intro f args blks r h;unfold Jdm at h;cases hTf:T f with
 |none=>rw[hTf]at h;cases h
 |some en=>
  rw[hTf]at h;cases en with
  |prim g=>exact K f g hTf args blks r h
  |fork k=>
   dsimp only at h;split at h
   ·rename_i y;exact JPq ih (H f k hTf) y h
   ·cases h
  |fn j=>
   dsimp only at h;split at h
   ·rename_i y;have hc:=G f j hTf;unfold J8p at hc;split at hc
    ·cases hc
    ·rename_i fn A;split at hc
     ·cases hc
     ·rename_i F hb;simp only[J02,beq_iff_eq,bne_iff_ne,ne_eq]at hc;obtain⟨⟨⟨q,M⟩,C⟩,o⟩:=hc;refine⟨⟨fn,A,by simp[hb],by simpa using q⟩,λg w vals B hlen hrel=>?_⟩;refine calls_of_wp A hb ?_;have z:Sim j.nt ⟨blks,g,w⟩ ⟨J9P 0 args,blks⟩ {tmps:=vals++Array.replicate (fn.ntmps-vals.size) undef,defers:=[]} w:=by refine⟨by simp;omega,rfl,g,B,λn x hx=>?_,.refl _⟩;obtain⟨_,hx⟩:=JxN hx;rw[Jlv]at hx;have L:=Ji hx;refine⟨vals[n]'(by omega),?_,hrel n x _ hx (Jly _)⟩;rw[Jr6 (by omega)];exact Jly _
      have fin: ∀{s},J3z j blks.length s=some r-> ∀e w',Sim j.nt ⟨blks,g,w⟩ s e w'->e.defers=[]/\ ∃v,(results fn e.tmps).run P w'=.ok v w'/\ ∃E g',Ending.returned v=.returned E/\
        Inv ⟨r.2,g',w'⟩/\J0k ⟨blks,g,w⟩ ⟨r.2,g',w'⟩/\JL ⟨r.2,g',w'⟩ r.1 E:=by
       intro s D e w' hs;obtain⟨q1,v,q2,g',q3,J,I⟩:=JA8 hs rfl D C;exact⟨q1,v,q2,v,g',rfl,q3,J,I⟩
      split at h
      ·rename_i s hR;exact(ih _ _ _ hR).get o z λe w' hs=>fin h e w' hs
      ·rename_i s hR;exact(ih _ _ _ hR).get o z λe w' hs=>fin h e w' hs
      ·cases h
   ·cases h
theorem JQp(U:P.follows .mixedOrders=true)(hT: ∀f af,T f=some (.fn af)->J8p P f af=true)
  (hP: ∀f g,T f=some (.prim g)-> ∀args blks r,g args blks=some r->J85 P f args blks r) (hK: ∀f k,T f=some (.fork k)->J8p P f k.af=true): ∀c s r,X T c s=some r->JkH P c s r:=by
 refine JU0 T _ ?_;intro R ih c s r h;have hF:J5J P (Jdm T R):=JDZ ih hT hP hK;cases c with
 |skip=>
  simp only[step]at h;injection h with h;subst h
  intro N j E a w Q hc hs next;cases j<;>first
   |exact wp_skip (next a w hs)
   |exact wp_label (next a w hs)
   |(simp[J0P]at hc;done)
 |bad=>simp only[step]at h;cases h
 |reg d pairs ins=>
  simp only[step]at h;split at h
  ·rename_i s' O;injection h with h;subst h;intro N j E a w Q hc hs next;cases j<;>simp only[J0P,J5V]at hc;simp only[J02,beq_iff_eq]at hc;obtain⟨rfl,hc⟩:=hc;exact JS2 hF U O hc hs next
  ·cases h
 |seq x y=>
  simp only[step]at h;intro N j E a w Q hc hs next;cases j<;>simp only[J0P,J5V]at hc;simp only[J02]at hc;refine wp_seq ?_;split at h
  ·rename_i s' hx;refine(ih _ _ _ hx).get hc.1 hs λz w' hs'=>?_;exact(ih _ _ _ h).get hc.2 hs' next
  ·rename_i B;refine(ih _ _ _ h).get hc.1 hs λz w' hs'=>?_;obtain⟨e,s'⟩:=r;cases e with
   |normal=>exact absurd h (by simpa using B s')
   |exit id=>exact next z w' hs'
   |ret=>exact next z w' hs'
 |cond c x y=>
  simp only[step]at h;intro N j E a w Q hc hs next;cases j<;>simp only[J0P,J5V]at hc;simp only[J02]at hc;obtain⟨⟨M,hx⟩,hy⟩:=hc;have hs':=hs;obtain⟨_,_,g,hi,hr,_⟩:=hs';split at h
  ·rename_i b hb;have hrel:=J0b (s:=⟨s.sto,g,w⟩) (env:=s.env) hr hb M;generalize hv:a.eval _=v at hrel;cases hrel with
   |p _ _ hrel=>
    cases hrel with
    |b=>
     refine wp_cond hv ?_;cases b with
     |true=>exact(ih _ _ _ (by simpa using h)).get hx hs next
     |false=>exact(ih _ _ _ (by simpa using h)).get hy hs next
  ·rename_i hb;have hrel:=J0b (s:=⟨s.sto,g,w⟩) (env:=s.env) hr hb M;generalize hv:a.eval _=v at hrel;cases hrel with
   |unk t=>
    refine wp_cond hv ?_;unfold same at h;split at h
    ·rename_i r1 r2 e1 e2;split at h
     ·rename_i he;injection h with h;subst h;cases t with
      |true=>exact(ih _ _ _ e1).get hx hs next
      |false=>rw[he]at next;exact(ih _ _ _ e2).get hy hs next
     ·cases h
    ·cases h
  ·cases h
 |block id x=>
  simp only[step]at h;intro N j E a w Q hc hs next;cases j<;>simp only[J0P,J5V]at hc;simp only[J02,beq_iff_eq]at hc;obtain⟨rfl,hc⟩:=hc;refine wp_block ?_;split at h
  ·rename_i k s' hx;refine(ih _ _ _ hx).get hc hs λz w' hs'=>?_;simp only[Ja7,Exit.inBlock];split at h
   ·rename_i e;injection h with h;subst h;rw[if_pos e];exact next z w' hs'
   ·rename_i e;injection h with h;subst h;rw[if_neg e];exact next z w' hs'
  ·rename_i B;refine(ih _ _ _ h).get hc hs λz w' hs'=>?_;obtain⟨e,s'⟩:=r;cases e with
   |normal=>exact next z w' hs'
   |exit id=>exact absurd h (by simpa using B id s')
   |ret=>exact next z w' hs'
 |loop live x=>
  simp only[step]at h;intro N j E a w Q hc hs next;cases j<;>simp only[J0P,J5V]at hc;split at h
  ·rename_i s' A;obtain⟨k,hk⟩:=ih _ _ _ h;have G:E.σ.length<=s.sto.length:=by obtain⟨_,_,g,_,_,q⟩:=hs;exact q.len
   obtain⟨hs',hl⟩:=Jmf hs A G (zQ0 _);exact wp_loop_rounds k (hk N _ E a w Q hc G (by omega) hs' next)
  ·cases h
 |lp n live x=>
  simp only[step]at h;split at h
  ·rename_i s' hx;split at h
   ·rename_i aa A;obtain⟨k,hk⟩:=ih _ _ _ h;refine⟨k+1,λN j E a w Q hc G hn hs next=>?_⟩;rw[rounds_succ];obtain⟨h1,h2,g,hi,hr,q⟩:=hs;have C:Sim N ⟨s.sto,g,w⟩ s a w:=⟨h1,h2,g,hi,hr,.refl _⟩;refine(ih _ _ _ hx).get hc C λz w' hs'=>?_;obtain⟨q1,q2,g',I,K,D⟩:=hs';have hlen:s.sto.length<=s'.sto.length:=D.len;have Y:Sim N E s' z w':=⟨q1,q2,g',I,K,q.trans D⟩;obtain⟨Z,hl⟩:=Jmf Y A G (by omega);exact hk N j E z w' Q hc G (by omega) Z next
   ·cases h
  ·rename_i B;refine⟨1,λN j E a w Q hc G hn hs next=>?_⟩;rw[rounds_succ];refine(ih _ _ _ h).get hc hs λz w' hs'=>?_;obtain⟨e,s'⟩:=r;cases e with
   |normal=>exact absurd h (by simpa using B s')
   |exit id=>exact next z w' hs'
   |ret=>exact next z w' hs'
 |scope x=>
  simp only[step]at h;intro N j E a w Q hc hs next;cases j<;>simp only[J0P,J5V]at hc;refine wp_scope_straight ((ih _ _ _ h).get hc hs λz w' hs'=>?_);have:=next z w' hs';obtain⟨e,s'⟩:=r;cases e<;>exact this
 |exit id=>
  simp only[step]at h;injection h with h;subst h
  intro N j E a w Q hc hs next;cases j<;>simp only[J0P,J5V]at hc;simp only[beq_iff_eq]at hc;subst hc;exact wp_exit (next a w hs)
 |ret=>
  simp only[step]at h;injection h with h;subst h
  intro N j E a w Q hc hs next;cases j<;>simp only[J0P,J5V]at hc;exact wp_ret (next a w hs)
 |keep live x=>
  simp only[step]at h;intro N j E a w Q hc hs next;exact(ih _ _ _ h).get (by simpa only[J0P]using hc) (hs.restr live) next
 |tidy live x=>
  simp only[step,J7b]at h;intro N j E a w Q hc hs next;split at h
  ·rename_i e L he;split at h
   ·rename_i V A;injection h with h;subst h;obtain⟨h1,h2,g,hi,hr,q⟩:=hs;have C:Sim N ⟨s.sto,g,w⟩ s a w:=⟨h1,h2,g,hi,hr,.refl _⟩;refine(ih _ _ _ he).get (by simpa only[J0P]using hc) C λz w' hs'=>next z w' ?_;obtain⟨q1,q2,g',I,K,D⟩:=hs';exact(Jmf (st:=L) (st':=V) ⟨q1,q2,g',I,K,q.trans D⟩ A q.len D.len).1
   ·cases h
  ·cases h
 |br live pre o x y rest=>
  simp only[step]at h;intro N j E a w Q hc hs next;unfold J0P at hc;split at hc
  ·rename_i cp cq cx cy cz;simp only[J02]at hc;obtain⟨⟨⟨⟨hp,ho⟩,hx⟩,hy⟩,hz⟩:=hc;split at h
   ·rename_i s1 W;refine wp_seq (wp_seq ((ih _ _ _ W).get hp hs λa1 w1 F=>?_))
    have J: ∀{c:J11} {j:Code} {r':Out},J0P P N c j=true->thn (R c s1) (λs=>R rest s)=some r'->
      ∀{E:Sn} {a:Act} {w:World} {Q:Exit->Act->World->Prop},Sim N E s1 a w->(∀z w',Sim N E r'.2 z w'->Q (Ja7 r'.1) z w')->j.wp P (Exit.then (cz.wp P Q) Q) a w:=by
     intro c j r' hc q E a w Q hs next;cases hR:R c s1 with
     |none=>rw[hR]at q;cases q
     |some o=>
      obtain⟨e,L⟩:=o;rw[hR]at q;refine(ih _ _ _ hR).get hc hs λz w' hs'=>?_;cases e with
      |normal=>exact(ih _ _ _ q).get hz hs' next
      |exit id=>injection q with q;subst q;exact next z w' hs'
      |ret=>injection q with q;subst q;exact next z w' hs'
    have H: ∀{c:J11} {j:Code},J0P P N c j=true->J7b s1.sto.length live (thn (R c s1) λs=>R rest s)=some r->j.wp P (Exit.then (cz.wp P Q) Q) a1 w1:=by
     intro c j hc q;unfold J7b at q;split at q
     ·rename_i e L he;split at q
      ·rename_i V A;injection q with q;subst q;obtain⟨h1,h2,g,hi,hr,q⟩:=F;have C:Sim N ⟨s1.sto,g,w1⟩ s1 a1 w1:=⟨h1,h2,g,hi,hr,.refl _⟩;refine J hc he C λz w' hs'=>next z w' ?_;obtain⟨q1,q2,g',I,K,D⟩:=hs';exact(Jmf (st:=L) (st':=V) ⟨q1,q2,g',I,K,q.trans D⟩ A q.len D.len).1
      ·cases q
     ·cases q
    have S:=F;obtain⟨_,_,g,hi,hr,_⟩:=S;simp only[Ja7,Exit.then];split at h
    ·rename_i b hb;have hrel:=J0b (s:=⟨s1.sto,g,w1⟩) (env:=s1.env) hr hb ho;generalize hv:a1.eval cq=v at hrel;cases hrel with
     |p _ _ hrel=>
      cases hrel with
      |b=>
       refine wp_cond hv ?_;cases b with
       |true=>exact J hx (by simpa using h) F next
       |false=>exact J hy (by simpa using h) F next
    ·rename_i hb;have hrel:=J0b (s:=⟨s1.sto,g,w1⟩) (env:=s1.env) hr hb ho;generalize hv:a1.eval cq=v at hrel;cases hrel with
     |unk t=>
      refine wp_cond hv ?_;unfold same at h;split at h
      ·rename_i r1 r2 e1 e2;split at h
       ·rename_i he;injection h with h;subst h;cases t with
        |true=>exact H hx e1
        |false=>rw[<-he]at e2;exact H hy e2
       ·cases h
      ·cases h
    ·cases h
   ·cases h
  ·cases hc
theorem JTx(e:P.follows .mixedOrders=true)(j: ∀f o,T f=some (.fn o)->J8p P f o=true)
  (h: ∀f g,T f=some (.prim g)-> ∀args blks r,g args blks=some r->J85 P f args blks r) (n: ∀f k,T f=some (.fork k)->J8p P f k.af=true):J5J P (AF T):=
 JDZ (JQp e j h n) j h n
end
end Go.Am
end
section
namespace Go.Am
@[congr] theorem JTR{o e:Option Out}{k:St->Option Out}(h:o=e):thn o k=thn e k:=by rw[h]
@[congr] theorem JT7{α β:Type}{o e:RM α}{f:α->RM β}(h:o=e):o.bind f=e.bind f:=by rw[h]
@[congr] theorem JT8{α β:Type}{o e:Option α}{f:α->Option β}(h:o=e):o.bind f=e.bind f:=by rw[h]
@[simp] theorem JbP(s k):thn (some (.normal,s)) k=k s:=rfl
@[simp] theorem JOU(i s k):thn (some (.exit i,s)) k=some (.exit i,s):=rfl
@[simp] theorem JQn(s k):thn (some (.ret,s)) k=some (.ret,s):=rfl
@[simp] theorem JNY(k):thn none k=none:=rfl
def JGo(o:Option Out)(k:St->Option Out):Option Out:=
 match o with
 |some (.normal,s)=>k s
 |_=>none
@[congr] theorem JTd{o e:Option Out}{k:St->Option Out}(h:o=e):JGo o k=JGo e k:=by rw[h]
@[simp] theorem JIF(s k):JGo (some (.normal,s)) k=k s:=rfl
def blo(id:Nat)(o:Option Out):Option Out:=
 match o with
 |some (.exit k,s)=>if k=id then some (.normal,s)else some (.exit k,s)
 |o=>o
@[simp] theorem JLO(id s):blo id (some (.normal,s))=some (.normal,s):=rfl
@[simp] theorem JFv(id i s):blo id (some (.exit i,s))=if i=id then some (.normal,s)else some (.exit i,s):=rfl
@[simp] theorem JRa(id s):blo id (some (.ret,s))=some (.ret,s):=rfl
@[simp] theorem JOz(id):blo id none=none:=rfl
def nrm(o:Option St):Option Out:=match o with
 |some s=>some (.normal,s)
 |none=>none
@[simp] theorem JPN(s):nrm (some s)=some (.normal,s):=rfl
@[simp] theorem JP8:nrm none=none:=rfl
def evv(x:Opd)(env:List (Nat×AV)):Option AV:=match x with
 | .t n=>lk n env
 | .c v=>some v
@[simp] theorem JUf(n env):evv (.t n) env=lk n env:=rfl
@[simp] theorem JUg(v env):evv (.c v) env=some v:=rfl
theorem JwF(x:Opd)(s:St):(ev x).run s=evv x s.env:=by
 cases x with
 |t n=>simp only[ev,RM.run,evv];cases lk n s.env<;>rfl
 |c v=>rfl
section
variable (T:J4d)
@[simp ↓] theorem JRI(s):X T .skip s=some (.normal,s):=by rw[Jd1];rfl
@[simp ↓] theorem JPT(a b s):X T (.seq a b) s=thn (X T a s) λs=>X T b s:=by
 rw[Jd1];simp only[step];cases X T a s with
 |none=>rfl
 |some o=>obtain⟨e,s'⟩:=o;cases e<;>rfl
theorem JPX(d ps ins s):X T (.reg d ps ins) s=nrm (region (AF T) ps ins s):=by rw[Jd1];simp only[step];show(match region (AF T) ps ins s with|some s'=>some (AX.normal,s')|none=>none)=_;cases region (AF T) ps ins s<;>rfl
@[simp ↓] theorem JUc(d ins env sto):X T (.reg d [] ins) ⟨env,sto⟩=nrm (J30 (AF T) ins sto.length ⟨env,room (news ins) sto⟩):=by rw[JPX];rfl
def cnd(x:Option AV)(a b:Option Out)(c:Unit->Option Out):Option Out:=
 match x with
 |some (.p (.b x))=>if x=true then a else b
 |some .unk=>c ()
 |_=>none
@[congr] theorem JTP{x e:Option AV}{a b:Option Out}{c:Unit->Option Out}(h:x=e):cnd x a b c=cnd e a b c:=by rw[h]
@[simp] theorem JPY(x a b c):cnd (some (.p (.b x))) a b c=if x=true then a else b:=rfl
@[simp] theorem JRe(a b c):cnd (some .unk) a b c=c ():=rfl
@[simp ↓] theorem JRo(x a b s):X T (.cond x a b) s=cnd (evv x s.env) (X T a s) (X T b s) λ_=>same (X T a s) (X T b s):=by
 rw[Jd1];simp only[step,JwF];cases evv x s.env with
 |none=>rfl
 |some v=>
  cases v with
  |p c=>cases c<;>rfl
  |_=>rfl
@[simp ↓] theorem JQf(id c s):X T (.block id c) s=blo id (X T c s):=by
 rw[Jd1];simp only[step];cases X T c s with
 |none=>rfl
 |some o=>obtain⟨e,s'⟩:=o;cases e<;>rfl
@[simp ↓] theorem JQw(c s):X T (.scope c) s=X T c s:=by rw[Jd1];rfl
@[simp ↓] theorem JRt(id s):X T (.exit id) s=some (.exit id,s):=by rw[Jd1];rfl
@[simp ↓] theorem JTA(s):X T .ret s=some (.ret,s):=by rw[Jd1];rfl
@[simp ↓] theorem JNM(live c s):X T (.keep live c) s=X T c ⟨restr live s.env,s.sto⟩:=by rw[Jd1];rfl
@[simp ↓] theorem JUi(live pre x a b rest s):X T (.br live pre x a b rest) s=JGo (X T pre s) λs1=>
  cnd (evv x s1.env) (thn (X T a s1) λs=>X T rest s) (thn (X T b s1) λs=>X T rest s) λ_=>
   same (J7b s1.sto.length live (thn (X T a s1) λs=>X T rest s)) (J7b s1.sto.length live (thn (X T b s1) λs=>X T rest s)):=by
 rw[Jd1];simp only[step,JwF];cases X T pre s with
 |none=>rfl
 |some o=>
  obtain⟨e,s1⟩:=o;cases e with
  |normal=>
   dsimp only[JGo];cases evv x s1.env with
   |none=>rfl
   |some v=>
    cases v with
    |p c=>cases c<;>rfl
    |_=>rfl
  |exit=>rfl
  |ret=>rfl
@[simp ↓] theorem JSj(live c env sto):X T (.loop live c) ⟨env,sto⟩=X T (.lp sto.length live c) ⟨restr live env,sto⟩:=by rw[Jd1];simp[step,clean]
theorem JOJ(n live c s):X T (.lp n live c) s=thn (X T c s) λs=>match clean n live s with
  |some s=>X T (.lp n live c) s
  |none=>none:=by
 rw[Jd1];simp only[step];cases X T c s with
 |none=>rfl
 |some o=>obtain⟨e,s'⟩:=o;cases e<;>rfl
def JHb(res:List JqN)(fresh:Bool)(m:Nat)(o:Option Out):Option Res:=
 match o with
 |some (.normal,s)=>J3z ⟨0,0,.skip,res,fresh⟩ m s
 |some (.ret,s)=>J3z ⟨0,0,.skip,res,fresh⟩ m s
 |_=>none
@[congr] theorem JTz{res:List JqN}{fresh:Bool}{m:Nat}{o e:Option Out}(h:o=e):JHb res fresh m o=JHb res fresh m e:=by rw[h]
@[simp] theorem JIN(res fresh m s):JHb res fresh m (some (.normal,s))=J3z ⟨0,0,.skip,res,fresh⟩ m s:=rfl
@[simp] theorem JPr(res fresh m s):JHb res fresh m (some (.ret,s))=J3z ⟨0,0,.skip,res,fresh⟩ m s:=rfl
@[simp] theorem JTq(o:Option Res):Jvt o o=o:=by unfold Jvt;cases o<;>simp
theorem JTK{f:FuncId}{fn:AFn}(h:T f=some (.fn fn))(args blks):AF T f args blks=if args.length=fn.np then
  JHb fn.res fn.fresh blks.length (X T fn.body ⟨J9P 0 args,blks⟩)
 else none:=by
 unfold AF Jdm;rw[h];rfl
end
variable {F:Orc} {env:List (Nat×AV)} {sto:List Blk} {new:Nat} {r:List J1q} {d:Nat}
@[simp] theorem JKI(s):J30 F [] new s=some s:=rfl
theorem JIK(i s):J30 F (i::r) new s=((J1o F i new).run s).bind λe=>J30 F r (new+J5P i.op) (put i.dst e s):=by simp only[J30];cases(J1o F i new).run s<;>rfl
@[simp] theorem JTX:news []=0:=rfl
@[simp ↓] theorem JTQ(i):news (i::r)=J5P i.op+news r:=rfl
@[simp] theorem JUd:room 0 sto=sto:=rfl
@[simp] theorem JTN(n):room (n+1) sto=sto++List.replicate (n+1) .dead:=rfl
@[simp] theorem JUe(n):lk n []=none:=rfl
@[simp] theorem JQM(n m v)(r:List (Nat×AV)):lk n ((m,v)::r)=if n=m then some v else lk n r:=rfl
attribute [simp ↓] JIK J1o opD Jf2 J5P run_bind JwF opR
attribute [simp] put val evs evo J3L J4I
 Je9 Jvd Jv1 unP J9L JGW fz fz.fzL fz.fz1 fzs J8R J4v J43 sub spl Jak JvC Jxz Jrj Jrv J7a JwS Jqr J6Z J5w JdM JdV J2B JaR J8Q mmP cellsOf unp J75 J5E
 Jea one J9P J2d Jfw J4C
@[simp] theorem JTS(o:Option Out):same o o=o:=by unfold same;cases o<;>simp
@[simp ↓] theorem JH{α:Type}(a:α)(s:St):(RM.ret a).run s=some a:=rfl
@[simp ↓] theorem JPA{α:Type}(s:St):(RM.fail:RM α).run s=none:=rfl
@[simp ↓] theorem J8L{α:Type}(n:Nat)(k:AV->RM α)(s:St):(RM.slot n k).run s=(lk n s.env).bind λv=>(k v).run s:=by simp only[RM.run];cases lk n s.env<;>rfl
@[simp ↓] theorem J1n{α:Type}(n:Nat)(k:Blk->RM α)(s:St):(RM.blk n k).run s=(s.sto[n]?).bind λv=>(k v).run s:=by simp only[RM.run];cases s.sto[n]?<;>rfl
@[simp] theorem JQa:upd [] sto=sto:=rfl
@[simp] theorem JOP(b x ws):upd ((b,x)::ws) sto=upd ws (sto.set b x):=rfl
@[simp] theorem JTO:restr [] env=[]:=rfl
@[simp] theorem JLW(k l):restr (k::l) env=match lk k env with
 |some v=>(k,v)::restr l env
 |none=>restr l env:=rfl
end Go.Am
namespace Go.Am
def J8X:AV->Bool
 | .p _| .data _| .cp _ _| .unk=>true
 |_=>false
@[simp] theorem JTY(c):J8X (.p c)=true:=rfl
@[simp] theorem JT9(c):J8X (.data c)=true:=rfl
@[simp] theorem JTM(c o):J8X (.cp c o)=true:=rfl
theorem Jvl: ∀{args:List AV} {l:List Ent},args.all J8X=true->J0O.entsOfL args l=l
 |[],l,_=>rfl
 |x::r,l,h=>by
  simp only[List.all_cons,J02]at h;obtain⟨h1,h2⟩:=h;simp only[J0O.entsOfL];cases x<;>simp[J8X]at h1<;>simp only[J0O]<;>exact Jvl h2
theorem JAf{ρ:Ent->Option Nat}: ∀{args:List AV},args.all J8X=true->ren.renL ρ args=some args
 |[],_=>rfl
 |x::r,h=>by
  simp only[List.all_cons,J02]at h;have:=JAf (ρ:=ρ) h.2;have h1:=h.1;clear h;cases x<;>simp[J8X]at h1<;>simp[ren.renL,ren,this]
theorem JOW{es:List Ent}{new:Nat}{x:AV}(h:J8X x=true):bk es new x=some x:=by cases x<;>simp[J8X]at h<;>rfl
theorem Jqa{es:List Ent}{new:Nat}: ∀{xs:List AV},xs.all J8X=true->bk.bkL es new xs=some xs
 |[],_=>rfl
 |x::r,h=>by
  simp only[List.all_cons,J02]at h;simp[bk.bkL,JOW h.1,Jqa h.2]
@[simp] theorem JUh(es new c):bk es new (.p c)=some (.p c):=rfl
@[simp] theorem JUa(es new c):bk es new (.data c)=some (.data c):=rfl
@[simp] theorem JUb(es new l):bk es new (.tup l)=(bk.bkL es new l).map .tup:=by simp only[bk];cases bk.bkL es new l<;>rfl
@[simp] theorem JU9(es new):bk.bkL es new []=some []:=rfl
@[simp] theorem JU1(es new x l):bk.bkL es new (x::l)=(bk es new x).bind λy=>(bk.bkL es new l).map λl=>y::l:=by simp only[bk.bkL];cases bk es new x<;>simp;cases bk.bkL es new l<;>rfl
@[simp] theorem JTa(n live):J7b n live none=none:=rfl
@[simp] theorem JIb(n live e s):J7b n live (some (e,s))=(clean n live s).map λs=>(e,s):=by simp only[J7b];cases clean n live s<;>rfl
attribute [simp ↓] JJ Option.bind_none JbP JOU JQn JNY JIF JPN JP8 JPY JRe JLO JFv JRa JOz JIN JPr JKI JQM JLW JQa JOP
attribute [simp] clean JqP Jdu J5q fin fin.finL J3z J4V Jdr J0O J0O.entsOfL JdQ J4Z Jh8 J4T unp
end Go.Am
end
section
namespace Go.Am
inductive Fr where
 |sq (b:J11)
 |bl (id:Nat)
 |td (n:Nat) (live:List Nat)
 |lo (n:Nat) (live:List Nat) (c:J11)
noncomputable def again(T:J4d)(n:Nat)(live:List Nat)(c:J11)(o:Option St):Option Out:=match o with
 |some s=>X T (.lp n live c) s
 |none=>none
section
variable (T:J4d) (f:AFn) (m:Nat) (k:List Fr)
theorem JRR(live c s):X T (.tidy live c) s=J7b s.sto.length live (X T c s):=by rw[Jd1];rfl
end
open Classical in
noncomputable def Jc{σ ρ:Type}(f:σ->Option (σ⊕ρ))(s:σ):Option ρ:=
 let e:Nat->σ->Option ρ:=λn=>n.rec (λ_=>none) λ_ ih s=>match f s with
  |some (.inl s')=>ih s'
  |some (.inr r)=>some r
  |none=>none
 if h: ∃n r,e n s=some r then e (Classical.choose h) s else none
def J27{σ ρ:Type}(f:σ->Option (σ⊕ρ)):Nat->σ->Option ρ
 |0,_=>none
 |n+1,s=>match f s with
  |some (.inl s')=>J27 f n s'
  |some (.inr r)=>some r
  |none=>none
section
variable {σ ρ:Type} {f:σ->Option (σ⊕ρ)}
theorem JxG(n:Nat): ∀s:σ,(Nat.rec (motive:=λ_=>σ->Option ρ) (λ_=>none) (λ_ ih s=>match f s with
  |some (.inl s')=>ih s'
  |some (.inr r)=>some r
  |none=>none) n) s=J27 f n s:=by
 induction n with
 |zero=>intro s;rfl
 |succ n ih=>intro s;simp only[J27];split<;>first|rfl|exact ih _
theorem JqY: ∀{n:Nat} {s:σ} {r:ρ} (m:Nat),J27 f n s=some r->J27 f (n+m) s=some r
 |0,_,_,_,h=>by cases h
 |n+1,s,r,m,h=>by
  rw[show n+1+m=(n+m)+1 by omega];simp only[J27]at h⊢;split at h
  ·exact JqY m h
  ·exact h
  ·cases h
theorem JOf{n m:Nat}{s:σ}{r r':ρ}(h:J27 f n s=some r)(e:J27 f m s=some r'):r=r':=by have a:=JqY m h;have b:=JqY n e;rw[Nat.add_comm m n]at b;rw[a]at b;injection b
theorem J2t{s:σ}{r:ρ}:Jc f s=some r↔ ∃n,J27 f n s=some r:=by
 unfold Jc;dsimp only;constructor
 ·intro h;split at h
  ·exact⟨_,by rw[<-JxG];exact h⟩
  ·cases h
 ·rintro⟨n,h⟩;have e: ∃n r,(Nat.rec (motive:=λ_=>σ->Option ρ) (λ_=>none) (λ_ ih s=>match f s with
   |some (.inl s')=>ih s'
   |some (.inr r)=>some r
   |none=>none) n) s=some r:=⟨n,r,by rw[JxG];exact h⟩
  rw[dif_pos e];obtain⟨r',hr⟩:=Classical.choose_spec e;rw[hr];rw[JxG]at hr;rw[JOf hr h]
theorem J2z{s:σ}{r:ρ}(h:f s=some (.inr r)):Jc f s=some r:=J2t.2 ⟨1,by simp only[J27,h]⟩
theorem Jf4{s s':σ}(h:f s=some (.inl s')):Jc f s=Jc f s':=by
 have e: ∀r,Jc f s=some r↔Jc f s'=some r:=by
  intro r;rw[J2t,J2t];constructor
  ·rintro⟨n,hn⟩;cases n with
   |zero=>cases hn
   |succ n=>simp only[J27,h]at hn;exact⟨n,hn⟩
  ·rintro⟨n,hn⟩;exact⟨n+1,by simp only[J27,h];exact hn⟩
 cases hs:Jc f s with
 |some r=>exact((e r).1 hs).symm
 |none=>
  cases hs':Jc f s' with
  |none=>rfl
  |some r=>rw[(e r).2 hs']at hs;cases hs
theorem Jrp{P:σ->ρ->Prop}(h1: ∀s r,f s=some (.inr r)->P s r)(h2: ∀s s' r,f s=some (.inl s')->P s' r->P s r){s:σ}{r:ρ}(h:Jc f s=some r):P s r:=by
 obtain⟨n,hn⟩:=J2t.1 h;clear h
 induction n generalizing s with
 |zero=>cases hn
 |succ n ih=>
  simp only[J27]at hn;split at hn
  ·rename_i h;exact h2 _ _ _ h (ih hn)
  ·rename_i h;injection hn with hn;subst hn;exact h1 _ _ h
  ·cases hn
end
end Go.Am
end
section
namespace Go.Am
section
variable {α:Type}
def idx(l:List α)(n:Int):Option α:=if 0<=n then l[n.toNat]? else none
def inb(k:Nat)(n:Int):Option Unit:=if 0<=n/\n<k then some ()else none
def JN(bytes:Nat)(l e:List α):Option (List α):=if JaR (l.length+e.length) bytes=true then some (l++e)else none
def J3g(bytes:Nat)(l:List α):Option (List α):=if JaR l.length bytes=true then some l else none
def JSs(bytes:Nat)(l e:List α):Option (List α):=if 0<e.length/\JaR (l.length+e.length) bytes=true then some (l++e)else none
def mkS(bytes:Nat)(n m:Int)(z:α):Option (List α):=if 0<=n/\n<=m/\bytes*m<=281474976710656/\m<=281474976710656 then some (List.replicate n.toNat z)else none
def JxX(x:Option Int)(top e:Nat):Option Nat:=match x with
 |none=>some e
 |some n=>if 0<=n/\n<=top then some n.toNat else none
def Jum(n:Nat)(lo hi:Option Int):Option (Nat×Nat):=match JxX hi n n with
 |none=>none
 |some h=>match JxX lo h 0 with
  |none=>none
  |some l=>some (l,h)
def J0Q(l:List α)(lo hi:Option Int):Option (List α):=match Jum l.length lo hi with
 |some c=>some ((l.drop c.1).take (c.2-c.1))
 |none=>none
def JRv(k:IntKind)(x y:Int):Option Int:=if y=0 then none else some (k.wrap (x.tdiv y))
def Jqg(x y:Int):Option Int:=if y=0 then none else some (x.tmod y)
def Jru(k:IntKind)(x y:Int):Option Int:=if y<0 then none else some (k.wrap (x*2^(min y.toNat k.bits)))
def JbG(k:IntKind)(x y:Int):Option Int:=if y<0 then none else some (x.fdiv (2^(min y.toNat k.bits)))
def JiA(k:IntKind)(x y:Int):Int:=k.wrap (BitVec.ofInt k.bits x&&&BitVec.ofInt k.bits y).toNat
def orI(k:IntKind)(x y:Int):Int:=k.wrap (BitVec.ofInt k.bits x|||BitVec.ofInt k.bits y).toNat
def J4f(k:IntKind)(x y:Int):Int:=k.wrap (BitVec.ofInt k.bits x^^^BitVec.ofInt k.bits y).toNat
def JKw(k:IntKind)(n:Int):Int:=k.wrap (BitVec.ofInt k.bits (if k.signed then -1 else k.max)^^^BitVec.ofInt k.bits n).toNat
def J3Y(a b:List UInt8):Option (List UInt8):=if a.length+b.length<=4611686018427387904 then some (a++b)else none
def Jgk(l:List UInt8)(n:Int):Option Int:=if 0<=n then(match l[n.toNat]? with|some u=>some (u.toNat:Int)|none=>none)else none
def JrE{k:Nat}(v:Vector α k)(n:Int):Option α:=if 0<=n/\n<k then v[n.toNat]? else none
def toStr(l:List Int):List UInt8:=l.map λn=>UInt8.ofNat n.toNat
def toByt(l:List UInt8):List Int:=l.map λu=>(u.toNat:Int)
def JbE(x y:Int):Int:=if y<x then y else x
def J4a(x y:Int):Int:=if y>x then y else x
end
@[reducible] def cat(a b:List PV):List PV:=a++b
def r_i(k:IntKind)(n:Int):List PV:=[.i k n]
def r_b(x:Bool):List PV:=[.b x]
def r_s(l:List UInt8):List PV:=[.s l]
def JU5{α:Type}(esz:Nat)(r:α->List PV)(l:List α):List PV:=[.sl esz (l.map r)]
def Jbt{α:Type}{n:Nat}(r:α->List PV)(v:Vector α n):List PV:=(v.toList.map r).flatten
section
variable {α:Type}
theorem J9i(cs:List α)(off size:Nat):sub cs off size=if off+size<=cs.length then some ((cs.drop off).take size)else none:=by
 unfold sub;split
 ·rename_i h;obtain⟨rfl,rfl⟩:=h;simp
 ·rfl
theorem Jba(cs:List α)(off:Nat)(vs:List α):spl cs off vs=if off+vs.length<=cs.length then some (cs.take off++vs++cs.drop (off+vs.length))else none:=by
 unfold spl;split
 ·rename_i h;obtain⟨rfl,h⟩:=h;rw[if_pos (by omega)];simp[<-h]
 ·rfl
theorem Jzp{cs:List α}{n:Nat}(h:cs.length=n):sub cs 0 n=some cs:=by subst h;rw[J9i];simp
theorem JJO{cs vs:List α}(h:cs.length=vs.length):spl cs 0 vs=some vs:=by rw[Jba];simp[h]
theorem JNP{a b c:List α}{off size:Nat}(h1:a.length=off)(h2:b.length=size):sub (a++(b++c)) off size=some b:=by subst h1 h2;rw[J9i,if_pos (by simp)];simp
theorem JMe{b c:List α}{size:Nat}(h2:b.length=size):sub (b++c) 0 size=some b:=JNP (a:=[]) rfl h2
theorem JMY{a b c v:List α}{off:Nat}(h1:a.length=off)(h2:b.length=v.length):spl (a++(b++c)) off v=some (a++(v++c)):=by subst h1;rw[Jba,if_pos (by simp;omega),<-h2];simp
theorem JMv{b c v:List α}(h2:b.length=v.length):spl (b++c) 0 v=some (v++c):=JMY (a:=[]) rfl h2
theorem JJw{cs e r:List α}{a m k n:Nat}(h1:sub cs a m=some e)(h2:sub e k n=some r):sub cs (a+k) n=some r:=by
 rw[J9i]at h1 h2⊢;split at h1
 ·injection h1 with h1;subst h1;split at h2
  ·rename_i h3 h4;injection h2 with h2;subst h2;simp at h4;rw[if_pos (by omega),List.drop_take,List.take_take,JlY]
   congr 2
   omega
  ·cases h2
 ·cases h1
theorem JK3{cs g e v cs':List α}{a m k:Nat}(h1:sub cs a m=some g)(h2:spl g k v=some e)(h3:spl cs a e=some cs'):spl cs (a+k) v=some cs':=by
 rw[J9i]at h1;rw[Jba]at h2 h3⊢;split at h1
 ·rename_i h4;injection h1 with h1;subst h1;split at h2
  ·rename_i h5;injection h2 with h2;subst h2;simp at h5;split at h3
   ·injection h3 with h3;subst h3;rw[if_pos (by omega)]
    congr 1
    simp only[JbN,Jiy,JfJ,List.take_take,List.drop_take,JlY,Jb1];have e1:cs.take (a+k)=cs.take a++(cs.drop a).take k:=List.take_add ..;rw[e1,Jb1];rw[show min k m=k by omega]
    congr 3
    have e2:cs.drop (a+k+v.length)=(cs.drop (a+(k+v.length))).take (m-(k+v.length))++cs.drop (a+m):=by have:=Jz3 (m-(k+v.length)) (cs.drop (a+(k+v.length)));rw[JlY]at this;rw[show a+(k+v.length)+(m-(k+v.length))=a+m by omega]at this;rw[this];congr 1;omega
    rw[e2]
    congr 2
    omega
   ·cases h3
  ·cases h2
 ·cases h1
theorem JcX{β:Type}(g:α->β)(cs:List α)(off size:Nat):sub (cs.map g) off size=(sub cs off size).map (List.map g):=by rw[J9i,J9i];simp only[J1P];split<;>simp[List.map_drop,Jvb]
theorem Jd3{β:Type}(g:α->β)(cs:List α)(off:Nat)(vs:List α):spl (cs.map g) off (vs.map g)=(spl cs off vs).map (List.map g):=by rw[Jba,Jba];simp only[J1P];split<;>simp[List.map_drop,Jvb]
theorem Jpn{n k w:Nat}{r:α->List PV}(hr: ∀x,(r x).length=w){v:Vector α n}{x:α}(h:v[k]?=some x):sub (Jbt r v) (k*w) w=some (r x):=by
 have g: ∀(l:List α) (k:Nat) (x:α),l[k]?=some x->sub ((l.map r).flatten) (k*w) w=some (r x):=by
  intro l
  induction l with
  |nil=>intro k x h;simp at h
  |cons y l ih=>
   intro k x h;cases k with
   |zero=>
    simp at h;subst h;rw[Juq,J0I,J8S];exact JMe (hr _)
   |succ k=>
    simp at h;have:=ih k x h;rw[J0I,J8S];rw[J9i]at this⊢;split at this
    ·injection this with this;have e:(k+1)*w=w+k*w:=by rw[zQ8];omega
     rw[e,if_pos (by simp[hr];simp at*;omega)];have e2:w+k*w=(r y).length+k*w:=by rw[hr]
     rw[e2,JPE,this]
    ·cases this
 exact g _ _ _ (by rw[<-h];simp)
theorem JNm{n k w:Nat}{r:α->List PV}(hr: ∀x,(r x).length=w){v:Vector α n}(h:k<n)(y:α):spl (Jbt r v) (k*w) (r y)=some (Jbt r (v.setIfInBounds k y)):=by
 have g: ∀(l:List α) (k:Nat),k<l.length->spl ((l.map r).flatten) (k*w) (r y)=some (((l.set k y).map r).flatten):=by
  intro l
  induction l with
  |nil=>intro k h;simp at h
  |cons z l ih=>
   intro k h;cases k with
   |zero=>
    rw[Juq,J0I,J8S];rw[JMv (by rw[hr,hr])];simp
   |succ k=>
    simp at h;have:=ih k h;rw[J0I,J8S];rw[Jba]at this⊢;split at this
    ·rename_i j;injection this with this;have e:(k+1)*w=(r z).length+k*w:=by rw[zQ8,hr];omega
     rw[e,if_pos (by simp[hr]at j⊢;omega)];simp only[List.set_cons_succ,J0I,J8S];rw[<-this];rw[show(r z).length+k*w+(r y).length=(r z).length+(k*w+(r y).length) by omega];simp only[List.take_length_add_append,JPE,Jb1]
    ·cases this
 have h2:=g v.toList k (by simpa using h);unfold Jbt;rw[h2]
 congr 3
 simp[Vector.setIfInBounds,Vector.toList]
theorem JSr{n w:Nat}{r:α->List PV}(hr: ∀x,(r x).length=w)(v:Vector α n):(Jbt r v).length=n*w:=by
 have e: ∀l:List α,((l.map r).flatten).length=l.length*w:=by
  intro l
  induction l with
  |nil=>simp
  |cons x l ih=>simp[ih,hr,zQ8,Nat.add_comm]
 unfold Jbt;rw[e];simp
end
theorem Jgs: ∀l:List PV,unp (l.map AV.p)=some l
 |[]=>rfl
 |x::l=>by simp[unp,Jgs l]
theorem Jta(l:List PV):J3L true (l.map AV.p)=some (.data l):=by simp[J3L,Jgs]
theorem J9m: ∀l:List PV,(l.map AV.p).all J8X=true
 |[]=>rfl
 |x::l=>by simp
theorem JzU(m:Nat)(ids:List Nat)(sto:List Blk): ∀l:List PV,fin.finL m ids sto (l.map AV.p)=some (l.map AV.p)
 |[]=>rfl
 |x::l=>by simp[fin.finL,fin,JzU m ids sto l]
theorem JA0(l:List PV)(acc:List Ent):J0O.entsOfL (l.map AV.p) acc=acc:=Jvl (J9m l)
theorem JMV{α:Type}{r:α->List PV}{l:List α}{n:Int}{x:α}(h:idx l n=some x):JwS (l.map r) n=some (r x):=by
 unfold idx at h;unfold JwS;split at h
 ·rename_i e;rw[if_pos e,J2c,h];rfl
 ·cases h
theorem JKi{k:Nat}{n:Int}{u:Unit}(h:inb k n=some u):0<=n/\n<k:=by
 unfold inb at h;split at h
 ·assumption
 ·cases h
theorem JO0{α:Type}{k:Nat}{v:Vector α k}{n:Int}{x:α}(h:JrE v n=some x):(0<=n/\n<k)/\v[n.toNat]?=some x:=by
 unfold JrE at h;split at h
 ·exact⟨by assumption,h⟩
 ·cases h
theorem JQT{α:Type}{r:α->List PV}{esz bytes b:Nat}{w:Bool}{l e g:List α}{y:AV}{s:St}(h:JN bytes l g=some e)(hb:s.sto[b]?=some (.arr w esz (l.map r)))(hy:(J2B esz y).run s=some (g.map r)):
  (J8Q esz bytes (.slr b 0 l.length) y).run s=some ⟨.slr b 0 e.length,[(b,.arr w esz (e.map r))]⟩:=by
 unfold JN at h;split at h
 ·rename_i hr;injection h with h;subst h;simp only[J8Q,J1n,hb,JJ,run_bind,hy];rw[if_pos ⟨by trivial,by trivial,by simp,by simpa using hr⟩];simp[JH]
 ·cases h
theorem JlF: ∀l:List Int,J9t (l.map (r_i .u8))=some (toStr l)
 |[]=>rfl
 |x::l=>by simp[J9t,r_i,JlF l,toStr]
theorem Jvc(l:List UInt8):l.map J4C=(toByt l).map (r_i .u8):=by simp[toByt,J4C,r_i,Function.comp_def]
theorem JNW{α:Type}{bytes:Nat}{l e:List α}(h:J3g bytes l=some e):JaR l.length bytes=true/\e=l:=by
 unfold J3g at h;split at h
 ·injection h with h;exact⟨by assumption,h.symm⟩
 ·cases h
theorem JR5{α:Type}{bytes:Nat}{n m:Int}{z:α}{l:List α}(h:mkS bytes n m z=some l):(0<=n/\n<=m/\bytes*m<=281474976710656/\m<=281474976710656)/\l=List.replicate n.toNat z:=by
 unfold mkS at h;split at h
 ·injection h with h;exact⟨by assumption,h.symm⟩
 ·cases h
end Go.Am
end
section
set_option linter.unusedSimpArgs false
set_option linter.unusedVariables false
namespace Go.Am
open Go.RowKit
theorem JPC{σ:List Blk}{g:Gh}{w w':World}(hi:Inv ⟨σ,g,w⟩)(hb:Below w.heap.size w w'):
  Inv ⟨σ,g,w'⟩/\J0k ⟨σ,g,w⟩ ⟨σ,g,w'⟩:=by
 have hk: ∀(r:Nat) x,w.heap[r]?=some x->w'.heap[r]?=some x:=λr x h=>by rw[hb.block r (J2s h)];exact h
 have hc: ∀r o v,J0M w r o=some v->J0M w' r o=some v:=by
  intro r o v h;have hr:r<w.heap.size:=by
   unfold J0M at h;split at h
   ·rename_i hx;exact J2s hx
   ·cases h
  unfold J0M at h⊢;rw[hb.block r hr];exact h
 have t:J0k ⟨σ,g,w⟩ ⟨σ,g,w'⟩:=by
  refine⟨⟨hb.size,λr c e fz h=>⟨c,hk r _ h,rfl,λ_ _=>rfl⟩,λr x h _=>hk r x h,hb.os,hb.output⟩,λ_ _ h=>h,λ_ _ h=>.inl h,λr o ⟨b,hb⟩=>.inl ⟨b,hb⟩,zQ0 _,λ_ cs h=>⟨⟨cs,h,rfl⟩,rfl⟩,
   λ_ wm _ rows h=>⟨wm,rows,h,id,zQ0 _,λ_=>rfl⟩⟩
 exact⟨Jaa hi t (λ_=>False) (λ_ _=>⟨rfl,rfl⟩) (λ_ r o v _ _ h=>hc r o v h) (λ_ _ h=>h.elim) (λ_ _ _ _ h=>h.elim)
  (λ_ _ _ _ h=>h.elim) (λr o h=>Nat.lt_of_lt_of_le (hi.const r o h).1 hb.size) (λ_ _ _ _ h=>h.elim) (λ_ _ _ h j=>(j h).elim),t⟩
def JuL:PV->Option Value
 | .b x=>some (.bool x)
 | .i k n=>some (.int k n)
 | .s l=>some (.string ⟨l.toArray⟩)
 |_=>none
theorem JOF{x:PV}{v:Value}(h:JuL x=some v)(w:World)(C:Nat->Nat->Prop):J0u w C x v:=by
 cases x<;>simp only[JuL,Option.some.injEq,reduceCtorEq]at h<;>subst h
 ·exact .b _
 ·exact .i _ _
 ·exact .s _
theorem JQF{x:PV}{v e:Value}{w:World}{C:Nat->Nat->Prop}(h:J0u w C x v)(hv:JuL x=some e):v=e:=by cases x<;>simp only[JuL,Option.some.injEq,reduceCtorEq]at hv<;>subst hv<;>cases h<;>rfl
theorem Jse{P:Program}{f:FuncId}{xs:List PV}{vs:List Value}{r:PV}{v:Value}{blks:List Blk}
  (hf: ∃fn,P.funcs[f]?=some fn∧fn.body.isSome=true∧(fn.name== "runtime.NumGoroutine")=false)
  (hx:xs.mapM JuL=some vs) (hr:JuL r=some v)
  (hc: ∀w,Calls P f vs.toArray w λe w'=>e=.returned v/\Below w.heap.size w w'):
  J85 P f (xs.map .p) blks (.p r,blks):=by
 refine⟨hf,λg w vals hi hl ha=>?_⟩;have h:vals=vs.toArray:=by
  have n: ∀(xs:List PV) (vs vl:List Value),xs.mapM JuL=some vs->xs.length=vl.length->
    (∀(i:Nat) x v,(xs.map AV.p)[i]?=some x->vl[i]?=some v->JL ⟨blks,g,w⟩ x v)->vl=vs:=by
   intro xs
   induction xs with
   |nil=>intro vs vl h1 h2 _;simp at h1 h2;subst h1;exact List.length_eq_zero_iff.1 h2.symm
   |cons x r ih=>
    intro vs vl h1 h2 h3;simp only[List.mapM_cons,Option.pure_def,Option.bind_eq_bind]at h1;obtain⟨v0,o,h1⟩:=J25.1 h1;obtain⟨y,k,h1⟩:=J25.1 h1;simp only[Option.some.injEq]at h1;subst h1;cases vl with
    |nil=>simp at h2
    |cons u q=>
     have:=h3 0 (.p x) u rfl rfl;cases this with
     |p _ _ hp=>
      rw[JQF hp o,ih y q k (by simpa using h2) (λi x v hx hv=>h3 (i+1) x v hx hv)]
  apply JaT;rw[n xs vs vals.toList hx (by simpa using hl) (λi x v h1 h2=>ha i x v h1 (by simpa using h2))]
 subst h;refine(hc w).mono ?_;rintro e w' ⟨rfl,hb⟩;obtain⟨j,t⟩:=JPC hi hb;exact⟨v,g,rfl,j,t,.p _ _ (JOF hr _ _)⟩
theorem Jzy{T:J4d}{f:FuncId}{g:List AV->List Blk->Option Res}(h:T f=some (.prim g))(args blks):AF T f args blks=g args blks:=by unfold AF Jdm;rw[h]
def JRV(a:Option AFn)(k:Option Jgg)(g q:Option (List AV->List Blk->Option Res)):Option JMg:=
 match a with
 |some a=>some (.fn a)
 |none=>match k with
  |some k=>some (.fork k)
  |none=>match g with
   |some g=>some (.prim g)
   |none=>q.map .prim
theorem JlV{a:Option AFn}{k:Option Jgg}{g q:Option (List AV->List Blk->Option Res)}{e:JMg}(h:JRV a k g q=some e):
  (∃x,a=some x/\e=.fn x)\/(∃x,k=some x/\e=.fork x)\/(∃x,g=some x/\e=.prim x)\/(∃x,q=some x/\e=.prim x):=by
 cases a with
 |some a=>exact .inl ⟨a,rfl,by injection h with h;exact h.symm⟩
 |none=>
  cases k with
  |some k=>exact .inr (.inl ⟨k,rfl,by injection h with h;exact h.symm⟩)
  |none=>
   cases g with
   |some g=>exact .inr (.inr (.inl ⟨g,rfl,by injection h with h;exact h.symm⟩))
   |none=>
    cases q with
    |some q=>exact .inr (.inr (.inr ⟨q,rfl,by injection h with h;exact h.symm⟩))
    |none=>cases h
def Jv6(l:List UInt8)(n:Int):Option (List UInt8):=if 0<=n/\n<=9223372036854775807/\l.length*n.toNat<=140737488355328 then some (List.replicate n.toNat l).flatten else none
def JLk:List AV->List Blk->Option Res
 |[.p (.s l),.p (.i .i64 n)],blks=>(Jv6 l n).map λr=>(.p (.s r),blks)
 |_,_=>none
def Jae(n:Int)(i:Nat):Int:=IntKind.wrap .u8 ((IntKind.wrap .u64 n).fdiv (2^(8*i)))
def J9T(n:Int)(k:Nat):List UInt8:=toStr ((List.range k).map (Jae n))
def JtT(l:List UInt8)(n size:Int):Option (List UInt8):=if size<1\/8<size then some l else if l.length+8<=140737488355328 then some (l++J9T n size.toNat)else none
def JKV:List AV->List Blk->Option Res
 |[.p (.s l),.p (.i .i64 n),.p (.i .i64 k)],blks=>(JtT l n k).map λr=>(.p (.s r),blks)
 |_,_=>none
theorem JR4(x:Int):0<=IntKind.wrap .u8 x/\IntKind.wrap .u8 x<256:=by have h:IntKind.wrap .u8 x=x%256:=rfl;rw[h];omega
theorem JMa(n:Int)(i:Nat):((UInt8.ofNat (Jae n i).toNat).toNat:Int)=Jae n i:=by
 have h:0<=Jae n i/\Jae n i<256:=JR4 _;have h2:(Jae n i).toNat<256:=by omega
 rw[UInt8.toNat_ofNat_of_lt' (by simpa using h2)];omega
theorem JNz(n:Int)(k:Nat):J9T n (k+1)=J9T n k++[UInt8.ofNat (Jae n k).toNat]:=by simp[J9T,toStr,List.range_succ]
theorem Jth(n:Int)(k:Nat):(J9T n k).length=k:=by simp[J9T,toStr]
theorem JTI(x y:Bool):J1C [.b] [.b x] [.b y]=some (decide (x=y)):=by simp only[J1C,Jmg];cases x<;>cases y<;>rfl
theorem JTE(k:IntKind)(x y:Int):J1C [.i k] [.i k x] [.i k y]=some (decide (x=y)):=by by_cases h:x=y<;>simp[J1C,Jmg,h]
theorem JTC(x y:List UInt8):J1C [.s] [.s x] [.s y]=some (decide (x=y)):=by by_cases h:x=y<;>simp[J1C,Jmg,h]
theorem JJx{p q:Prop} [Decidable p] [Decidable q]: ∀{e g:List KD} {a1 a2 b1 b2:List PV},J1C e a1 b1=some (decide p)->J1C g a2 b2=some (decide q)->J1C (e++g) (cat a1 a2) (cat b1 b2)=some (decide (p/\q)):=by
 have h: ∀(e g:List KD) (a1 a2 b1 b2:List PV) (r s:Bool),J1C e a1 b1=some r->J1C g a2 b2=some s->J1C (e++g) (a1++a2) (b1++b2)=some (r&&s):=by
  intro e
  induction e with
  |nil=>
   intro g a1 a2 b1 b2 r s h1 h2;cases a1<;>cases b1<;>simp[J1C]at h1;subst h1;simpa using h2
  |cons k ks ih=>
   intro g a1 a2 b1 b2 r s h1 h2;cases a1 with
   |nil=>simp[J1C]at h1
   |cons a a1=>
    cases b1 with
    |nil=>simp[J1C]at h1
    |cons b b1=>
     simp only[J1C]at h1;split at h1
     ·rename_i u c hu hc;injection h1 with h1;subst h1;simp only[JiJ,J1C,hu,ih _ _ _ _ _ _ _ hc h2,Bool.and_assoc]
     ·cases h1
 intro e g a1 a2 b1 b2 h1 h2;rw[h _ _ _ _ _ _ _ _ h1 h2,Bool.decide_and]
theorem JSC{α:Type} [DecidableEq α]{n:Nat}{ks:List KD}{r:α->List PV}(h: ∀x y,J1C ks (r x) (r y)=some (decide (x=y)))(v w:Vector α n):
  J1C (List.replicate n ks).flatten (Jbt r v) (Jbt r w)=some (decide (v=w)):=by
 have j: ∀(l g:List α),l.length=g.length->J1C (List.replicate l.length ks).flatten (l.map r).flatten (g.map r).flatten=some (decide (l=g)):=by
  intro l
  induction l with
  |nil=>intro g h1;cases g with
   |nil=>simp[J1C]
   |cons a g=>simp at h1
  |cons a l ih=>
   intro g h1;cases g with
   |nil=>simp at h1
   |cons b g=>
    have h2:=JJx (h a b) (ih g (by simpa using h1));simp only[JFF,List.replicate_succ,J8S,J0I];rw[show(decide (a::l=b::g))=decide (a=b/\l=g) by simp];exact h2
 have h3:=j v.toList w.toList (by simp);rw[show v.toList.length=n by simp]at h3;rw[show decide (v=w)=decide (v.toList=w.toList) by apply decide_eq_decide.2;exact⟨λe=>by rw[e],λe=>Vector.toList_inj.1 e⟩]
 exact h3
end Go.Am
end
section
namespace Go.Am
def J2(k:IntKind)(a c:Int):Int:=k.wrap (a+c)
def JI(k:IntKind)(a c:Int):Int:=k.wrap (a-c)
def J20(k:IntKind)(a c:Int):Int:=k.wrap (a*c)
def JU6(k:IntKind)(n:Int):Int:=k.wrap (0-n)
def cvI(k:IntKind)(n:Int):Int:=k.wrap n
def eqI(a c:Int):Bool:=decide (a=c)
def neI(a c:Int):Bool:= !decide (a=c)
def ltI(a c:Int):Bool:=decide (a<c)
def leI(a c:Int):Bool:=decide (a<=c)
def gtI(a c:Int):Bool:=decide (a>c)
def geI(a c:Int):Bool:=decide (a>=c)
def eqS(a c:List UInt8):Bool:=decide (a=c)
def neS(a c:List UInt8):Bool:= !decide (a=c)
def ltS(a c:List UInt8):Bool:=Op.bytesLess a c
def leS(a c:List UInt8):Bool:=Op.bytesLess a c||decide (a=c)
def gtS(a c:List UInt8):Bool:= !(Op.bytesLess a c||decide (a=c))
def geS(a c:List UInt8):Bool:= !Op.bytesLess a c
def eqB(a c:Bool):Bool:=decide (a=c)
def Jr(x:Bool):Bool:= !x
def J0{α:Type}(l:List α):Int:=l.length
def JTT{α:Type}(c:Bool)(x y:α):α:=if c=true then x else y
def lat{α:Type}(l:List α)(i:Nat):Option α:=l[i]?
def J0w{α:Type}(l:List α)(i:Nat)(x:α):List α:=l.set i x
def vat{α:Type}{n:Nat}(l:Vector α n)(i:Nat):Option α:=l[i]?
def J9U{α:Type}{n:Nat}(l:Vector α n)(i:Nat)(x:α):Vector α n:=l.setIfInBounds i x
inductive Ty where
 |b
 |i (k:IntKind)
 |s
 |l (t:Ty)
 |pr (a c:Ty)
 |ar (n:Nat) (t:Ty)
 |u
 |f
 deriving DecidableEq
@[reducible] def Ty.D:Ty->Type
 | .b=>Bool
 | .i _=>Int
 | .s=>List UInt8
 | .l t=>List t.D
 | .pr a c=>a.D×c.D
 | .ar n t=>Vector t.D n
 | .u=>Unit
 | .f=>Unit
def Ty.sz:Ty->Nat
 | .b=>1
 | .i _=>1
 | .s=>1
 | .l _=>1
 | .pr a c=>a.sz+c.sz
 | .ar n t=>n*t.sz
 | .u=>0
 | .f=>1
def cel:(t:Ty)->t.D->List PV
 | .b,x=>[.b x]
 | .i k,x=>[.i k x]
 | .s,x=>[.s x]
 | .l t,x=>[.sl t.sz (x.map (cel t))]
 | .pr a c,x=>cel a x.1++cel c x.2
 | .ar _ t,x=>Jbt (cel t) x
 | .u,_=>[]
 | .f,_=>[.nf]
theorem J1J: ∀(t:Ty) (x:t.D),(cel t x).length=t.sz
 | .b,_=>rfl
 | .i _,_=>rfl
 | .s,_=>rfl
 | .l _,_=>rfl
 | .pr a c,x=>by simp only[cel,JbN,J1J a,J1J c,Ty.sz]
 | .ar n t,x=>by simp only[cel,Ty.sz];exact JSr (J1J t) x
 | .u,_=>rfl
 | .f,_=>rfl
def Ty.eqd:(t:Ty)->DecidableEq t.D
 | .b=>inferInstanceAs (DecidableEq Bool)
 | .i _=>inferInstanceAs (DecidableEq Int)
 | .s=>inferInstanceAs (DecidableEq (List UInt8))
 | .l t=>have:=t.eqd;inferInstanceAs (DecidableEq (List t.D))
 | .pr a c=>have:=a.eqd;have:=c.eqd;inferInstanceAs (DecidableEq (a.D×c.D))
 | .ar n t=>have:=t.eqd;inferInstanceAs (DecidableEq (Vector t.D n))
 | .u=>inferInstanceAs (DecidableEq Unit)
 | .f=>inferInstanceAs (DecidableEq Unit)
def eqT(t:Ty)(x y:t.D):Bool:=have:=t.eqd;decide (x=y)
theorem J1S{t:Ty}{x y:t.D}:eqT t x y=true↔x=y:=by simp[eqT]
def Ty.zero:(t:Ty)->t.D
 | .b=>false
 | .i _=>(0:Int)
 | .s=>[]
 | .l _=>[]
 | .pr a c=>(a.zero,c.zero)
 | .ar n t=>Vector.replicate n t.zero
 | .u=>()
 | .f=>()
def Ty.ks:Ty->Option (List KD)
 | .b=>some [.b]
 | .i k=>some [.i k]
 | .s=>some [.s]
 | .l _=>none
 | .pr a c=>match a.ks,c.ks with
   |some x,some y=>some (x++y)
   |_,_=>none
 | .ar n t=>match t.ks with
   |some x=>some (List.replicate n x).flatten
   |none=>none
 | .u=>some []
 | .f=>none
theorem Jsf: ∀(t:Ty) {ks:List KD} (x y:t.D),t.ks=some ks->J1C ks (cel t x) (cel t y)=some (eqT t x y)
 | .b,ks,x,y,h=>by injection h with h;subst h;exact JTI x y
 | .i k,ks,x,y,h=>by injection h with h;subst h;exact JTE k x y
 | .s,ks,x,y,h=>by injection h with h;subst h;exact JTC x y
 | .l _,_,_,_,h=>by cases h
 | .pr a c,ks,x,y,h=>by
   simp only[Ty.ks]at h;split at h
   ·rename_i p q hp hq;injection h with h;subst h;have h1:=Jsf a x.1 y.1 hp;have h2:=Jsf c x.2 y.2 hq;unfold eqT at h1 h2;have e1:(have:=a.eqd;decide (x.1=y.1))= @decide _ (a.eqd x.1 y.1):=rfl;have:= @JJx _ _ (a.eqd x.1 y.1) (c.eqd x.2 y.2) _ _ _ _ _ _ h1 h2;simp only[cel];refine this.trans (congrArg some ?_);unfold eqT;apply decide_eq_decide.2;exact⟨fun⟨e,f⟩=>Prod.ext e f,λe=>by rw[e];exact⟨rfl,rfl⟩⟩
   ·cases h
 | .ar n t,ks,x,y,h=>by
   simp only[Ty.ks]at h;split at h
   ·rename_i p hp;injection h with h;subst h;have:= @JSC t.D t.eqd n p (cel t) (λx y=>by have:=Jsf t x y hp;exact this) x y;simp only[cel];refine this.trans (congrArg some ?_);unfold eqT;apply decide_eq_decide.2;rfl
   ·cases h
 | .u,ks,x,y,h=>by injection h with h;subst h;rfl
 | .f,_,_,_,h=>by cases h
inductive Sp where
 |f (off:Nat)
 |a (i esz:Nat)
 deriving DecidableEq
def spo:List Sp->Nat
 |[]=>0
 | .f o::r=>o+spo r
 | .a i e::r=>i*e+spo r
def spf:Nat->List Sp->Nat×List Sp
 |o,.f k::r=>spf (o+k) r
 |o,r=>(o,r)
theorem JDE: ∀(o:Nat) (p:List Sp),(spf o p).1+spo (spf o p).2=o+spo p
 |o,[]=>rfl
 |o,.f k::r=>by simp only[spf,JDE,spo];omega
 |o,.a i e::r=>rfl
section
variable {R:Type}
def prt:(t:Ty)->t.D->(off:Nat)->List Sp->(w:Ty)->(w.D->Option R)->Option R
 |t,x,off,p,w,k=>
  if h:t=w/\off=0/\p=[]then k (h.1▸x)
  else match t,x with
   | .pr a c,x=>if off+(if p=[]then w.sz else 1)<=a.sz then prt a x.1 off p w k
     else if a.sz<=off then prt c x.2 (off-a.sz) p w k
     else none
   | .ar _ t,x=>if p=[]then(vat x (off/t.sz)).bind λy=>prt t y (off%t.sz) p w k
     else match off,p with
      |0,.a i e::r=>if e=t.sz then(vat x i).bind λy=>prt t y (spf 0 r).1 (spf 0 r).2 w k else none
      |_,_=>none
   |_,_=>none
def pst:(t:Ty)->t.D->(off:Nat)->List Sp->(w:Ty)->w.D->(t.D->Option R)->Option R
 |t,x,off,p,w,v,k=>
  if h:t=w/\off=0/\p=[]then k (h.1.symm▸v)
  else match t,x,k with
   | .pr a c,x,k=>if off+(if p=[]then w.sz else 1)<=a.sz then pst a x.1 off p w v λy=>k (y,x.2)
     else if a.sz<=off then pst c x.2 (off-a.sz) p w v λy=>k (x.1,y)
     else none
   | .ar _ t,x,k=>if p=[]then(vat x (off/t.sz)).bind λy=>pst t y (off%t.sz) p w v λy=>k (J9U x (off/t.sz) y)
     else match off,p with
      |0,.a i e::r=>if e=t.sz then(vat x i).bind λy=>pst t y (spf 0 r).1 (spf 0 r).2 w v λy=>k (J9U x i y)else none
      |_,_=>none
   |_,_,_=>none
end
theorem JP1{α:Type}{a b v:List α}{off n:Nat}(h:sub a off n=some v):sub (a++b) off n=some v:=by
 rw[J9i]at h⊢;split at h
 ·rename_i hl;injection h with h;rw[if_pos (by simp;omega),<-h,List.drop_append_of_le_length (by omega),List.take_append_of_le_length (by simp;omega)]
 ·cases h
theorem JNH{α:Type}{a b v:List α}{off n:Nat}(e:a.length<=off)(h:sub b (off-a.length) n=some v):sub (a++b) off n=some v:=by
 rw[J9i]at h⊢;split at h
 ·injection h with h;rw[if_pos (by simp;omega),<-h,List.drop_append,List.drop_of_length_le e];simp
 ·cases h
theorem JPI{α:Type}{a b v e:List α}{off:Nat}(h:spl a off v=some e):spl (a++b) off v=some (e++b):=by
 rw[Jba]at h⊢;split at h
 ·rename_i hl;injection h with h;rw[if_pos (by simp;omega),<-h,List.take_append_of_le_length (by omega),List.drop_append_of_le_length (by omega)];simp
 ·cases h
theorem JN4{α:Type}{a b v e:List α}{off:Nat}(g:a.length<=off)(h:spl b (off-a.length) v=some e):spl (a++b) off v=some (a++e):=by
 rw[Jba]at h⊢;split at h
 ·injection h with h;rw[if_pos (by simp;omega),<-h,List.take_append,List.take_of_length_le g,List.drop_append,List.drop_of_length_le (by omega)];simp;omega
 ·cases h
theorem JKk{α:Type}{n i:Nat}{x:Vector α n}{y:α}(h:x[i]?=some y):i<n:=by
 rcases zQ1 i n with h1|h1
 ·exact h1
 ·rw[Vector.getElem?_eq_none h1]at h;cases h
theorem Jbd{R:Type}{t w:Ty}{x:t.D}{off:Nat}{p:List Sp}{k:w.D->Option R}{r:R}(e:t=w/\off=0/\p=[])(h:k (e.1▸x)=some r):
  ∃y,sub (cel t x) (off+spo p) w.sz=some (cel w y)/\k y=some r:=by
 obtain⟨rfl,rfl,rfl⟩:=e;exact⟨x,by simpa[spo]using Jzp (J1J _ x),h⟩
theorem Jbb{R:Type}{t w:Ty}{x:t.D}{off:Nat}{p:List Sp}{v:w.D}{k:t.D->Option R}{r:R}(e:t=w/\off=0/\p=[])(h:k (e.1.symm▸v)=some r):
  ∃y,spl (cel t x) (off+spo p) (cel w v)=some (cel t y)/\k y=some r:=by
 obtain⟨rfl,rfl,rfl⟩:=e;exact⟨v,by simpa[spo]using JJO ((J1J _ x).trans (J1J _ v).symm),h⟩
theorem Jbf{R:Type}: ∀{t:Ty} {x:t.D} {off:Nat} {p:List Sp} {w:Ty} {k:w.D->Option R} {r:R},prt t x off p w k=some r->
  ∃y,sub (cel t x) (off+spo p) w.sz=some (cel w y)/\k y=some r
 | .pr a c,x,off,p,w,k,r,h=>by
   unfold prt at h;by_cases g:Ty.pr a c=w/\off=0/\p=[]
   ·rw[dif_pos g]at h;exact Jbd g h
   ·rw[dif_neg g]at h;dsimp only at h;by_cases h1:off+(if p=[]then w.sz else 1)<=a.sz
    ·rw[if_pos h1]at h;obtain⟨y,q1,q2⟩:=Jbf h;exact⟨y,JP1 q1,q2⟩
    ·rw[if_neg h1]at h;by_cases h2:a.sz<=off
     ·rw[if_pos h2]at h;obtain⟨y,q1,q2⟩:=Jbf h;refine⟨y,JNH (by rw[J1J];omega) ?_,q2⟩;rw[J1J,show off+spo p-a.sz=off-a.sz+spo p by omega];exact q1
     ·rw[if_neg h2]at h;cases h
 | .ar n t,x,off,p,w,k,r,h=>by
   unfold prt at h;by_cases g:Ty.ar n t=w/\off=0/\p=[]
   ·rw[dif_pos g]at h;exact Jbd g h
   ·rw[dif_neg g]at h;dsimp only at h;by_cases hp:p=[]
    ·rw[if_pos hp]at h;obtain⟨z,hz,h⟩:=J25.1 h;obtain⟨y,h1,h2⟩:=Jbf h;refine⟨y,?_,h2⟩;have:=JJw (Jpn (J1J t) hz) h1;rw[<-this,hp];simp only[spo,JaY];show sub (Jbt (cel t) x) _ _=_
     congr 1
     rw[JuP];exact(Nat.div_add_mod off t.sz).symm
    ·rw[if_neg hp]at h;split at h
     ·rename_i _ i e q _;split at h
      ·rename_i he;obtain⟨z,hz,h⟩:=J25.1 h;obtain⟨y,h1,h2⟩:=Jbf h;refine⟨y,?_,h2⟩;have:=JJw (Jpn (J1J t) hz) h1;rw[<-this];show sub (Jbt (cel t) x) _ _=_
       congr 1
       have:=JDE 0 q;simp only[spo,he];omega
      ·cases h
     ·cases h
 | .b,x,off,p,w,k,r,h=>by unfold prt at h;split at h;next g=>exact Jbd g h
                          next=>cases h
 | .i _,x,off,p,w,k,r,h=>by unfold prt at h;split at h;next g=>exact Jbd g h
                            next=>cases h
 | .s,x,off,p,w,k,r,h=>by unfold prt at h;split at h;next g=>exact Jbd g h
                          next=>cases h
 | .l _,x,off,p,w,k,r,h=>by unfold prt at h;split at h;next g=>exact Jbd g h
                            next=>cases h
 | .u,x,off,p,w,k,r,h=>by unfold prt at h;split at h;next g=>exact Jbd g h
                          next=>cases h
 | .f,x,off,p,w,k,r,h=>by unfold prt at h;split at h;next g=>exact Jbd g h
                          next=>cases h
theorem Jdc{R:Type}: ∀{t:Ty} {x:t.D} {off:Nat} {p:List Sp} {w:Ty} {v:w.D} {k:t.D->Option R} {r:R},pst t x off p w v k=some r->
  ∃y,spl (cel t x) (off+spo p) (cel w v)=some (cel t y)/\k y=some r
 | .pr a c,x,off,p,w,v,k,r,h=>by
   unfold pst at h;by_cases g:Ty.pr a c=w/\off=0/\p=[]
   ·rw[dif_pos g]at h;exact Jbb g h
   ·rw[dif_neg g]at h;dsimp only at h;by_cases h1:off+(if p=[]then w.sz else 1)<=a.sz
    ·rw[if_pos h1]at h;obtain⟨y,q1,q2⟩:=Jdc h;exact⟨(y,x.2),JPI q1,q2⟩
    ·rw[if_neg h1]at h;by_cases h2:a.sz<=off
     ·rw[if_pos h2]at h;obtain⟨y,q1,q2⟩:=Jdc h;refine⟨(x.1,y),JN4 (by rw[J1J];omega) ?_,q2⟩;rw[J1J,show off+spo p-a.sz=off-a.sz+spo p by omega];exact q1
     ·rw[if_neg h2]at h;cases h
 | .ar n t,x,off,p,w,v,k,r,h=>by
   unfold pst at h;by_cases g:Ty.ar n t=w/\off=0/\p=[]
   ·rw[dif_pos g]at h;exact Jbb g h
   ·rw[dif_neg g]at h;dsimp only at h;by_cases hp:p=[]
    ·rw[if_pos hp]at h;obtain⟨z,hz,h⟩:=J25.1 h;obtain⟨y,h1,h2⟩:=Jdc h;refine⟨_,?_,h2⟩;have:=JK3 (Jpn (J1J t) hz) h1 (JNm (J1J t) (JKk hz) y);subst hp;simp only[spo,JaY]at this⊢;rw[JuP,Nat.div_add_mod]at this;exact this
    ·rw[if_neg hp]at h;split at h
     ·rename_i _ i e q _;split at h
      ·rename_i he;obtain⟨z,hz,h⟩:=J25.1 h;obtain⟨y,h1,h2⟩:=Jdc h;refine⟨_,?_,h2⟩;have:=JK3 (Jpn (J1J t) hz) h1 (JNm (J1J t) (JKk hz) y);have e1:=JDE 0 q;simp only[spo,he];rw[show i*t.sz+((spf 0 q).1+spo (spf 0 q).2)=0+(i*t.sz+spo q) by omega]at this;exact this
      ·cases h
     ·cases h
 | .b,x,off,p,w,v,k,r,h=>by unfold pst at h;split at h;next g=>exact Jbb g h
                            next=>cases h
 | .i _,x,off,p,w,v,k,r,h=>by unfold pst at h;split at h;next g=>exact Jbb g h
                              next=>cases h
 | .s,x,off,p,w,v,k,r,h=>by unfold pst at h;split at h;next g=>exact Jbb g h
                            next=>cases h
 | .l _,x,off,p,w,v,k,r,h=>by unfold pst at h;split at h;next g=>exact Jbb g h
                              next=>cases h
 | .u,x,off,p,w,v,k,r,h=>by unfold pst at h;split at h;next g=>exact Jbb g h
                            next=>cases h
 | .f,x,off,p,w,v,k,r,h=>by unfold pst at h;split at h;next g=>exact Jbb g h
                            next=>cases h
end Go.Am
end
section
namespace Go.Am
inductive TC where
 |d (t:Ty) (x:t.D)
 |sc (t:Ty) (rows:List t.D)
 |np
 |nf
 |un
 |ptr (b:Nat) (p:List Sp)
 |cp (t:Ty) (x:t.D) (p:List Sp)
 |slr (b:Nat)
 |slo (b n:Nat)
 |ep (b i:Nat) (p:List Sp)
 |epo (b e i:Nat) (p:List Sp)
 |fn (f:FuncId)
inductive TA where
 |c (x:TC)
 |dt (t:Ty) (x:t.D)
 |m (t:Ty) (cs:List TC)
 |fn (f:FuncId) (first caps:List TC)
inductive TV where
 |a (x:TA)
 |tup (vs:List TA)
inductive TB where
 |dead
 |box (t:Ty) (x:t.D)
 |mbox (t:Ty) (cs:List TC)
 |arr (w:Bool) (t:Ty) (rows:List t.D)
structure TSt where
 env:List (Nat×TV)
 sto:List TB
def hdP:List PV->PV
 |[c]=>c
 |_=>.np
def lnB:TB->Nat
 | .arr _ _ rows=>rows.length
 |_=>0
def lnO:Option TB->Nat
 |some x=>lnB x
 |none=>0
def lns(sto:List TB)(b:Nat):Nat:=lnO sto[b]?
section
variable (L:Nat->Nat)
def J0a:TC->AV
 | .d t x=>.p (hdP (cel t x))
 | .sc t rows=>.p (.slc t.sz (rows.map (cel t)))
 | .np=>.p .np
 | .nf=>.p .nf
 | .un=>.unk
 | .ptr b p=>.ptr b (spo p)
 | .cp t x p=>.cp (cel t x) (spo p)
 | .slr b=>.slr b 0 (L b)
 | .slo b n=>.slr b 0 n
 | .ep b i p=>.ep b (L b) i (spo p)
 | .epo b e i p=>.ep b e i (spo p)
 | .fn f=>.fn f [] []
def J1h:TA->AV
 | .c x=>J0a L x
 | .dt t x=>.data (cel t x)
 | .m _ cs=>.agg (cs.map (J0a L))
 | .fn f a c=>.fn f (a.map (J0a L)) (c.map (J0a L))
def J06:TV->AV
 | .a x=>J1h L x
 | .tup vs=>.tup (vs.map (J1h L))
def J0r:TB->Blk
 | .dead=>.dead
 | .box t x=>.box ((cel t x).map .p)
 | .mbox _ cs=>.box (cs.map (J0a L))
 | .arr w t rows=>.arr w t.sz (rows.map (cel t))
end
def J4D(L:Nat->Nat)(env:List (Nat×TV)):List (Nat×AV):=env.map λx=>(x.1,J06 L x.2)
def Ju(s:TSt):St:=⟨J4D (lns s.sto) s.env,s.sto.map (J0r (lns s.sto))⟩
section
variable (L:Nat->Nat)
theorem Jkg(t x):J0r L (.box t x)=.box ((cel t x).map .p):=rfl
theorem Jkl(t cs):J0r L (.mbox t cs)=.box (cs.map (J0a L)):=rfl
theorem JGG(w t rows):J0r L (.arr w t rows)=.arr w t.sz (rows.map (cel t)):=rfl
theorem J7w(b p):J06 L (.a (.c (.ptr b p)))=.ptr b (spo p):=rfl
theorem JcU(t x p):J06 L (.a (.c (.cp t x p)))=.cp (cel t x) (spo p):=rfl
theorem J51(b):J06 L (.a (.c (.slr b)))=.slr b 0 (L b):=rfl
theorem Jd4(b i p):J06 L (.a (.c (.ep b i p)))=.ep b (L b) i (spo p):=rfl
theorem e_i(k x):J06 L (.a (.c (.d (.i k) x)))=.p (.i k x):=rfl
theorem e_b(x):J06 L (.a (.c (.d .b x)))=.p (.b x):=rfl
theorem e_s(x):J06 L (.a (.c (.d .s x)))=.p (.s x):=rfl
theorem e_l(t x):J06 L (.a (.c (.d (.l t) x)))=.p (.sl t.sz (x.map (cel t))):=rfl
theorem JRr(f):J06 L (.a (.c (.fn f)))=.fn f [] []:=rfl
theorem JLQ(t x):J06 L (.a (.dt t x))=.data (cel t x):=rfl
theorem JOu(f a c):J06 L (.a (.fn f a c))=.fn f (a.map (J0a L)) (c.map (J0a L)):=rfl
theorem e_m(t cs):J06 L (.a (.m t cs))=.agg (cs.map (J0a L)):=rfl
end
theorem JF6{t:Ty}(h:t.sz=1)(x:t.D):cel t x=[hdP (cel t x)]:=by
 have:=J1J t x;rw[h]at this
 match hc:cel t x,this with
 |[c],_=>rfl
def kC(b n:Nat):TC->TC
 | .slr c=>if c=b then .slo b n else .slr c
 | .ep c i p=>if c=b then .epo b n i p else .ep c i p
 |x=>x
def kA(b n:Nat):TA->TA
 | .c x=>.c (kC b n x)
 | .dt t x=>.dt t x
 | .m t cs=>.m t (cs.map (kC b n))
 | .fn f a c=>.fn f (a.map (kC b n)) (c.map (kC b n))
def kV(b n:Nat):TV->TV
 | .a x=>.a (kA b n x)
 | .tup vs=>.tup (vs.map (kA b n))
def kB(b n:Nat):TB->TB
 | .mbox t cs=>.mbox t (cs.map (kC b n))
 |x=>x
def wS(b:Nat)(x:TB)(s:TSt):TSt:=⟨s.env,s.sto.set b x⟩
def wN(b:Nat)(x:TB)(s:TSt):TSt:=⟨s.env.map λy=>(y.1,kV b (lns s.sto b) y.2),(s.sto.map (kB b (lns s.sto b))).set b x⟩
def J0E(d:Option Nat)(v:TV)(s:TSt):TSt:=
 match d with
 |some d=>⟨(d,v)::s.env,s.sto⟩
 |none=>s
section
variable {L L':Nat->Nat} {b:Nat}
theorem k_C(h: ∀c,c≠b->L' c=L c)(x:TC):J0a L' (kC b (L b) x)=J0a L x:=by
 cases x with
 |slr c=>
  by_cases e:c=b
  ·subst e;simp only[kC,if_pos,J0a]
  ·simp only[kC,if_neg e,J0a,h c e]
 |ep c i p=>
  by_cases e:c=b
  ·subst e;simp only[kC,if_pos,J0a]
  ·simp only[kC,if_neg e,J0a,h c e]
 |_=>rfl
theorem JSo(h: ∀c,c≠b->L' c=L c)(xs:List TC):(xs.map (kC b (L b))).map (J0a L')=xs.map (J0a L):=by rw[J8Y];exact JyY λx _=>k_C h x
theorem k_A(h: ∀c,c≠b->L' c=L c)(x:TA):J1h L' (kA b (L b) x)=J1h L x:=by cases x<;>simp only[kA,J1h,k_C h,JSo h]
theorem k_V(h: ∀c,c≠b->L' c=L c)(x:TV):J06 L' (kV b (L b) x)=J06 L x:=by cases x<;>simp only[kV,J06,k_A h,J8Y,Function.comp_def]
theorem k_B(h: ∀c,c≠b->L' c=L c)(x:TB):J0r L' (kB b (L b) x)=J0r L x:=by cases x<;>simp only[kB,J0r,JSo h]
theorem JSU(b n:Nat)(x:TB):lnB (kB b n x)=lnB x:=by cases x<;>rfl
theorem JRQ(sto:List TB)(b n c:Nat):lns (sto.map (kB b n)) c=lns sto c:=by
 unfold lns;rw[J2c];cases sto[c]? with
 |none=>rfl
 |some x=>exact JSU b n x
theorem JKh(sto:List TB)(b:Nat)(x:TB)(c:Nat)(h:c≠b):lns (sto.set b x) c=lns sto c:=by unfold lns;rw[JlL (λe=>h e.symm)]
theorem JGN{sto:List TB}{b:Nat}(h:b<sto.length)(x:TB):lns (sto.set b x) b=lnB x:=by unfold lns;rw[JpO h];rfl
theorem JPV(b:Nat)(x:TB)(s:TSt):Ju (wN b x s)=⟨(Ju s).env,(Ju s).sto.set b (J0r (lns (wN b x s).sto) x)⟩:=by
 have h: ∀c,c≠b->lns (wN b x s).sto c=lns s.sto c:=λc hc=>by unfold wN;rw[JKh _ _ _ _ hc,JRQ]
 unfold Ju
 congr 1
 ·show J4D _ (s.env.map λy=>(y.1,kV b (lns s.sto b) y.2))=J4D _ s.env;unfold J4D;rw[J8Y];exact JyY λy _=>by simp only[Function.comp,k_V h]
 ·show((s.sto.map (kB b (lns s.sto b))).set b x).map _=_;rw[List.map_set,J8Y]
  congr 1
  exact JyY λy _=>k_B h y
theorem Jj4{b:Nat}{x:TB}{s:TSt}(h:lnB x=lns s.sto b):lns (wS b x s).sto=lns s.sto:=by
 funext c
 by_cases hc:c=b
 ·subst hc;unfold wS;rcases zQ1 c s.sto.length with hl|hl
  ·rw[JGN hl,h]
  ·rw[List.set_eq_of_length_le hl]
 ·exact JKh _ _ _ _ hc
theorem JlX{b:Nat}{x:TB}{s:TSt}(h:lnB x=lns s.sto b):Ju (wS b x s)=⟨(Ju s).env,(Ju s).sto.set b (J0r (lns s.sto) x)⟩:=by unfold Ju;rw[Jj4 h];unfold wS;rw[List.map_set]
theorem Ja3{s s1:TSt}{ws:List (Nat×Blk)}(h:Ju s1=⟨(Ju s).env,upd ws (Ju s).sto⟩)(d:Option Nat)(v:TV):put d ⟨J06 (lns s1.sto) v,ws⟩ (Ju s)=Ju (J0E d v s1):=by
 cases d with
 |none=>exact h.symm
 |some d=>
  simp only[put,J0E];have h1:(Ju s1).env=(Ju s).env:=by rw[h]
  have h2:(Ju s1).sto=upd ws (Ju s).sto:=by rw[h]
  unfold Ju at h1 h2⊢;simp only[J4D,J0I]at h1 h2⊢;rw[h1,h2]
end
theorem JjK{s:TSt}(d:Option Nat)(v:TV):put d ⟨J06 (lns s.sto) v,[]⟩ (Ju s)=Ju (J0E d v s):=Ja3 rfl d v
def tlk(n:Nat):List (Nat×TV)->Option TV
 |[]=>none
 |(m,v)::r=>if n=m then some v else tlk n r
theorem Jfs(L:Nat->Nat)(n:Nat): ∀env:List (Nat×TV),lk n (J4D L env)=(tlk n env).map (J06 L)
 |[]=>rfl
 |(m,v)::r=>by
  simp only[J4D,J0I,lk,tlk];split
  ·rfl
  ·exact Jfs L n r
theorem J1I(s:TSt)(b:Nat):(Ju s).sto[b]?=(s.sto[b]?).map (J0r (lns s.sto)):=by unfold Ju;rw[J2c]
theorem J5Z{sto:List TB}{b:Nat}{w:Bool}{t:Ty}{rows:List t.D}(h:sto[b]?=some (.arr w t rows)):lns sto b=rows.length:=by unfold lns;rw[h];rfl
inductive TO where
 |t (n:Nat)
 |c (x:TV)
def erO:TO->Opd
 | .t n=>.t n
 | .c x=>.c (J06 (λ_=>0) x)
def JQ1:TC->Bool
 | .d _ _| .sc _ _| .np| .nf| .un| .fn _=>true
 |_=>false
def JDC:TA->Bool
 | .c x=>JQ1 x
 | .dt _ _=>true
 | .m _ _=>false
 | .fn _ a c=>a.isEmpty&&c.isEmpty
def Js8:TV->Bool
 | .a x=>JDC x
 | .tup vs=>vs.isEmpty
theorem JP4{L L':Nat->Nat}{v:TV}(h:Js8 v=true):J06 L v=J06 L' v:=by
 cases v with
 |a x=>
  cases x with
  |c x=>cases x<;>first|rfl|(simp[Js8,JDC,JQ1]at h)
  |dt t x=>rfl
  |m t cs=>simp[Js8,JDC]at h
  |fn f a c=>
   simp[Js8,JDC]at h;obtain⟨rfl,rfl⟩:=h;rfl
 |tup vs=>
  simp[Js8]at h;subst h;rfl
def tev:TO->TSt->Option TV
 | .t n,s=>tlk n s.env
 | .c x,_=>if Js8 x=true then some x else none
theorem J0c{x:TO}{s:TSt}{v:TV}(h:tev x s=some v):(ev (erO x)).run (Ju s)=some (J06 (lns s.sto) v):=by
 cases x with
 |t n=>
  simp only[erO,ev,J8L];show(lk n (J4D (lns s.sto) s.env)).bind _=_;rw[Jfs,show tlk n s.env=some v from h];rfl
 |c x=>
  simp only[tev]at h;split at h
  ·rename_i hf;injection h with h;subst h;simp only[erO,ev,JH];rw[JP4 hf]
  ·cases h
end Go.Am
end
section
namespace Go.Am
@[reducible] def vi(k:IntKind)(n:Int):TV:=.a (.c (.d (.i k) n))
@[reducible] def vb(x:Bool):TV:=.a (.c (.d .b x))
@[reducible] def vs(l:List UInt8):TV:=.a (.c (.d .s l))
@[reducible] def vl(t:Ty)(l:List t.D):TV:=.a (.c (.d (.l t) l))
def uv:TV:=.tup []
def mkv(agg:Bool)(t:Ty)(x:t.D):TV:=if agg=true then .a (.dt t x)else .a (.c (.d t x))
def Ok{R:Type}(m:RM Eff)(d:Option Nat)(s:TSt)(k:TSt->Option R)(r:R):Prop:= ∃e s',m.run (Ju s)=some e/\put d e (Ju s)=Ju s'/\k s'=some r
def asm:(t:Ty)->List TC->Option t.D
 | .pr a c,l=>match asm a (l.take a.sz),asm c (l.drop a.sz)with
   |some x,some y=>some (x,y)
   |_,_=>none
 | .ar _ _,_=>none
 | .u,l=>if l.isEmpty=true then some ()else none
 |t,l=>match l with
  |[.d t' x]=>if h:t'=t then some (h▸x)else none
  |_=>none
def JuK:(t:Ty)->t.D->Option (List TC)
 | .pr a c,x=>match JuK a x.1,JuK c x.2 with
   |some l,some q=>some (l++q)
   |_,_=>none
 | .ar _ _,_=>none
 | .u,_=>some []
 |t,x=>some [.d t x]
theorem Jqu(L:Nat->Nat): ∀{t:Ty} {l:List TC} {x:t.D},asm t l=some x->l.map (J0a L)=(cel t x).map .p
 | .pr a c,l,x,h=>by
   simp only[asm]at h;split at h
   ·rename_i y z hy hz;injection h with h;subst h;have h1:=Jqu L hy;have h2:=Jqu L hz;simp only[cel,Jc6,<-h1,<-h2];rw[<-Jc6,Jz3]
   ·cases h
 | .ar _ _,_,_,h=>by cases h
 | .u,l,x,h=>by
   simp only[asm]at h;split at h
   ·rename_i e;rw[List.isEmpty_iff.1 e];rfl
   ·cases h
 | .b,l,x,h=>by
   simp only[asm]at h;split at h
   ·split at h
    ·rename_i e;subst e;injection h with h;subst h;rfl
    ·cases h
   ·cases h
 | .i _,l,x,h=>by
   simp only[asm]at h;split at h
   ·split at h
    ·rename_i e;subst e;injection h with h;subst h;rfl
    ·cases h
   ·cases h
 | .s,l,x,h=>by
   simp only[asm]at h;split at h
   ·split at h
    ·rename_i e;subst e;injection h with h;subst h;rfl
    ·cases h
   ·cases h
 | .l _,l,x,h=>by
   simp only[asm]at h;split at h
   ·split at h
    ·rename_i e;subst e;injection h with h;subst h;rfl
    ·cases h
   ·cases h
 | .f,l,x,h=>by
   simp only[asm]at h;split at h
   ·split at h
    ·rename_i e;subst e;injection h with h;subst h;rfl
    ·cases h
   ·cases h
theorem Jkx(L:Nat->Nat): ∀{t:Ty} {x:t.D} {l:List TC},JuK t x=some l->l.map (J0a L)=(cel t x).map .p
 | .pr a c,x,l,h=>by
   simp only[JuK]at h;split at h
   ·rename_i y z hy hz;injection h with h;subst h;have h1:=Jkx L hy;have h2:=Jkx L hz;simp only[cel,Jc6,<-h1,<-h2]
   ·cases h
 | .ar _ _,_,_,h=>by cases h
 | .u,x,l,h=>by injection h with h;subst h;rfl
 | .b,x,l,h=>by injection h with h;subst h;rfl
 | .i _,x,l,h=>by injection h with h;subst h;rfl
 | .s,x,l,h=>by injection h with h;subst h;rfl
 | .l _,x,l,h=>by injection h with h;subst h;rfl
 | .f,x,l,h=>by injection h with h;subst h;rfl
def zcs:Ty->List TC
 | .pr a c=>zcs a++zcs c
 | .ar n t=>(List.replicate n (zcs t)).flatten
 | .u=>[]
 |t=>[.d t t.zero]
theorem Jjc(L:Nat->Nat): ∀t:Ty,(zcs t).map (J0a L)=(cel t t.zero).map .p
 | .pr a c=>by simp only[zcs,Jc6,Jjc L a,Jjc L c,Ty.zero,cel]
 | .ar n t=>by
   have ih:=Jjc L t;have e:cel (.ar n t) (Ty.ar n t).zero=(List.replicate n (cel t t.zero)).flatten:=by simp only[cel,Jbt,Ty.zero,Vector.toList_replicate,JqJ]
   rw[e];simp only[zcs,List.map_flatten,JqJ,ih]
 | .u=>rfl
 | .b=>rfl
 | .i _=>rfl
 | .s=>rfl
 | .l _=>rfl
 | .f=>rfl
def mkb(t:Ty)(cs:List TC):TB:=match asm t cs with
 |some x=>.box t x
 |none=>.mbox t cs
theorem JrK(L:Nat->Nat)(t:Ty)(cs:List TC):J0r L (mkb t cs)=.box (cs.map (J0a L)):=by
 unfold mkb;split
 ·rename_i x hx;rw[Jkg,Jqu L hx]
 ·rfl
theorem JrX(t:Ty)(cs:List TC):lnB (mkb t cs)=0:=by unfold mkb;split<;>rfl
def JLI:TC->Bool
 | .ptr _ _| .cp _ _ _| .slr _| .slo _ _| .ep _ _ _| .epo _ _ _ _| .un| .fn _=>true
 |_=>false
theorem Jz5(L:Nat->Nat): ∀{cs:List TC},cs.any JLI=true->unp (cs.map (J0a L))=none
 |[],h=>by simp at h
 |x::r,h=>by
  simp only[List.any_cons,Jz9]at h;rcases h with h|h
  ·cases x<;>simp[JLI]at h<;>rfl
  ·have:=Jz5 L h;cases x<;>simp[J0a,unp,this]
def mka(agg:Bool)(t:Ty)(cs:List TC):Option TV:=
 if agg=true then
  match asm t cs with
  |some x=>some (.a (.dt t x))
  |none=>if cs.any JLI=true then some (.a (.m t cs))else none
 else match cs with
  |[c]=>some (.a (.c c))
  |_=>none
theorem JjR(L:Nat->Nat){agg:Bool}{t:Ty}{cs:List TC}{v:TV}(h:mka agg t cs=some v):J3L agg (cs.map (J0a L))=some (J06 L v):=by
 unfold mka at h;split at h
 ·rename_i ha;subst ha;split at h
  ·rename_i x hx;injection h with h;subst h;rw[Jqu L hx,Jta];rfl
  ·split at h
   ·rename_i hr;injection h with h;subst h;simp only[J3L,Jz5 L hr,if_true];rfl
   ·cases h
 ·rename_i ha;split at h
  ·injection h with h;subst h;have:agg=false:=by simpa using ha
   subst this;rfl
  ·cases h
def tcs:TV->Option (List TC)
 | .a (.c .un)=>none
 | .a (.c x)=>some [x]
 | .a (.dt t x)=>JuK t x
 | .a (.m _ cs)=>some cs
 | .a (.fn f [] [])=>some [.fn f]
 |_=>none
theorem JpE(L:Nat->Nat){v:TV}{cs:List TC}(h:tcs v=some cs):cellsOf (J06 L v)=some (cs.map (J0a L)):=by
 cases v with
 |a x=>
  cases x with
  |c x=>
   cases x<;>cases h<;>rfl
  |dt t x=>
   simp only[J06,J1h,cellsOf];rw[Jkx L h]
  |m t cs=>
   injection h with h;subst h;rfl
  |fn f a c=>
   cases a with
   |nil=>cases c with
    |nil=>injection h with h;subst h;rfl
    |cons y c=>cases h
   |cons y a=>cases h
 |tup vs=>cases h
def tdv(t:Ty):TV->Option t.D
 | .a (.c (.d t' x))=>if h:t'=t then some (h▸x)else none
 | .a (.dt t' x)=>if h:t'=t then some (h▸x)else none
 |_=>none
def agv:TV->Bool
 | .a (.dt _ _)=>true
 |_=>false
theorem JSV(L:Nat->Nat){t:Ty}{v:TV}{x:t.D}(h:tdv t v=some x):J06 L v=if agv v=true then .data (cel t x)else .p (hdP (cel t x)):=by
 unfold tdv at h;split at h
 ·split at h
  ·rename_i e;subst e;injection h with h;subst h;rfl
  ·cases h
 ·split at h
  ·rename_i e;subst e;injection h with h;subst h;rfl
  ·cases h
 ·cases h
def Jm2:List Sp->Option Nat
 |[]=>some 0
 | .f o::r=>match Jm2 r with
   |some n=>some (o+n)
   |none=>none
 | .a _ _::_=>none
theorem Jko: ∀{p:List Sp} {n:Nat},Jm2 p=some n->spo p=n
 |[],n,h=>by injection h with h
 | .f o::r,n,h=>by
   simp only[Jm2]at h;split at h
   ·rename_i m hm;injection h with h;simp only[spo,Jko hm,h]
   ·cases h
 | .a _ _::_,_,h=>by cases h
section
variable {R:Type}
def JL0(agg:Bool)(t:Ty)(v:TV)(d:Option Nat)(s:TSt)(k:TSt->Option R):Option R:=
 if agg=true\/t.sz=1 then
  match v with
  | .a (.c (.cp t0 x p))=>prt t0 x (spf 0 p).1 (spf 0 p).2 t λy=>k (J0E d (mkv agg t y) s)
  | .a (.c (.ptr b p))=>match s.sto[b]? with
    |some (.box t0 x)=>prt t0 x (spf 0 p).1 (spf 0 p).2 t λy=>k (J0E d (mkv agg t y) s)
    |some (.mbox _ cs)=>match Jm2 p with
     |some off=>match sub cs off t.sz with
      |some l=>match mka agg t l with
       |some v=>k (J0E d v s)
       |none=>none
      |none=>none
     |none=>none
    |_=>none
  | .a (.c (.ep b i p))=>match s.sto[b]? with
    |some (.arr _ t0 rows)=>(lat rows i).bind λrow=>prt t0 row (spf 0 p).1 (spf 0 p).2 t λy=>k (J0E d (mkv agg t y) s)
    |_=>none
  |_=>none
 else none
theorem Jkr(L:Nat->Nat){agg:Bool}{t:Ty}(h:agg=true\/t.sz=1)(y:t.D):J4I agg (cel t y)=some (J06 L (mkv agg t y)):=by
 unfold mkv;split
 ·rename_i ha;subst ha;rfl
 ·rename_i ha;have:agg=false:=by simpa using ha
  subst this;have:=h.resolve_left (by simp);rw[JF6 this];rfl
theorem JH2(p:List Sp):(spf 0 p).1+spo (spf 0 p).2=spo p:=by have:=JDE 0 p;omega
theorem JPw{agg:Bool}{t:Ty}{v:TV}{d:Option Nat}{s:TSt}{k:TSt->Option R}{r:R}(h:JL0 agg t v d s k=some r):Ok (J4v agg t.sz (J06 (lns s.sto) v)) d s k r:=by
 unfold JL0 at h;split at h
 ·rename_i ha;split at h
  ·rename_i t0 x p;obtain⟨y,h1,h2⟩:=Jbf h;rw[JH2]at h1;refine⟨_,_,?_,JjK d (mkv agg t y),h2⟩;simp only[J7w,JcU,Jd4,J51,J4v,h1,Jkr (lns s.sto) ha,val];rfl
  ·rename_i b p;split at h
   ·rename_i t0 x hb;obtain⟨y,h1,h2⟩:=Jbf h;rw[JH2]at h1;refine⟨_,_,?_,JjK d (mkv agg t y),h2⟩;have hc:J3L agg ((cel t y).map .p)=J4I agg (cel t y):=by
     unfold J3L J4I;split
     ·rw[Jgs]
     ·cases hcel:cel t y with
      |nil=>rfl
      |cons a l=>cases l<;>rfl
    simp only[J7w,JcU,Jd4,J51,J4v,J1n,J1I,hb,J1t,JJ,J0r,JcX,h1,hc,Jkr (lns s.sto) ha,val];rfl
   ·rename_i cs hb;split at h
    ·rename_i off ho;split at h
     ·rename_i l hl;split at h
      ·rename_i v hv;refine⟨_,_,?_,JjK d v,h⟩;simp only[J7w,JcU,Jd4,J51,J4v,J1n,J1I,hb,J1t,JJ,J0r,JcX,Jko ho,hl,JjR (lns s.sto) hv,val];rfl
      ·cases h
     ·cases h
    ·cases h
   ·cases h
  ·rename_i b i p;split at h
   ·rename_i w t0 rows hb;obtain⟨row,hr,h⟩:=J25.1 h;have hr:rows[i]?=some row:=hr;obtain⟨y,h1,h2⟩:=Jbf h;rw[JH2]at h1;refine⟨_,_,?_,JjK d (mkv agg t y),h2⟩;simp only[J7w,JcU,Jd4,J51,J4v,J1n,J1I,hb,J1t,JJ,J0r,J5Z hb,J1P,if_true,J2c,hr,h1,Jkr (lns s.sto) ha,val];rfl
   ·cases h
  ·cases h
 ·cases h
end
end Go.Am
end
section
namespace Go.Am
section
variable {R:Type}
def fzC:(t:Ty)->List TC->TSt->(t.D->TSt->Option R)->Option R
 | .pr a c,l,s,k=>fzC a (l.take a.sz) s λx s=>fzC c (l.drop a.sz) s λy s=>k (x,y) s
 | .ar _ _,_,_,_=>none
 | .u,l,s,k=>if l.isEmpty=true then k () s else none
 | .l e,l,s,k=>match l with
   |[.d t' x]=>if h:t'=.l e then k (h▸x) s else none
   |[.slr b]=>match s.sto[b]? with
    |some (.arr _ e' rows)=>if h:e'=e then k (h▸rows) (wS b (.arr false e' rows) s)else none
    |_=>none
   |_=>none
 |t,l,s,k=>match l with
  |[.d t' x]=>if h:t'=t then k (h▸x) s else none
  |_=>none
def tfz(t:Ty)(v:TV)(s:TSt)(k:t.D->TSt->Option R):Option R:=
 match v with
 | .a (.dt t' x)=>if h:t'=t then k (h▸x) s else none
 | .a (.c x)=>fzC t [x] s k
 | .a (.m _ cs)=>fzC t cs s k
 |_=>none
def Fzd(s s':TSt)(ws:List (Nat×Blk)):Prop:=s'.env=s.env/\lns s'.sto=lns s.sto/\Ju s'=⟨(Ju s).env,upd ws (Ju s).sto⟩/\(∀(b:Nat) (t:Ty) (rows:List t.D) (w:Bool),s'.sto[b]?=some (TB.arr w t rows)-> ∃w',s.sto[b]?=some (TB.arr w' t rows))/\(∀(b:Nat) (t:Ty) (rows:List t.D),s.sto[b]?=some (TB.arr false t rows)->s'.sto[b]?=some (TB.arr false t rows))/\ ∀x∈ws,∃(t:Ty) (rows:List t.D),s'.sto[x.1]?=some (TB.arr false t rows)
theorem Fzd.refl(s:TSt):Fzd s s []:=⟨rfl,rfl,rfl,λb t rows w h=>⟨w,h⟩,λb t rows h=>h,λx h=>by cases h⟩
theorem Fzd.trans{s1 e j:TSt}{a c:List (Nat×Blk)}(h:Fzd s1 e a)(k:Fzd e j c):Fzd s1 j (a++c):=by
 obtain⟨h1,h2,h3,h4,h5,q⟩:=h;obtain⟨q1,q2,q3,o,g,n⟩:=k;refine⟨q1.trans h1,q2.trans h2,?_,λb t rows w h=>?_,λb t rows h=>g b t rows (h5 b t rows h),λx hx=>?_⟩
 ·rw[q3,h3,J1A]
 ·obtain⟨w',h⟩:=o b t rows w h;exact h4 b t rows w' h
 ·rcases J2a.1 hx with hx|hx
  ·obtain⟨t,rows,h⟩:=q x hx;exact⟨t,rows,g _ t rows h⟩
  ·exact n x hx
theorem Jz1{s:TSt}{b:Nat}{w:Bool}{t:Ty}{rows:List t.D}(hb:s.sto[b]?=some (.arr w t rows)):Fzd s (wS b (.arr false t rows) s) [(b,.arr false t.sz (rows.map (cel t)))]:=by
 have hl:lnB (.arr false t rows)=lns s.sto b:=by rw[J5Z hb];rfl
 have hs:(wS b (.arr false t rows) s).sto[b]?=some (.arr false t rows):=by unfold wS;rw[JpO (Ji hb)]
 have ho: ∀c,c≠b->(wS b (.arr false t rows) s).sto[c]?=s.sto[c]?:=λc hc=>by unfold wS;rw[JlL (λe=>hc e.symm)]
 refine⟨rfl,Jj4 hl,JlX hl,λc t' g w' h=>?_,λc t' g h=>?_,λx hx=>?_⟩
 ·by_cases hc:c=b
  ·subst hc;rw[hs]at h;injection h with h;injection h with h1 h2 h3;subst h2;have h3:=eq_of_heq h3;subst h3;exact⟨w,hb⟩
  ·rw[ho c hc]at h;exact⟨w',h⟩
 ·by_cases hc:c=b
  ·subst hc;rw[hb]at h;injection h with h;injection h with h1 h2 h3;subst h2;have h3:=eq_of_heq h3;subst h3;exact hs
  ·rw[ho c hc];exact h
 ·simp only[Jua]at hx;subst hx;exact⟨t,rows,hs⟩
theorem JQJ(x y:List AV)(st:St):(fz.fzL (x++y)).run st=((fz.fzL x).run st).bind λa=>((fz.fzL y).run st).map λc=>(a.1++c.1,a.2++c.2):=by
 induction x with
 |nil=>simp only[Jc9,fz.fzL,JH,JJ];cases(fz.fzL y).run st<;>rfl
 |cons v x ih=>
  simp only[JiJ,fz.fzL,run_bind,ih];cases(fz.fz1 v).run st with
  |none=>rfl
  |some a=>
   simp only[JJ];cases(fz.fzL x).run st with
   |none=>rfl
   |some c=>
    simp only[JJ];cases(fz.fzL y).run st with
    |none=>rfl
    |some e=>simp[JH]
theorem JqG{L:Nat->Nat}{t t':Ty}{x:t'.D}(h:t'=t)(h1:t.sz=1)(st:St):(fz.fzL ([TC.d t' x].map (J0a L))).run st=some (cel t (h▸x),[]):=by subst h;have e:=JF6 h1 x;simp only[J0I,List.map_nil,J0a,fz.fzL,fz.fz1,run_bind,JH,JJ,J59];rw[<-e]
theorem Jp7: ∀{t:Ty} {l:List TC} {s0 s:TSt} {w0:List (Nat×Blk)} {k:t.D->TSt->Option R} {r:R},Fzd s0 s w0->fzC t l s k=some r->
  ∃y s' ws,(fz.fzL (l.map (J0a (lns s0.sto)))).run (Ju s0)=some (cel t y,ws)/\Fzd s0 s' (w0++ws)/\k y s'=some r
 | .pr a c,l,s0,s,w0,k,r,g,h=>by
   simp only[fzC]at h;obtain⟨x,s1,w1,e1,o,h⟩:=Jp7 g h;obtain⟨y,q,w2,e2,v,h⟩:=Jp7 o h;refine⟨(x,y),q,w1++w2,?_,by rw[<-Jb1];exact v,h⟩;have:=JQJ ((l.take a.sz).map (J0a (lns s0.sto))) ((l.drop a.sz).map (J0a (lns s0.sto))) (Ju s0);rw[<-Jc6,Jz3,e1,e2]at this;exact this
 | .ar _ _,_,_,_,_,_,_,_,h=>by cases h
 | .u,l,s0,s,w0,k,r,g,h=>by
   simp only[fzC]at h;split at h
   ·rename_i j;refine⟨(),s,[],?_,by rw[J59];exact g,h⟩;rw[List.isEmpty_iff.1 j];rfl
   ·cases h
 | .l e,l,s0,s,w0,k,r,g,h=>by
   simp only[fzC]at h;split at h
   ·split at h
    ·rename_i j;exact⟨_,s,[],JqG j rfl _,by rw[J59];exact g,h⟩
    ·cases h
   ·rename_i b;split at h
    ·rename_i w e' rows hb;split at h
     ·rename_i j;subst j;obtain⟨w',n⟩:=g.2.2.2.1 b _ rows w hb;refine⟨rows,_,[(b,.arr false e'.sz (rows.map (cel e')))],?_,g.trans (Jz1 hb),h⟩;simp only[J0I,List.map_nil,J0a,fz.fzL,fz.fz1,run_bind,J1n,J1I,n,J1t,JJ,J0r,J5Z n,J1P,zQ6,if_true,Jpp,JH];rfl
     ·cases h
    ·cases h
   ·cases h
 | .b,l,s0,s,w0,k,r,g,h=>by
   simp only[fzC]at h;split at h
   ·split at h
    ·rename_i j;exact⟨_,s,[],JqG j rfl _,by rw[J59];exact g,h⟩
    ·cases h
   ·cases h
 | .i _,l,s0,s,w0,k,r,g,h=>by
   simp only[fzC]at h;split at h
   ·split at h
    ·rename_i j;exact⟨_,s,[],JqG j rfl _,by rw[J59];exact g,h⟩
    ·cases h
   ·cases h
 | .s,l,s0,s,w0,k,r,g,h=>by
   simp only[fzC]at h;split at h
   ·split at h
    ·rename_i j;exact⟨_,s,[],JqG j rfl _,by rw[J59];exact g,h⟩
    ·cases h
   ·cases h
 | .f,l,s0,s,w0,k,r,g,h=>by
   simp only[fzC]at h;split at h
   ·split at h
    ·rename_i j;exact⟨_,s,[],JqG j rfl _,by rw[J59];exact g,h⟩
    ·cases h
   ·cases h
theorem JU3(x:AV)(hx:(∀cs,x≠.data cs)/\ ∀cs,x≠.agg cs)(st:St){y:List PV}{ws:List (Nat×Blk)}(h:(fz.fzL [x]).run st=some (y,ws)):(fz x).run st=some (y,ws):=by
 simp only[fz.fzL,run_bind,JH]at h;cases x with
 |p c=>simpa[fz,fz.fz1,JH]using h
 |slr b i n=>
  simp only[fz,fz.fz1]at h⊢;obtain⟨a,h1,h⟩:=J25.1 h;simp at h;rw[h1];simp[<-h]
 |data cs=>exact absurd rfl (hx.1 cs)
 |agg cs=>exact absurd rfl (hx.2 cs)
 |_=>simp[fz.fz1,JPA]at h
theorem JNs{t:Ty}{v:TV}{s0 s:TSt}{w0:List (Nat×Blk)}{k:t.D->TSt->Option R}{r:R}(e:Fzd s0 s w0)(h:tfz t v s k=some r):
  ∃y s' ws,(fz (J06 (lns s0.sto) v)).run (Ju s0)=some (cel t y,ws)/\Fzd s0 s' (w0++ws)/\k y s'=some r:=by
 unfold tfz at h;split at h
 ·split at h
  ·rename_i g;subst g;exact⟨_,s,[],rfl,by rw[J59];exact e,h⟩
  ·cases h
 ·rename_i x;obtain⟨y,s',ws,h1,h2,h3⟩:=Jp7 e h;refine⟨y,s',ws,JU3 _ ⟨λcs=>?_,λcs=>?_⟩ _ h1,h2,h3⟩<;>cases x<;>simp[J0a,J06,J1h]
 ·obtain⟨y,s',ws,h1,h2,h3⟩:=Jp7 e h;exact⟨y,s',ws,h1,h2,h3⟩
 ·cases h
end
end Go.Am
end
section
namespace Go.Am
section
variable {R:Type}
theorem Jq3(L:Nat->Nat){t:Ty}{v:TV}{x:t.D}(h:tdv t v=some x)(ha:agv v=true\/t.sz=1):cellsOf (J06 L v)=some ((cel t x).map .p):=by
 rw[JSV L h];split
 ·rfl
 ·rename_i hn;rw[JF6 (ha.resolve_left hn)];rfl
def JFN(t:Ty)(x u:TV)(d:Option Nat)(s:TSt)(k:TSt->Option R):Option R:=
 match x with
 | .a (.c (.ptr b p))=>match s.sto[b]? with
   |some (.box t0 y)=>match tdv t u with
    |some z=>if agv u=true\/t.sz=1 then pst t0 y (spf 0 p).1 (spf 0 p).2 t z λg=>k (J0E d uv (wS b (.box t0 g) s))else none
    |none=>match Jm2 p,JuK t0 y,tcs u with
     |some off,some cs,some l=>if l.length=t.sz then
       match spl cs off l with
       |some cs'=>k (J0E d uv (wS b (mkb t0 cs') s))
       |none=>none
      else none
     |some off,none,some l=>if off=0/\l.length=t0.sz/\l.length=t.sz then k (J0E d uv (wS b (mkb t0 l) s))else none
     |_,_,_=>none
   |some (.mbox t0 cs)=>match Jm2 p,tcs u with
    |some off,some l=>if l.length=t.sz then
      match spl cs off l with
      |some cs'=>k (J0E d uv (wS b (mkb t0 cs') s))
      |none=>none
     else none
    |_,_=>none
   |_=>none
 | .a (.c (.ep b i p))=>tfz t u s λz s1=>match s1.sto[b]? with
   |some (.arr true t0 rows)=>(lat rows i).bind λrow=>pst t0 row (spf 0 p).1 (spf 0 p).2 t z λe=>k (J0E d uv (wS b (.arr true t0 (J0w rows i e)) s1))
   |_=>none
 |_=>none
theorem JSW(L:Nat->Nat):J06 L uv=J2d:=rfl
theorem Jsb{s:TSt}{b:Nat}{t:Ty}{x:t.D}(h:s.sto[b]?=some (.box t x)):lns s.sto b=0:=by unfold lns;rw[h];rfl
theorem JFh{s:TSt}{b:Nat}{t:Ty}{cs:List TC}(h:s.sto[b]?=some (.mbox t cs)):lns s.sto b=0:=by unfold lns;rw[h];rfl
theorem JaX{s:TSt}{b:Nat}(h:s.sto[b]?=some .dead):lns s.sto b=0:=by unfold lns;rw[h];rfl
theorem JwK{m:RM Eff}{d:Option Nat}{s:TSt}{k:TSt->Option R}{r:R}{b:Nat}{x:TB}{v:TV}(hl:lnB x=lns s.sto b)(hm:m.run (Ju s)=some ⟨J06 (lns s.sto) v,[(b,J0r (lns s.sto) x)]⟩)
  (h:k (J0E d v (wS b x s))=some r):Ok m d s k r:=by
 refine⟨_,_,hm,?_,h⟩;have e:=Jj4 hl;rw[<-e];refine Ja3 ?_ d v;rw[JlX hl,e];rfl
theorem JMj{m:RM Eff}{d:Option Nat}{s:TSt}{k:TSt->Option R}{r:R}{b:Nat}{x:TB}{v:TV}(hm:m.run (Ju s)=some ⟨J06 (lns (wN b x s).sto) v,[(b,J0r (lns (wN b x s).sto) x)]⟩)
  (h:k (J0E d v (wN b x s))=some r):Ok m d s k r:=
 ⟨_,_,hm,Ja3 (JPV b x s) d v,h⟩
theorem J21{m:RM Eff}{d:Option Nat}{s:TSt}{k:TSt->Option R}{r:R}{v:TV}(hm:m.run (Ju s)=some ⟨J06 (lns s.sto) v,[]⟩)(h:k (J0E d v s)=some r):Ok m d s k r:=
 ⟨_,_,hm,JjK d v,h⟩
theorem JGS{m:RM Eff}{d:Option Nat}{s s':TSt}{ws:List (Nat×Blk)}{k:TSt->Option R}{r:R}{v:TV}(f:Fzd s s' ws)(hm:m.run (Ju s)=some ⟨J06 (lns s.sto) v,ws⟩)(h:k (J0E d v s')=some r):Ok m d s k r:=by refine⟨_,_,hm,?_,h⟩;rw[<-f.2.1];exact Ja3 f.2.2.1 d v
theorem JMM{t:Ty}{x u:TV}{d:Option Nat}{s:TSt}{k:TSt->Option R}{r:R}(h:JFN t x u d s k=some r):Ok (J43 t.sz (J06 (lns s.sto) x) (J06 (lns s.sto) u)) d s k r:=by
 unfold JFN at h;split at h
 ·rename_i b p;split at h
  ·rename_i t0 y hb;split at h
   ·rename_i z hz;split at h
    ·rename_i ha;obtain⟨q,h1,h2⟩:=Jdc h;rw[JH2]at h1;refine JwK (x:=.box t0 q) (v:=uv) (Jsb hb).symm ?_ h2;simp only[J7w,JcU,Jd4,J51,J43,J1n,J1I,hb,J1t,JJ,J0r,Jq3 (lns s.sto) hz ha,J1P,J1J,if_true,Jd3,h1,JH];rfl
    ·cases h
   ·split at h
    ·rename_i off cs l ho hc hl;split at h
     ·rename_i hn;split at h
      ·rename_i cs' hs;refine JwK (x:=mkb t0 cs') (v:=uv) ((JrX _ _).trans (Jsb hb).symm) ?_ h;rw[JrK];simp only[J7w,JcU,Jd4,J51,J43,J1n,J1I,hb,J1t,JJ,J0r,JpE (lns s.sto) hl,J1P,hn,if_true,Jko ho,<-Jkx (lns s.sto) hc,Jd3,hs,JH];rfl
      ·cases h
     ·cases h
    ·rename_i off l ho _ hl;split at h
     ·rename_i o;obtain⟨rfl,h1,h2⟩:=o;refine JwK (x:=mkb t0 l) (v:=uv) ((JrX _ _).trans (Jsb hb).symm) ?_ h;rw[JrK];have he:spl ((cel t0 y).map AV.p) 0 (l.map (J0a (lns s.sto)))=some (l.map (J0a (lns s.sto))):=JJO (by rw[J1P,J1P,J1J,h1]);simp only[J7w,JcU,Jd4,J51,J43,J1n,J1I,hb,J1t,JJ,J0r,JpE (lns s.sto) hl,J1P,h2,if_true,Jko ho,he,JH];rfl
     ·cases h
    ·cases h
  ·rename_i t0 cs hb;split at h
   ·rename_i off l ho hl;split at h
    ·rename_i hn;split at h
     ·rename_i cs' hs;refine JwK (x:=mkb t0 cs') (v:=uv) ((JrX _ _).trans (JFh hb).symm) ?_ h;rw[JrK];simp only[J7w,JcU,Jd4,J51,J43,J1n,J1I,hb,J1t,JJ,J0r,JpE (lns s.sto) hl,J1P,hn,if_true,Jko ho,Jd3,hs,JH];rfl
     ·cases h
    ·cases h
   ·cases h
  ·cases h
 ·rename_i b i p;obtain⟨z,s1,ws,h1,f,h⟩:=JNs (Fzd.refl s) h;rw[Jc9]at f;split at h
  ·rename_i t0 rows hb;obtain⟨row,hr,h⟩:=J25.1 h;have hr:rows[i]?=some row:=hr;obtain⟨g,q1,q2⟩:=Jdc h;rw[JH2]at q1;obtain⟨w',j⟩:=f.2.2.2.1 b _ rows true hb;have hw:w'=true:=by
    cases w' with
    |true=>rfl
    |false=>
     have:=f.2.2.2.2.1 b _ rows j;rw[hb]at this;injection this with this;injection this with this;cases this
   subst hw;have n:(ws.all λy=>y.1 !=b)=true:=by rw[Juz];intro y hy;obtain⟨t',rows',hf⟩:=f.2.2.2.2.2 y hy;rw[bne_iff_ne];intro e;rw[e,hb]at hf;injection hf with hf;injection hf with hf;cases hf
   have hl:lnB (.arr true t0 (J0w rows i g))=lns s1.sto b:=by rw[J5Z hb];simp[lnB,J0w]
   refine⟨⟨J2d,ws++[(b,.arr true t0.sz ((J0w rows i g).map (cel t0)))]⟩,_,?_,?_,q2⟩
   ·simp only[J7w,JcU,Jd4,J51,J43,J1n,J1I,j,J1t,JJ,J0r,J5Z j,J1P,if_true,J2c,hr,run_bind,h1,J1J,n,and_self,q1,JH,List.map_set,J0w]
   ·rw[<-JSW (lns (wS b (.arr true t0 (J0w rows i g)) s1).sto)];refine Ja3 ?_ d uv;rw[JlX hl,f.2.2.1,J1A];rfl
  ·cases h
 ·cases h
def tpv:List (Nat×Ty×TO)->TSt->Option (List (Nat×(w:Ty)×w.D))
 |[],_=>some []
 |(off,w,o)::r,s=>match tev o s with
  |some v=>match tdv w v with
   |some z=>if agv v=true\/w.sz=1 then
     match tpv r s with
     |some l=>some ((off,⟨w,z⟩)::l)
     |none=>none
    else none
   |none=>none
  |none=>none
def JDw(t:Ty):t.D->List (Nat×(w:Ty)×w.D)->(t.D->Option R)->Option R
 |x,[],k=>k x
 |x,(off,⟨w,z⟩)::r,k=>pst t x off [] w z λe=>JDw t e r k
def tpc:List (Nat×Ty×TO)->TSt->Option (List (Nat×Nat×List TC))
 |[],_=>some []
 |(off,w,o)::r,s=>match tev o s with
  |some v=>match tcs v with
   |some l=>match tpc r s with
    |some q=>some ((off,w.sz,l)::q)
    |none=>none
   |none=>none
  |none=>none
def Jxh:List (Nat×Nat×List TC)->List TC->Option (List TC)
 |[],cs=>some cs
 |(off,n,c)::r,cs=>if c.length=n then
   match spl cs off c with
   |some cs'=>Jxh r cs'
   |none=>none
  else none
def erP(parts:List (Nat×Ty×TO)):List (Nat×Nat×Opd):=parts.map λx=>(x.1,x.2.1.sz,erO x.2.2)
theorem JG1{s:TSt}: ∀{parts:List (Nat×Ty×TO)} {l:List (Nat×Nat×List TC)},tpc parts s=some l->
  (J5E (erP parts)).run (Ju s)=some (l.map λx=>(x.1,x.2.1,x.2.2.map (J0a (lns s.sto))))
 |[],l,h=>by injection h with h;subst h;rfl
 |(off,w,o)::r,l,h=>by
  simp only[tpc]at h;split at h
  ·rename_i v hv;split at h
   ·rename_i c hc;split at h
    ·rename_i q hq;injection h with h;subst h;have ih:=JG1 hq;simp only[erP,J0I,J5E,run_bind,J0c hv,JJ,JpE (lns s.sto) hc];rw[show(r.map λx=>(x.1,x.2.1.sz,erO x.2.2))=erP r from rfl,ih];rfl
    ·cases h
   ·cases h
  ·cases h
theorem JND{s:TSt}: ∀{parts:List (Nat×Ty×TO)} {l:List (Nat×(w:Ty)×w.D)},tpv parts s=some l->
  (J5E (erP parts)).run (Ju s)=some (l.map λx=>(x.1,x.2.1.sz,(cel x.2.1 x.2.2).map .p))
 |[],l,h=>by injection h with h;subst h;rfl
 |(off,w,o)::r,l,h=>by
  simp only[tpv]at h;split at h
  ·rename_i v hv;split at h
   ·rename_i z hz;split at h
    ·rename_i ha;split at h
     ·rename_i q hq;injection h with h;subst h;have ih:=JND hq;simp only[erP,J0I,J5E,run_bind,J0c hv,JJ,Jq3 (lns s.sto) hz ha];rw[show(r.map λx=>(x.1,x.2.1.sz,erO x.2.2))=erP r from rfl,ih];rfl
     ·cases h
    ·cases h
   ·cases h
  ·cases h
theorem JDQ{t:Ty}: ∀{l:List (Nat×(w:Ty)×w.D)} {x:t.D} {k:t.D->Option R} {r:R},JDw t x l k=some r->
  ∃y,J75 (l.map λx=>(x.1,x.2.1.sz,(cel x.2.1 x.2.2).map .p)) ((cel t x).map .p)=some ((cel t y).map .p)/\k y=some r
 |[],x,k,r,h=>⟨x,rfl,h⟩
 |(off,⟨w,z⟩)::q,x,k,r,h=>by
  simp only[JDw]at h;obtain⟨e,h1,h2⟩:=Jdc h;obtain⟨y,h3,h4⟩:=JDQ h2;refine⟨y,?_,h4⟩;simp only[J0I,J75,J1P,J1J,if_true];rw[Jd3,show off=off+spo []from rfl,h1];exact h3
theorem JtY(L:Nat->Nat): ∀{l:List (Nat×Nat×List TC)} {cs cs':List TC},Jxh l cs=some cs'->
  J75 (l.map λx=>(x.1,x.2.1,x.2.2.map (J0a L))) (cs.map (J0a L))=some (cs'.map (J0a L))
 |[],cs,cs',h=>by injection h with h;subst h;rfl
 |(off,n,c)::q,cs,cs',h=>by
  simp only[Jxh]at h;split at h
  ·rename_i hn;split at h
   ·rename_i e hs;simp only[J0I,J75,J1P,hn,if_true,Jd3,hs,J1t];exact JtY L h
   ·cases h
  ·cases h
def JFG(t:Ty)(parts:List (Nat×Ty×TO))(d:Option Nat)(s:TSt)(k:TSt->Option R):Option R:=
 match tpv parts s with
 |some l=>JDw t t.zero l λy=>k (J0E d (.a (.dt t y)) s)
 |none=>match tpc parts s with
  |some l=>match Jxh l (zcs t)with
   |some cs'=>match mka true t cs' with
    |some v=>k (J0E d v s)
    |none=>none
   |none=>none
  |none=>none
theorem JNl(F:Orc)(new:Nat){t:Ty}{parts:List (Nat×Ty×TO)}{d:Option Nat}{s:TSt}{k:TSt->Option R}{r:R}(h:JFG t parts d s k=some r):Ok (opR F (.build (cel t t.zero) (erP parts)) new) d s k r:=by
 unfold JFG at h;split at h
 ·rename_i l hl;obtain⟨y,h1,h2⟩:=JDQ h;refine J21 (v:=.a (.dt t y)) ?_ h2;simp only[opR,run_bind,JND hl,JJ,h1,Jta,val,JH];rfl
 ·split at h
  ·rename_i l hl;split at h
   ·rename_i cs' hf;split at h
    ·rename_i v hv;refine J21 (v:=v) ?_ h;simp only[opR,run_bind,JG1 hl,JJ,<-Jjc (lns s.sto) t,JtY (lns s.sto) hf,JjR (lns s.sto) hv,val,JH]
    ·cases h
   ·cases h
  ·cases h
def JFC(agg:Bool)(off:Nat)(t:Ty)(v:TV)(d:Option Nat)(s:TSt)(k:TSt->Option R):Option R:=
 if agg=true\/t.sz=1 then
  match v with
  | .a (.dt t0 x)=>prt t0 x off [] t λy=>k (J0E d (mkv agg t y) s)
  | .a (.m _ cs)=>match sub cs off t.sz with
    |some l=>match mka agg t l with
     |some v=>k (J0E d v s)
     |none=>none
    |none=>none
  |_=>none
 else none
theorem JN1{agg:Bool}{off:Nat}{t:Ty}{v:TV}{d:Option Nat}{s:TSt}{k:TSt->Option R}{r:R}(h:JFC agg off t v d s k=some r):Ok (val (Jak agg off t.sz (J06 (lns s.sto) v))) d s k r:=by
 unfold JFC at h;split at h
 ·rename_i ha;split at h
  ·rename_i t0 x;obtain⟨y,h1,h2⟩:=Jbf h;refine J21 (v:=mkv agg t y) ?_ h2;simp only[spo,JaY]at h1;simp only[JLQ,e_m,Jak,h1,Jkr (lns s.sto) ha,val,JH]
  ·rename_i cs;split at h
   ·rename_i l hl;split at h
    ·rename_i v hv;refine J21 (v:=v) ?_ h;simp only[JLQ,e_m,Jak,JcX,hl,J1t,JjR (lns s.sto) hv,val,JH]
    ·cases h
   ·cases h
  ·cases h
 ·cases h
end
end Go.Am
end
section
namespace Go.Am
section
variable {R:Type}
theorem Jyh{α:Type} [BEq α] [LawfulBEq α] [DecidableEq α](x y:α):(x==y)=decide (x=y):=by by_cases h:x=y<;>simp[h]
def Vl(m:Option AV)(s:TSt)(kk:TV->Option R)(r:R):Prop:= ∃v,m=some (J06 (lns s.sto) v)/\kk v=some r
theorem Vl.ok{m:Option AV}{d:Option Nat}{s:TSt}{k:TSt->Option R}{r:R}(h:Vl m s (λv=>k (J0E d v s)) r):Ok (val m) d s k r:=by obtain⟨v,h1,h2⟩:=h;refine J21 (v:=v) ?_ h2;rw[h1];rfl
def JPe(op:BinOp)(k:IntKind)(a c:Int)(kk:TV->Option R):Option R:=
 match op with
 | .add=>kk (vi k (J2 k a c))
 | .sub=>kk (vi k (JI k a c))
 | .mul=>kk (vi k (J20 k a c))
 | .quo=>(JRv k a c).bind λq=>kk (vi k q)
 | .rem=>(Jqg a c).bind λq=>kk (vi k q)
 | .and=>kk (vi k (JiA k a c))
 | .or=>kk (vi k (orI k a c))
 | .xor=>kk (vi k (J4f k a c))
 | .eql=>kk (vb (eqI a c))
 | .neq=>kk (vb (neI a c))
 | .lss=>kk (vb (ltI a c))
 | .leq=>kk (vb (leI a c))
 | .gtr=>kk (vb (gtI a c))
 | .geq=>kk (vb (geI a c))
 |_=>none
def JO6(op:BinOp)(a c:List UInt8)(kk:TV->Option R):Option R:=
 match op with
 | .add=>(J3Y a c).bind λq=>kk (vs q)
 | .eql=>kk (vb (eqS a c))
 | .neq=>kk (vb (neS a c))
 | .lss=>kk (vb (ltS a c))
 | .leq=>kk (vb (leS a c))
 | .gtr=>kk (vb (gtS a c))
 | .geq=>kk (vb (geS a c))
 |_=>none
inductive TBT where
 |plain
 |bool
 |flat (t:Ty)
 |nilp
 |nilf
def erT:TBT->BT
 | .plain=>.plain
 | .bool=>.bool
 | .flat t=>.flat (t.ks.getD [])
 | .nilp=>.nilp
 | .nilf=>.nilf
def Je3(op:BinOp)(x:Bool)(kk:TV->Option R):Option R:=
 match op with
 | .eql=>kk (vb x)
 | .neq=>kk (vb (Jr x))
 |_=>none
def JOy(op:BinOp)(bt:TBT)(x y:TV)(kk:TV->Option R):Option R:=
 match bt with
 | .plain=>match x,y with
   | .a (.c (.d (.i k) a)),.a (.c (.d (.i j) c))=>match op with
     | .shl=>(Jru k a c).bind λq=>kk (vi k q)
     | .shr=>(JbG k a c).bind λq=>kk (vi k q)
     |_=>if k=j then JPe op k a c kk else none
   | .a (.c (.d .s a)),.a (.c (.d .s c))=>JO6 op a c kk
   |_,_=>none
 | .bool=>match x,y with
   | .a (.c (.d .b a)),.a (.c (.d .b c))=>Je3 op (eqB a c) kk
   |_,_=>none
 | .flat t=>match x,y with
   | .a (.dt g a),.a (.dt e c)=>if h:g=t/\e=t/\t.ks.isSome=true then Je3 op (eqT t (h.1▸a) (h.2.1▸c)) kk else none
   |_,_=>none
 | .nilp=>match x with
   | .a (.c .np)=>Je3 op true kk
   | .a (.c (.ptr _ _))=>Je3 op false kk
   | .a (.c (.cp _ _ _))=>Je3 op false kk
   | .a (.c (.ep _ _ _))=>Je3 op false kk
   |_=>none
 | .nilf=>match x with
   | .a (.c .nf)=>Je3 op true kk
   | .a (.fn _ _ _)=>Je3 op false kk
   | .a (.c (.fn _))=>Je3 op false kk
   | .a (.c (.d .f _))=>Je3 op true kk
   |_=>none
theorem Js9{op:BinOp}{x:Bool}{s:TSt}{kk:TV->Option R}{r:R}(h:Je3 op x kk=some r):Vl (J9L op (some x)) s kk r:=by
 unfold Je3 at h;split at h
 ·exact⟨_,rfl,h⟩
 ·exact⟨_,rfl,h⟩
 ·cases h
theorem JQ5{op:BinOp}{k:IntKind}{a c:Int}{s:TSt}{kk:TV->Option R}{r:R}(h:JPe op k a c kk=some r):Vl ((Jvd op k a c).map .p) s kk r:=by
 unfold JPe at h;split at h<;>first
  |exact⟨_,rfl,h⟩
  |(obtain⟨q,h1,h⟩:=J25.1 h
    refine⟨_,?_,h⟩
    first|unfold JRv at h1|unfold Jqg at h1
    split at h1
    ·cases h1
    ·rename_i e;injection h1 with h1;simp only[Jvd,if_neg e,h1,J1t,e_i])
  |(refine⟨_,?_,h⟩;simp only[Jvd,Jyh,J1t,e_b,bne,eqI,neI,ltI,leI,gtI,geI];done)
  |cases h
theorem JRf{op:BinOp}{a c:List UInt8}{s:TSt}{kk:TV->Option R}{r:R}(h:JO6 op a c kk=some r):Vl ((Jv1 op a c).map .p) s kk r:=by
 unfold JO6 at h;split at h<;>first
  |(obtain⟨q,h1,h⟩:=J25.1 h
    refine⟨_,?_,h⟩;unfold J3Y at h1;split at h1
    ·rename_i e;injection h1 with h1;simp only[Jv1,if_pos e,h1,J1t,e_s]
    ·cases h1)
  |(refine⟨_,?_,h⟩;simp only[Jv1,Jyh,J1t,e_b,eqS,neS,ltS,leS,gtS,geS];done)
  |cases h
theorem JQN{op:BinOp}{bt:TBT}{x y:TV}{s:TSt}{kk:TV->Option R}{r:R}(h:JOy op bt x y kk=some r):Vl (Je9 op (erT bt) (J06 (lns s.sto) x) (J06 (lns s.sto) y)) s kk r:=by
 unfold JOy at h;split at h
 ·split at h
  ·rename_i k a n c;simp only[e_i,erT,Je9];split at h
   ·obtain⟨q,h1,h⟩:=J25.1 h;unfold Jru at h1;split at h1
    ·cases h1
    ·rename_i e;injection h1 with h1;exact⟨_,by simp only[Jfw,if_neg e,h1,J1t,e_i],h⟩
   ·obtain⟨q,h1,h⟩:=J25.1 h;unfold JbG at h1;split at h1
    ·cases h1
    ·rename_i e;injection h1 with h1;exact⟨_,by simp only[Jfw,if_neg e,h1,J1t,e_i],h⟩
   ·split at h
    ·rename_i hk;subst hk;simp only[if_true];cases op<;>first|exact JQ5 h|cases h
    ·cases h
  ·exact JRf h
  ·cases h
 ·split at h
  ·rename_i a c;simp only[e_b,erT,Je9,Jyh];exact Js9 h
  ·cases h
 ·split at h
  ·rename_i t o a j c;split at h
   ·rename_i e;obtain⟨rfl,rfl,h1⟩:=e;obtain⟨ks,g⟩:=JLw.1 h1;simp only[JLQ,erT,Je9,g,JxH,Jsf _ a c g];exact Js9 h
   ·cases h
  ·cases h
 ·split at h<;>first|exact Js9 h|cases h
 ·split at h<;>first|exact Js9 h|cases h
def tUn(op:UnOp)(x:TV)(kk:TV->Option R):Option R:=
 match op,x with
 | .neg,.a (.c (.d (.i k) n))=>kk (vi k (JU6 k n))
 | .xor,.a (.c (.d (.i k) n))=>kk (vi k (JKw k n))
 | .not,.a (.c (.d .b x))=>kk (vb (Jr x))
 |_,_=>none
theorem JSI{op:UnOp}{x:TV}{s:TSt}{kk:TV->Option R}{r:R}(h:tUn op x kk=some r):Vl (unP op (J06 (lns s.sto) x)) s kk r:=by unfold tUn at h;split at h<;>first|exact⟨_,rfl,h⟩|cases h
def tMm(mx:Bool)(x y:TV)(kk:TV->Option R):Option R:=
 match x,y with
 | .a (.c (.d (.i k) a)),.a (.c (.d (.i _) c))=>kk (vi k (if mx=true then J4a a c else JbE a c))
 |_,_=>none
theorem JT0{mx:Bool}{x y:TV}{s:TSt}{kk:TV->Option R}{r:R}(h:tMm mx x y kk=some r):Vl (mmP mx (J06 (lns s.sto) x) (J06 (lns s.sto) y)) s kk r:=by
 unfold tMm at h;split at h
 ·exact⟨_,by cases mx<;>rfl,h⟩
 ·cases h
def tls(t:Ty)(v:TV)(s:TSt):Option (List t.D):=
 match v with
 | .a (.c (.d (.l t') l))=>if h:t'=t then some (h▸l)else none
 | .a (.c (.d .s l))=>if h:t=.i .u8 then some (h▸(toByt l:List (Ty.i .u8).D))else none
 | .a (.c (.slr b))=>match s.sto[b]? with
   |some (.arr _ t' rows)=>if h:t'=t then some (h▸rows)else none
   |_=>none
 |_=>none
theorem JvE{t:Ty}{v:TV}{s:TSt}{l:List t.D}(h:tls t v s=some l):(J2B t.sz (J06 (lns s.sto) v)).run (Ju s)=some (l.map (cel t)):=by
 unfold tls at h;split at h
 ·split at h
  ·rename_i e;subst e;injection h with h;subst h
   simp only[e_l,J2B,if_true,JH]
  ·cases h
 ·split at h
  ·rename_i e;subst e;injection h with h;subst h
   simp only[e_s,J2B,Ty.sz,if_true,JH,Jvc];rfl
  ·cases h
 ·rename_i b;split at h
  ·rename_i w t' rows hb;split at h
   ·rename_i e;subst e;injection h with h;subst h
    simp only[J51,J2B,J1n,J1I,hb,J1t,JJ,J0r,J5Z hb,J1P,zQ6,and_self,if_true,JH,Jpp]
   ·cases h
  ·cases h
 ·cases h
def JLE(k:CK)(x:TV)(d:Option Nat)(new:Nat)(s:TSt)(kk:TSt->Option R):Option R:=
 match k with
 | .int k=>match x with
   | .a (.c (.d (.i _) n))=>kk (J0E d (vi k (cvI k n)) s)
   |_=>none
 | .same=>match x with
   | .a (.c (.d .s l))=>kk (J0E d (vs l) s)
   |_=>none
 | .toStr=>match tls (.i .u8) x s with
   |some l=>kk (J0E d (vs (toStr l)) s)
   |none=>none
 | .toBytes own=>match x with
   | .a (.c (.d .s l))=>if own=true then kk (J0E d (.a (.c (.slr new))) (wN new (.arr true (.i .u8) (toByt l)) s))else kk (J0E d (vl (.i .u8) (toByt l)) s)
   |_=>none
theorem JOH(F:Orc){k:CK}{x:TO}{v:TV}{d:Option Nat}{new:Nat}{s:TSt}{kk:TSt->Option R}{r:R}(hx:tev x s=some v)(hn:k=.toBytes true->new<s.sto.length)(h:JLE k v d new s kk=some r):Ok (opR F (.conv k (erO x)) new) d s kk r:=by
 unfold JLE at h;split at h
 ·split at h
  ·refine J21 (v:=vi _ _) ?_ h;simp only[opR,run_bind,J0c hx,JJ,e_i,JH,cvI]
  ·cases h
 ·split at h
  ·refine J21 (v:=vs _) ?_ h;simp only[opR,run_bind,J0c hx,JJ,e_s,JH]
  ·cases h
 ·split at h
  ·rename_i l hl;refine J21 (v:=vs _) ?_ h;have:=JvE hl;have e:l.map (cel (.i .u8))=l.map (r_i .u8):=rfl;rw[e]at this;simp only[opR,run_bind,J0c hx,JJ,this,JlF,e_s,JH,Ty.sz];rw[show(J2B 1 (J06 (lns s.sto) v)).run (Ju s)=some (l.map (r_i .u8))from this];simp only[JJ,JlF,JH]
  ·cases h
 ·rename_i own;split at h
  ·rename_i l;split at h
   ·rename_i ho;subst ho;refine JMj (x:=.arr true (.i .u8) (toByt l)) (v:=.a (.c (.slr new))) ?_ h;simp only[opR,run_bind,J0c hx,JJ,e_s,if_true,JH,J51,J0r,Jvc];have e:lns (wN new (TB.arr true (Ty.i IntKind.u8) (toByt l)) s).sto new=l.length:=by unfold wN;rw[JGN (by simpa using hn rfl)];simp[lnB,toByt]
    rw[e];rfl
   ·rename_i ho;have:own=false:=by simpa using ho
    subst this;refine J21 (v:=vl _ _) ?_ h;simp only[opR,run_bind,J0c hx,JJ,e_s,J5V,if_false,JH,e_l,Jvc];rfl
  ·cases h
end
end Go.Am
end
section
namespace Go.Am
section
variable {R:Type}
theorem JJW(p q:List Sp):spo (p++q)=spo p+spo q:=by
 induction p with
 |nil=>simp[spo]
 |cons x p ih=>cases x<;>simp only[JiJ,spo,ih]<;>omega
def JF3(off:Nat)(x:TV)(kk:TV->Option R):Option R:=
 match x with
 | .a (.c (.ptr b p))=>kk (.a (.c (.ptr b (p++[.f off]))))
 | .a (.c (.cp t x p))=>kk (.a (.c (.cp t x (p++[.f off]))))
 | .a (.c (.ep b i p))=>kk (.a (.c (.ep b i (p++[.f off]))))
 |_=>none
theorem JNd{off:Nat}{x:TV}{s:TSt}{kk:TV->Option R}{r:R}(h:JF3 off x kk=some r):Vl (Jrj off (J06 (lns s.sto) x)) s kk r:=by
 unfold JF3 at h;split at h<;>first
  |(refine⟨_,?_,h⟩;simp only[J7w,JcU,Jd4,Jrj,JJW,spo,JaY];done)
  |cases h
def JES(len esz:Nat)(x i:TV)(kk:TV->Option R):Option R:=
 match i with
 | .a (.c (.d (.i _) n))=>(inb len n).bind λ_=>match x with
   | .a (.c (.ptr b p))=>kk (.a (.c (.ptr b (p++[.a n.toNat esz]))))
   | .a (.c (.cp t x p))=>kk (.a (.c (.cp t x (p++[.a n.toNat esz]))))
   | .a (.c (.ep b i p))=>kk (.a (.c (.ep b i (p++[.a n.toNat esz]))))
   |_=>none
 |_=>none
theorem JNo{len esz:Nat}{x i:TV}{s:TSt}{kk:TV->Option R}{r:R}(h:JES len esz x i kk=some r):Vl (Jrv len esz (J06 (lns s.sto) x) (J06 (lns s.sto) i)) s kk r:=by
 unfold JES at h;split at h
 ·obtain⟨_,h1,h⟩:=J25.1 h;have e:=JKi h1;split at h<;>first
   |(refine⟨_,?_,h⟩;simp only[J7w,JcU,Jd4,e_i,Jrv,if_pos e,JJW,spo,JaY];done)
   |cases h
 ·cases h
def JFJ(t:Ty)(x i:TV)(s:TSt)(kk:TV->Option R):Option R:=
 match i with
 | .a (.c (.d (.i _) n))=>match x with
   | .a (.c (.d (.l t') l))=>if t'=t then(idx l n).bind λy=>kk (.a (.c (.cp t' y [])))else none
   | .a (.c (.slr b))=>match s.sto[b]? with
     |some (.arr _ t' rows)=>if t'=t then(inb rows.length n).bind λ_=>kk (.a (.c (.ep b n.toNat [])))else none
     |_=>none
   |_=>none
 |_=>none
theorem JMZ{t:Ty}{x i:TV}{d:Option Nat}{s:TSt}{k:TSt->Option R}{r:R}(h:JFJ t x i s (λv=>k (J0E d v s))=some r):Ok (J7a t.sz (J06 (lns s.sto) x) (J06 (lns s.sto) i)) d s k r:=by
 unfold JFJ at h;split at h
 ·split at h
  ·split at h
   ·rename_i e;subst e;obtain⟨y,h1,h⟩:=J25.1 h;refine J21 (v:=.a (.c (.cp _ y []))) ?_ h;simp only[e_l,e_i,JcU,J7a,if_true,JMV h1,JH,spo]
   ·cases h
  ·rename_i b;split at h
   ·rename_i w t' rows hb;split at h
    ·rename_i e;subst e;obtain⟨_,h1,h⟩:=J25.1 h;have e:=JKi h1;refine J21 (v:=.a (.c (.ep b _ []))) ?_ h;simp only[J51,e_i,Jd4,J7a,J1n,J1I,hb,J1t,JJ,J0r,J5Z hb,J1P,zQ6,true_and];rw[if_pos e];rfl
    ·cases h
   ·cases h
  ·cases h
 ·cases h
def JKF(x i:TV)(kk:TV->Option R):Option R:=
 match x,i with
 | .a (.c (.d .s l)),.a (.c (.d (.i _) n))=>(Jgk l n).bind λu=>kk (vi .u8 u)
 |_,_=>none
theorem JPP(F:Orc){x i:TO}{g e:TV}{d:Option Nat}{new:Nat}{s:TSt}{k:TSt->Option R}{r:R}(hx:tev x s=some g)(hi:tev i s=some e)(h:JKF g e (λv=>k (J0E d v s))=some r):Ok (opR F (.sidx (erO x) (erO i)) new) d s k r:=by
 unfold JKF at h;split at h
 ·rename_i l o n;obtain⟨u,h1,h⟩:=J25.1 h;refine J21 (v:=vi .u8 u) ?_ h;simp only[opR,run_bind,J0c hx,J0c hi,JJ,e_s,e_i];unfold Jgk at h1;split at h1
  ·rename_i j;rw[if_pos j];split at h1
   ·rename_i q hq;injection h1 with h1;rw[hq,<-h1];rfl
   ·cases h1
  ·cases h1
 ·cases h
def JM5(j:Int)(k:Nat->Option R):Nat->Option R
 |0=>none
 |m+1=>if eqI j m=true then k m else JM5 j k m
theorem JK9{j:Int}{k:Nat->Option R}{r:R}: ∀{n:Nat},JM5 j k n=some r-> ∃m,m<n/\j=m/\k m=some r
 |0,h=>by cases h
 |n+1,h=>by
  simp only[JM5]at h;split at h
  ·rename_i e;exact⟨n,by omega,by simpa[eqI]using e,h⟩
  ·obtain⟨m,h1,h2,h3⟩:=JK9 h;exact⟨m,by omega,h2,h3⟩
def JM7(agg:Bool)(len:Nat)(t:Ty)(x i:TV)(d:Option Nat)(s:TSt)(k:TSt->Option R):Option R:=
 if agg=true\/t.sz=1 then
  match x,i with
  | .a (.dt (.ar n t') v),.a (.c (.d (.i _) j))=>if h:t'=t/\n=len then(JrE v j).bind λy=>k (J0E d (mkv agg t (h.1▸y)) s)else none
  | .a (.m _ cs),.a (.c (.d (.i _) j))=>JM5 j (λm=>match sub cs (m*t.sz) t.sz with
    |some l=>match mka agg t l with
     |some v=>k (J0E d v s)
     |none=>none
    |none=>none) len
  |_,_=>none
 else none
theorem JP0(F:Orc){agg:Bool}{len:Nat}{t:Ty}{x i:TO}{g e:TV}{d:Option Nat}{new:Nat}{s:TSt}{k:TSt->Option R}{r:R}(hx:tev x s=some g)(hi:tev i s=some e)(h:JM7 agg len t g e d s k=some r):
  Ok (opR F (.aidx agg len t.sz (erO x) (erO i)) new) d s k r:=by
 unfold JM7 at h;split at h
 ·rename_i ha;split at h
  ·rename_i n t' v w j;split at h
   ·rename_i q;obtain⟨rfl,rfl⟩:=q;obtain⟨y,h1,h⟩:=J25.1 h;obtain⟨h2,h3⟩:=JO0 h1;refine J21 (v:=mkv agg t' y) ?_ h;simp only[opR,run_bind,J0c hx,J0c hi,JJ,JLQ,e_i,if_pos h2,Jak];rw[show cel (.ar n t') v=Jbt (cel t') v from rfl,Jpn (J1J t') h3];simp only[Jkr (lns s.sto) ha,val,JH]
   ·cases h
  ·rename_i t0 cs w j;obtain⟨m,h1,o,h3⟩:=JK9 h;clear h;subst o;split at h3
   ·rename_i l hl;split at h3
    ·rename_i v hv;refine J21 (v:=v) ?_ h3;have h2:(0:Int)<=m/\(m:Int)<len:=by omega
     simp only[opR,run_bind,J0c hx,J0c hi,JJ,e_m,e_i,if_pos h2,Jak,Int.toNat_natCast,JcX,hl,J1t,JjR (lns s.sto) hv,val,JH]
    ·cases h3
   ·cases h3
  ·cases h
 ·cases h
def JLy(x:TV)(i:Nat)(kk:TV->Option R):Option R:=
 match x with
 | .tup vs=>match vs[i]? with
   |some v=>kk (.a v)
   |none=>none
 |_=>none
theorem JPB{x:TV}{i:Nat}{s:TSt}{kk:TV->Option R}{r:R}(h:JLy x i kk=some r):Vl (JvC i (J06 (lns s.sto) x)) s kk r:=by
 unfold JLy at h;split at h
 ·split at h
  ·rename_i v hv;refine⟨_,?_,h⟩;simp only[J06,JvC,J2c,hv,J1t]
  ·cases h
 ·cases h
def JOb(str:Bool)(x:TV)(s:TSt)(kk:TV->Option R):Option R:=
 match str,x with
 |true,.a (.c (.d .s l))=>kk (vi .i64 (J0 l))
 |false,.a (.c (.d (.l _) l))=>kk (vi .i64 (J0 l))
 |false,.a (.c (.slr b))=>match s.sto[b]? with
  |some (.arr _ _ rows)=>kk (vi .i64 (J0 rows))
  |_=>none
 |false,.a (.c (.slo _ n))=>kk (vi .i64 n)
 |_,_=>none
theorem JQb{str:Bool}{x:TV}{s:TSt}{kk:TV->Option R}{r:R}(h:JOb str x s kk=some r):Vl (Jxz str (J06 (lns s.sto) x)) s kk r:=by
 unfold JOb at h;split at h
 ·exact⟨_,rfl,h⟩
 ·exact⟨_,by simp only[e_l,Jxz,J1P,e_i,J0],h⟩
 ·split at h
  ·rename_i hb;exact⟨_,by simp only[J51,Jxz,J5Z hb,e_i,J0],h⟩
  ·cases h
 ·exact⟨_,rfl,h⟩
 ·cases h
theorem JxR{s:TSt}{new:Nat}(hn:new<s.sto.length){w:Bool}{t:Ty}{rows:List t.D}:lns (wN new (TB.arr w t rows) s).sto new=rows.length:=by unfold wN;rw[JGN (by simpa using hn)];rfl
theorem JvD{m:RM Eff}{d:Option Nat}{s:TSt}{k:TSt->Option R}{r:R}{new:Nat}{t:Ty}{rows:List t.D}(hn:new<s.sto.length)
  (hm:m.run (Ju s)=some ⟨.slr new 0 rows.length,[(new,.arr true t.sz (rows.map (cel t)))]⟩) (h:k (J0E d (.a (.c (.slr new))) (wN new (.arr true t rows) s))=some r):Ok m d s k r:=by
 refine JMj (x:=.arr true t rows) (v:=.a (.c (.slr new))) ?_ h;rw[hm,J51,JxR hn];rfl
def Jve(own:Bool)(t:Ty)(bytes:Nat)(l c:TV)(d:Option Nat)(new:Nat)(s:TSt)(k:TSt->Option R):Option R:=
 match l,c with
 | .a (.c (.d (.i _) n)),.a (.c (.d (.i _) m))=>(mkS bytes n m t.zero).bind λrows=>
   if own=true then k (J0E d (.a (.c (.slr new))) (wN new (.arr true t rows) s))else k (J0E d (vl t rows) s)
 |_,_=>none
theorem JIV(F:Orc){own:Bool}{t:Ty}{bytes:Nat}{l c:TO}{e g:TV}{d:Option Nat}{new:Nat}{s:TSt}{k:TSt->Option R}{r:R}(hl:tev l s=some e)(hc:tev c s=some g)(hn:own=true->new<s.sto.length)
  (h:Jve own t bytes e g d new s k=some r):Ok (opR F (.mkslice own t.sz bytes (cel t t.zero) (erO l) (erO c)) new) d s k r:=by
 unfold Jve at h;split at h
 ·obtain⟨rows,h1,h3⟩:=J25.1 h;obtain⟨h2,rfl⟩:=JR5 h1;clear h;split at h3
  ·rename_i ho;subst ho;refine JvD (hn rfl) ?_ h3;simp only[opR,run_bind,J0c hl,J0c hc,JJ,e_i,if_pos h2,if_true,JH,JlR,JqJ]
  ·rename_i ho;have:own=false:=by simpa using ho
   subst this;refine J21 (v:=vl t _) ?_ h3;simp only[opR,run_bind,J0c hl,J0c hc,JJ,e_i,if_pos h2,J5V,if_false,JH,e_l,JqJ]
 ·cases h
def JMc(t:Ty)(bytes:Nat)(x y:TV)(d:Option Nat)(s:TSt)(k:TSt->Option R):Option R:=
 match x with
 | .a (.c (.slr b))=>match s.sto[b]? with
   |some (.arr w t' rows)=>if h:t'=t then
     match tls t' y s with
     |some l=>(JN bytes rows l).bind λm=>k (J0E d (.a (.c (.slr b))) (wN b (.arr w t' m) s))
     |none=>none
    else none
   |_=>none
 |_=>none
theorem JKm{t:Ty}{bytes:Nat}{x y:TV}{d:Option Nat}{s:TSt}{k:TSt->Option R}{r:R}(h:JMc t bytes x y d s k=some r):Ok (J8Q t.sz bytes (J06 (lns s.sto) x) (J06 (lns s.sto) y)) d s k r:=by
 unfold JMc at h;split at h
 ·rename_i b;split at h
  ·rename_i w t' rows hb;split at h
   ·rename_i g;subst g;split at h
    ·rename_i l hl;obtain⟨m,h1,h⟩:=J25.1 h;refine JMj (x:=.arr w t' m) (v:=.a (.c (.slr b))) ?_ h;have e:(Ju s).sto[b]?=some (.arr w t'.sz (rows.map (cel t'))):=by rw[J1I,hb];rfl
     have:=JQT h1 e (JvE hl);rw[J51,J5Z hb,this,J51,JxR (Ji hb)];rfl
    ·cases h
   ·cases h
  ·cases h
 ·cases h
def JM0(t:Ty)(bytes:Nat)(y:TV)(d:Option Nat)(new:Nat)(s:TSt)(k:TSt->Option R):Option R:=
 match tls t y s with
 |some l=>(J3g bytes l).bind λm=>k (J0E d (.a (.c (.slr new))) (wN new (.arr true t m) s))
 |none=>none
theorem JOk(F:Orc){t:Ty}{bytes:Nat}{z:List PV}{y:TO}{e:TV}{d:Option Nat}{new:Nat}{s:TSt}{k:TSt->Option R}{r:R}(hy:tev y s=some e)(hn:new<s.sto.length)(h:JM0 t bytes e d new s k=some r):Ok (opR F (.appn t.sz bytes z (erO y)) new) d s k r:=by
 unfold JM0 at h;split at h
 ·rename_i l hl;obtain⟨m,h1,h3⟩:=J25.1 h;obtain⟨h2,rfl⟩:=JNW h1;refine JvD hn ?_ h3;simp only[opR,run_bind,J0c hy,JJ,JvE hl,J1P,h2,if_true,JH]
 ·cases h
def JM4(t:Ty)(bytes:Nat)(x y:TV)(d:Option Nat)(s:TSt)(k:TSt->Option R):Option R:=
 match y with
 | .a (.c (.d (.i _) n))=>if 0<=n then JMc t bytes x (vl t (List.replicate n.toNat t.zero)) d s k else none
 |_=>none
theorem JOY(F:Orc){t:Ty}{bytes:Nat}{x y:TO}{g j:TV}{d:Option Nat}{new:Nat}{s:TSt}{k:TSt->Option R}{r:R}(hx:tev x s=some g)(hy:tev y s=some j)(h:JM4 t bytes g j d s k=some r):Ok (opR F (.appz t.sz bytes (cel t t.zero) (erO x) (erO y)) new) d s k r:=by
 unfold JM4 at h;split at h
 ·rename_i n;split at h
  ·rename_i o;obtain⟨e,s',h1,h2,h3⟩:=JKm h;refine⟨e,s',?_,h2,h3⟩;simp only[opR,run_bind,J0c hx,J0c hy,JJ,e_i,zrs,if_pos o];rw[e_l,JqJ]at h1;exact h1
  ·cases h
 ·cases h
def JLp(t:Ty)(bytes:Nat)(x y:TV)(d:Option Nat)(new:Nat)(s:TSt)(k:TSt->Option R):Option R:=
 match x with
 | .a (.c (.sc t' rows))=>if h:t'=t then
    match tls t' y s with
    |some l=>(JSs bytes rows l).bind λm=>k (J0E d (.a (.c (.slr new))) (wN new (.arr true t' m) s))
    |none=>none
   else none
 |_=>none
theorem JOR(F:Orc){t:Ty}{bytes:Nat}{z:List PV}{x y:TO}{e g:TV}{d:Option Nat}{new:Nat}{s:TSt}{k:TSt->Option R}{r:R}(hx:tev x s=some e)(hy:tev y s=some g)(hn:new<s.sto.length)(h:JLp t bytes e g d new s k=some r):
  Ok (opR F (.appc t.sz bytes z (erO x) (erO y)) new) d s k r:=by
 unfold JLp at h;split at h
 ·rename_i t' rows;split at h
  ·rename_i j;subst j;split at h
   ·rename_i l hl;obtain⟨m,h1,h⟩:=J25.1 h;unfold JSs at h1;split at h1
    ·rename_i h2;injection h1 with h1;subst h1;refine JvD hn ?_ h;simp only[opR,run_bind,J0c hx,J0c hy,JJ];show(JFV t'.sz bytes (.p (.slc t'.sz (rows.map (cel t')))) _ new).run _=_;simp only[JFV,run_bind,JvE hl,JJ,J1P,true_and,h2,and_self,if_true,JH,JbN,Jc6]
    ·cases h1
   ·cases h
  ·cases h
 ·cases h
def tbn(x:Option TO)(s:TSt):Option (Option (IntKind×Int)):=
 match x with
 |none=>some none
 |some o=>match tev o s with
  |some (.a (.c (.d (.i k) n)))=>some (some (k,n))
  |_=>none
def bv(x:Option (IntKind×Int)):Option AV:=x.map λy=>.p (.i y.1 y.2)
theorem JkC{x:Option TO}{s:TSt}{y:Option (IntKind×Int)}(h:tbn x s=some y):(evo (x.map erO)).run (Ju s)=some (bv y):=by
 cases x with
 |none=>injection h with h;subst h;rfl
 |some o=>
  simp only[tbn]at h;split at h
  ·rename_i k n ho;injection h with h;subst h;simp only[J1t,evo,run_bind,J0c ho,JJ,JH,bv,e_i]
  ·cases h
theorem JSB(x:Option (IntKind×Int))(top d:Nat):J6Z (bv x) top d=JxX (x.map (·.2)) top d:=by cases x<;>rfl
theorem JNf(n:Nat)(lo hi:Option (IntKind×Int)):Jqr n (bv lo) (bv hi)=Jum n (lo.map (·.2)) (hi.map (·.2)):=by unfold Jqr Jum;simp only[JSB];rfl
inductive TSK where
 |str
 |sl (t:Ty)
def erK:TSK->SK
 | .str=>.str
 | .sl t=>.sl t.sz
def JPu(t:Ty)(x:TV)(s:TSt)(kk:List t.D->TSt->Option R):Option R:=
 match x with
 | .a (.c (.d (.l t') l))=>if h:t'=t then kk (h▸l) s else none
 | .a (.c (.slr b))=>match s.sto[b]? with
   |some (.arr _ t' rows)=>if h:t'=t then kk (h▸rows) (wS b (.arr false t' rows) s)else none
   |_=>none
 |_=>none
theorem JQV{t:Ty}{x:TV}{s:TSt}{kk:List t.D->TSt->Option R}{r:R}(h:JPu t x s kk=some r):
  ∃l s' ws,Fzd s s' ws/\kk l s'=some r/\((J06 (lns s.sto) x=.p (.sl t.sz (l.map (cel t)))/\ws=[])\/
   ∃b,J06 (lns s.sto) x=.slr b 0 l.length/\(fz (.slr b 0 l.length)).run (Ju s)=some ([.sl t.sz (l.map (cel t))],ws)):=by
 unfold JPu at h;split at h
 ·split at h
  ·rename_i e;subst e;exact⟨_,s,[],Fzd.refl s,h,.inl ⟨e_l _ _ _,rfl⟩⟩
  ·cases h
 ·rename_i b;split at h
  ·rename_i w t' rows hb;split at h
   ·rename_i e;subst e;refine⟨_,_,_,Jz1 hb,h,.inr ⟨b,by rw[J51,J5Z hb],?_⟩⟩;simp only[fz,J1n,J1I,hb,J1t,JJ,J0r,J1P,zQ6,if_true,Jpp,JH]
   ·cases h
  ·cases h
 ·cases h
def JHz(e:TSK)(x:TV)(lo hi mx:Option (IntKind×Int))(d:Option Nat)(s:TSt)(k:TSt->Option R):Option R:=
 match e with
 | .str=>match x,mx with
   | .a (.c (.d .s l)),none=>(J0Q l (lo.map (·.2)) (hi.map (·.2))).bind λq=>k (J0E d (vs q) s)
   |_,_=>none
 | .sl t=>JPu t x s λl s1=>match mx with
   |none=>(J0Q l (lo.map (·.2)) (hi.map (·.2))).bind λq=>k (J0E d (vl t q) s1)
   |some (_,n)=>match lo,hi with
    |none,some (_,h)=>if h=l.length/\n=l.length then k (J0E d (.a (.c (.sc t l))) s1)else none
    |_,_=>none
theorem JJT{α:Type}{l q:List α}{lo hi:Option Int}(h:J0Q l lo hi=some q): ∃c,Jum l.length lo hi=some c/\q=(l.drop c.1).take (c.2-c.1):=by
 unfold J0Q at h;split at h
 ·rename_i c hc;injection h with h;exact⟨c,hc,h.symm⟩
 ·cases h
theorem JNe(F:Orc){o:TSK}{x:TO}{n:TV}{lo hi mx:Option TO}{l j m:Option (IntKind×Int)}{d:Option Nat}{new:Nat}{s:TSt}{k:TSt->Option R}{r:R}(hx:tev x s=some n)(hl:tbn lo s=some l)(w:tbn hi s=some j)(hm:tbn mx s=some m)
  (h:JHz o n l j m d s k=some r):Ok (opR F (.slice (erK o) (erO x) (lo.map erO) (hi.map erO) (mx.map erO)) new) d s k r:=by
 unfold JHz at h;split at h
 ·split at h
  ·rename_i l0;obtain⟨q,h1,h⟩:=J25.1 h;obtain⟨c,hc,rfl⟩:=JJT h1;refine J21 (v:=vs _) ?_ h;have g:bv none=none:=rfl;simp only[opR,run_bind,J0c hx,JkC hl,JkC w,JkC hm,JJ,e_s,erK,g,J5w,JdM,val,JNf,hc,JH]
  ·cases h
 ·rename_i t;obtain⟨y,s1,ws,f,h,hv⟩:=JQV h
  have e: ∀(res:AV),J5w (.sl t.sz) (.p (.sl t.sz (y.map (cel t)))) (bv l) (bv j) (bv m)=some res->
    (opR F (.slice (erK (.sl t)) (erO x) (lo.map erO) (hi.map erO) (mx.map erO)) new).run (Ju s)=some ⟨res,ws⟩:=by
   intro res hr;simp only[opR,run_bind,J0c hx,JkC hl,JkC w,JkC hm,JJ,erK];rcases hv with⟨hv,rfl⟩|⟨b,hv,hf⟩
   ·simp only[hv,hr,val,JH]
   ·simp only[hv,run_bind,hf,JJ,hr,JH]
  split at h
  ·obtain⟨q,h2,h⟩:=J25.1 h;obtain⟨c,hc,rfl⟩:=JJT h2;refine JGS (v:=vl t _) f (e _ ?_) h;have g:bv none=none:=rfl;simp only[g,J5w,JdV,if_true,J1P,JNf,hc,e_l,Jvb,List.map_drop]
  ·split at h
   ·split at h
    ·rename_i z;refine JGS (v:=.a (.c (.sc t y))) f (e _ ?_) h;simp only[bv,Option.map_none,J1t,J5w,JDh,J1P,z,and_self,if_true];rfl
    ·cases h
   ·cases h
end
end Go.Am
end
section
namespace Go.Am
section
variable {R:Type}
def JMz(t:Ty):List (Nat×TO)->TSt->TSt->(List (Nat×t.D)->TSt->Option R)->Option R
 |[],_,s,k=>k [] s
 |(i,o)::r,s0,s,k=>match tev o s0 with
  |some v=>tfz t v s λz s'=>JMz t r s0 s' λl e=>k ((i,z)::l) e
  |none=>none
theorem JJK{t:Ty}: ∀{parts:List (Nat×TO)} {s0 s:TSt} {w0:List (Nat×Blk)} {k:List (Nat×t.D)->TSt->Option R} {r:R},Fzd s0 s w0->JMz t parts s0 s k=some r->
  ∃l s' ws,(fzs (parts.map λx=>erO x.2)).run (Ju s0)=some (l.map λx=>cel t x.2,ws)/\Fzd s0 s' (w0++ws)/\l.map (·.1)=parts.map (·.1)/\k l s'=some r
 |[],s0,s,w0,k,r,f,h=>⟨[],s,[],rfl,by rw[J59];exact f,rfl,h⟩
 |(i,o)::q,s0,s,w0,k,r,f,h=>by
  simp only[JMz]at h;split at h
  ·rename_i v hv;obtain⟨z,s1,w1,h1,e,h⟩:=JNs f h;obtain⟨l,g,w2,h2,j,h3,h⟩:=JJK e h;refine⟨(i,z)::l,g,w1++w2,?_,by rw[<-Jb1];exact j,by simp[h3],h⟩;simp only[J0I,fzs,run_bind,J0c hv,JJ,h1,h2,JH]
  ·cases h
def Jw3{α:Type}:List (Nat×α)->List α->Option (List α)
 |[],rows=>some rows
 |(i,c)::r,rows=>if i<rows.length then Jw3 r (rows.set i c)else none
theorem JzX{t:Ty}: ∀{l:List (Nat×t.D)} {rows rows':List t.D},Jw3 l rows=some rows'->
  J8R t.sz ((l.map (·.1)).zip (l.map λx=>cel t x.2)) (rows.map (cel t))=some (rows'.map (cel t))/\rows'.length=rows.length
 |[],rows,rows',h=>by injection h with h;subst h;exact⟨rfl,rfl⟩
 |(i,c)::q,rows,rows',h=>by
  simp only[Jw3]at h;split at h
  ·rename_i e;obtain⟨h1,h2⟩:=JzX h;refine⟨?_,by simpa using h2⟩;simp only[J0I,List.zip_cons_cons,J8R,J1J,true_and,J1P,if_pos e];rw[<-List.map_set];exact h1
  ·cases h
def JLs(own:Bool)(t:Ty)(n:Nat)(parts:List (Nat×TO))(d:Option Nat)(new:Nat)(s:TSt)(k:TSt->Option R):Option R:=
 JMz t parts s s λl s1=>match Jw3 l (List.replicate n t.zero)with
  |some rows=>if own=true then k (J0E d (.a (.c (.slr new))) (wN new (.arr true t rows) s1))else k (J0E d (vl t rows) s1)
  |none=>none
theorem JOw(F:Orc){own:Bool}{t:Ty}{n:Nat}{parts:List (Nat×TO)}{d:Option Nat}{new:Nat}{s:TSt}{k:TSt->Option R}{r:R}(hn:own=true->new<s.sto.length)
  (h:JLs own t n parts d new s k=some r):Ok (opR F (.lits own t.sz n (cel t t.zero) (parts.map λx=>(x.1,erO x.2))) new) d s k r:=by
 unfold JLs at h;obtain⟨l,s1,ws,h1,f,h2,h3⟩:=JJK (Fzd.refl s) h;rw[Jc9]at f;clear h;split at h3
 ·rename_i rows hp;obtain⟨q1,q2⟩:=JzX hp;rw[JlR]at q2;rw[JqJ]at q1;have e1:(parts.map λx=>(x.1,erO x.2)).map (·.2)=parts.map λx=>erO x.2:=by simp
  have e2:(parts.map λx=>(x.1,erO x.2)).map (·.1)=l.map (·.1):=by rw[h2];simp
  split at h3
  ·rename_i ho;subst ho;have e:new<s1.sto.length:=by have:=congrArg (λst=>st.sto.length) f.2.2.1;simp only[Ju,J1P,Jd6]at this;rw[this];exact hn rfl
   refine⟨⟨J06 (lns (wN new (.arr true t rows) s1).sto) (.a (.c (.slr new))),ws++[(new,.arr true t.sz (rows.map (cel t)))]⟩,_,?_,Ja3 ?_ d _,h3⟩
   ·rw[J51,JxR e];simp only[opR,run_bind,e1,h1,JJ,e2,q1,if_true,JH,q2]
   ·rw[JPV,f.2.2.1,J1A];rfl
  ·rename_i ho;have:own=false:=by simpa using ho
   subst this;refine JGS (v:=vl t rows) f ?_ h3;simp only[opR,run_bind,e1,h1,JJ,e2,q1,J5V,if_false,JH,e_l]
 ·cases h3
def JaO(s:TSt):Nat->Nat->Bool
 |_,0=>true
 |new,k+1=>(match s.sto[new]? with
  |some .dead=>true
  |_=>false)&&JaO s (new+1) k
theorem JGc{s:TSt}: ∀{k new:Nat},JaO s new k=true->(Jf2 new k).run (Ju s)=some ()
 |0,_,_=>rfl
 |k+1,new,h=>by
  simp only[JaO,J02]at h;obtain⟨h1,h2⟩:=h;split at h1
  ·rename_i hd;simp only[Jf2,J1n,J1I,hd,J1t,JJ,J0r];exact JGc h2
  ·cases h1
theorem J8O{s:TSt}: ∀{k new:Nat},JaO s new k=true-> ∀j,j<k->s.sto[new+j]?=some .dead
 |0,_,_,j,hj=>by omega
 |k+1,new,h,j,hj=>by
  simp only[JaO,J02]at h;obtain⟨h1,h2⟩:=h;cases j with
  |zero=>
   split at h1
   ·rename_i hd;exact hd
   ·cases h1
  |succ j=>
   have:=J8O h2 j (by omega);rw[<-this];congr 1;omega
theorem JyO{m:RM Eff}{d:Option Nat}{s:TSt}{k:TSt->Option R}{r:R}{new:Nat}{x:TB}(hd:s.sto[new]?=some .dead)(e:lnB x=0)
  (hm:m.run (Ju s)=some ⟨.ptr new 0,[(new,J0r (lns s.sto) x)]⟩) (h:k (J0E d (.a (.c (.ptr new []))) (wS new x s))=some r):Ok m d s k r:=by
 refine JwK (x:=x) (v:=.a (.c (.ptr new []))) (e.trans (JaX hd).symm) ?_ h;rw[hm];rfl
def JJM(t:Ty)(d:Option Nat)(new:Nat)(s:TSt)(k:TSt->Option R):Option R:=k (J0E d (.a (.c (.ptr new []))) (wS new (.box t t.zero) s))
theorem JKU(F:Orc){t:Ty}{d:Option Nat}{new:Nat}{s:TSt}{k:TSt->Option R}{r:R}(hd:s.sto[new]?=some .dead)(h:JJM t d new s k=some r):Ok (opR F (.newbox (cel t t.zero)) new) d s k r:=
 JyO hd (x:=.box t t.zero) rfl rfl h
def JPb(t:Ty)(x:TV)(d:Option Nat)(new:Nat)(s:TSt)(k:TSt->Option R):Option R:=
 match tdv t x with
 |some z=>if agv x=true\/t.sz=1 then k (J0E d (.a (.c (.ptr new []))) (wS new (.box t z) s))else none
 |none=>match tcs x with
  |some cs=>if cs.length=t.sz then k (J0E d (.a (.c (.ptr new []))) (wS new (.mbox t cs) s))else none
  |none=>none
theorem JQd(F:Orc){t:Ty}{x:TO}{v:TV}{d:Option Nat}{new:Nat}{s:TSt}{k:TSt->Option R}{r:R}(hd:s.sto[new]?=some .dead)(hx:tev x s=some v)(h:JPb t v d new s k=some r):Ok (opR F (.box t.sz (erO x)) new) d s k r:=by
 unfold JPb at h;split at h
 ·rename_i z hz;split at h
  ·rename_i ha;refine JyO hd (x:=.box t z) rfl ?_ h;simp only[opR,run_bind,J0c hx,JJ,Jq3 (lns s.sto) hz ha,J1P,J1J,if_true,JH,J0r]
  ·cases h
 ·split at h
  ·rename_i cs hc;split at h
   ·rename_i hn;refine JyO hd (x:=.mbox t cs) rfl ?_ h;simp only[opR,run_bind,J0c hx,JJ,JpE (lns s.sto) hc,J1P,hn,if_true,JH,J0r]
   ·cases h
  ·cases h
def JbZ:List (Nat×Ty)->Nat->TSt->TSt
 |[],_,s=>s
 |(_,t)::r,n,s=>JbZ r (n+1) (wS n (.arr true t []) s)
def JuN:List (Nat×Ty)->Nat->List TC->List TC
 |[],_,cs=>cs
 |(off,_)::r,n,cs=>JuN r (n+1) (cs.set off (.slr n))
def JaW(os:List (Nat×Ty)):List (Nat×Nat):=os.map λx=>(x.1,x.2.sz)
theorem Jv2: ∀{os:List (Nat×Ty)} {new:Nat} {s:TSt},(∀j,j<os.length->s.sto[new+j]?=some .dead)->
  lns (JbZ os new s).sto=lns s.sto/\Ju (JbZ os new s)=⟨(Ju s).env,upd (J54 (JaW os) new) (Ju s).sto⟩/\(∀b,(∀j,j<os.length->b≠new+j)->(JbZ os new s).sto[b]?=s.sto[b]?)
 |[],_,s,_=>⟨rfl,rfl,λ_ _=>rfl⟩
 |(off,t)::q,new,s,h=>by
  have hd:s.sto[new]?=some .dead:=h 0 (by simp);have hl:lnB (.arr true t [])=lns s.sto new:=(JaX hd).symm;have e:=Jj4 hl;have ho: ∀c,c≠new->(wS new (.arr true t []) s).sto[c]?=s.sto[c]?:=λc hc=>by unfold wS;rw[JlL (λe=>hc e.symm)]
  obtain⟨h1,h2,h3⟩:=Jv2 (os:=q) (new:=new+1) (s:=wS new (.arr true t []) s) (λj hj=>by rw[ho _ (by omega)];have:=h (j+1) (by simp;omega);rw[<-this];congr 1;omega)
  refine⟨h1.trans e,?_,λb hb=>?_⟩
  ·simp only[JbZ];rw[h2,JlX hl];simp only[JaW,J0I,J54];rfl
  ·simp only[JbZ];rw[h3 b (λj hj=>by have:=hb (j+1) (by simp;omega);omega),ho b (by have:=hb 0 (by simp);omega)]
theorem Jxn{L:Nat->Nat}: ∀{os:List (Nat×Ty)} {new:Nat} {cs:List TC},(∀j,j<os.length->L (new+j)=0)->(JuN os new cs).map (J0a L)=Jd2 (JaW os) new (cs.map (J0a L))
 |[],_,_,_=>rfl
 |(off,t)::q,new,cs,h=>by
  simp only[JuN,JaW,J0I,Jd2];rw[Jxn (os:=q) (new:=new+1) (λj hj=>by have:=h (j+1) (by simp;omega);rw[<-this];congr 1;omega),List.map_set];have:J0a L (.slr new)=.slr new 0 0:=by simp only[J0a];rw[show L new=0 from h 0 (by simp)]
  rw[this];rfl
def Ju4(t:Ty)(os:List (Nat×Ty))(d:Option Nat)(new:Nat)(s:TSt)(k:TSt->Option R):Option R:=k (J0E d (.a (.c (.ptr (new+os.length) []))) (wS (new+os.length) (.mbox t (JuN os new (zcs t))) (JbZ os new s)))
theorem JIT(F:Orc){t:Ty}{os:List (Nat×Ty)}{d:Option Nat}{new:Nat}{s:TSt}{k:TSt->Option R}{r:R}(hd:JaO s new (os.length+1)=true)(h:Ju4 t os d new s k=some r):
  Ok (opR F (.newboxo (cel t t.zero) (JaW os)) new) d s k r:=by
 unfold Ju4 at h;generalize hc:zcs t=cs at h
 ·have g:=J8O hd;obtain⟨h1,h2,h3⟩:=Jv2 (os:=os) (new:=new) (s:=s) (λj hj=>g j (by omega));have hl:lnB (.mbox t (JuN os new cs))=lns (JbZ os new s).sto (new+os.length):=by rw[h1,JaX (g os.length (by omega))];rfl
  have e:=Jj4 hl;have el:(JaW os).length=os.length:=by simp[JaW]
  refine⟨⟨J06 (lns (wS (new+os.length) (.mbox t (JuN os new cs)) (JbZ os new s)).sto) (.a (.c (.ptr (new+os.length) []))),J54 (JaW os) new++[(new+os.length,.box (Jd2 (JaW os) new ((cel t t.zero).map .p)))]⟩,_,?_,Ja3 ?_ d _,h⟩
  ·simp only[opR,JH,el];rfl
  ·rw[JlX hl,h2,J1A];simp only[J0r];rw[Jxn (λj hj=>by rw[h1];exact JaX (g j (by omega))),<-hc,Jjc];rfl
def Jxx(t:Ty)(parts:List (Nat×Ty×TO))(os:List (Nat×Ty))(d:Option Nat)(new:Nat)(s:TSt)(k:TSt->Option R):Option R:=
 match tpc parts s with
 |some l=>match Jxh l (JuN os new (zcs t))with
  |some cs'=>match mka true t cs' with
   |some v=>k (J0E d v (JbZ os new s))
   |none=>none
  |none=>none
 |none=>none
theorem JKP(F:Orc){t:Ty}{parts:List (Nat×Ty×TO)}{os:List (Nat×Ty)}{d:Option Nat}{new:Nat}{s:TSt}{k:TSt->Option R}{r:R}(hd:JaO s new os.length=true)(h:Jxx t parts os d new s k=some r):
  Ok (opR F (.buildo (cel t t.zero) (erP parts) (JaW os)) new) d s k r:=by
 unfold Jxx at h;split at h
 ·rename_i l hl;have e:=J8O hd;obtain⟨h1,h2,h3⟩:=Jv2 (os:=os) (new:=new) (s:=s) (λj hj=>e j (by omega));split at h
  ·rename_i cs' hf;split at h
   ·rename_i v hv;refine⟨⟨J06 (lns (JbZ os new s).sto) v,J54 (JaW os) new⟩,_,?_,Ja3 h2 d _,h⟩;have e1:=Jxn (L:=lns s.sto) (os:=os) (new:=new) (cs:=zcs t) (λj hj=>JaX (e j (by omega)));rw[Jjc]at e1;have e2:=JtY (lns s.sto) hf;rw[e1]at e2;simp only[opR,run_bind,JG1 hl,JJ,e2,JjR (lns s.sto) hv,JH,h1]
   ·cases h
  ·cases h
 ·cases h
def JNy(t:Ty)(d:Option Nat)(new:Nat)(s:TSt)(k:TSt->Option R):Option R:=k (J0E d (.a (.c (.slr new))) (wN new (.arr true t []) s))
theorem JMJ(F:Orc){t:Ty}{x:Opd}{d:Option Nat}{new:Nat}{s:TSt}{k:TSt->Option R}{r:R}(hn:new<s.sto.length)(h:JNy t d new s k=some r):Ok (opR F (.mkarr t.sz x) new) d s k r:=
 JvD (rows:=[]) hn rfl h
def tyB:Option TB->Ty
 |some (.box t _)=>t
 |some (.mbox t _)=>t
 |_=>.u
def Jyc(t:Ty)(x:TV)(d:Option Nat)(new:Nat)(s:TSt)(k:TSt->Option R):Option R:=
 match x with
 | .a (.c (.ptr b p))=>match Jm2 p,(match s.sto[b]? with
    |some (.box t0 y)=>JuK t0 y
    |some (.mbox _ cs)=>some cs
    |_=>none)with
   |some off,some cs=>match spl cs off [.slr new]with
    |some cs'=>k (J0E d uv (wS b (.mbox (tyB s.sto[b]?) cs') (wS new (.arr true t []) s)))
    |none=>none
   |_,_=>none
 |_=>none
theorem JKO(F:Orc){t:Ty}{x:TO}{v:TV}{d:Option Nat}{new:Nat}{s:TSt}{k:TSt->Option R}{r:R}(hd:s.sto[new]?=some .dead)(hx:tev x s=some v)(h:Jyc t v d new s k=some r):Ok (opR F (.storen t.sz (erO x)) new) d s k r:=by
 unfold Jyc at h;split at h
 ·rename_i b p;split at h
  ·rename_i off cs ho hc;split at h
   ·rename_i cs' hs;have hl:lnB (.arr true t [])=lns s.sto new:=(JaX hd).symm;have j:b≠new/\lns s.sto b=0/\(Ju s).sto[b]?=some (.box (cs.map (J0a (lns s.sto)))):=by
     split at hc
     ·rename_i t0 y hb;refine⟨λe=>?_,Jsb hb,?_⟩
      ·rw[e,hd]at hb;injection hb with hb;cases hb
      ·rw[J1I,hb,Jkx _ hc];rfl
     ·rename_i t0 w hb;injection hc with hc;subst hc;refine⟨λe=>?_,JFh hb,?_⟩
      ·rw[e,hd]at hb;injection hb with hb;cases hb
      ·rw[J1I,hb];rfl
     ·cases hc
    obtain⟨q,n,hb⟩:=j;have e1:=Jj4 hl;have g:lnB (.mbox (tyB s.sto[b]?) cs')=lns (wS new (.arr true t []) s).sto b:=by rw[e1,n];rfl
    refine⟨⟨J06 (lns (wS b (.mbox (tyB s.sto[b]?) cs') (wS new (.arr true t []) s)).sto) uv,(new,.arr true t.sz [])::[(b,.box (cs'.map (J0a (lns s.sto))))]⟩,_,?_,Ja3 ?_ d _,h⟩
    ·have e2:J0a (lns s.sto) (.slr new)=.slr new 0 0:=by simp only[J0a];rw[JaX hd]
     have o:spl (cs.map (J0a (lns s.sto))) (spo p) [.slr new 0 0]=some (cs'.map (J0a (lns s.sto))):=by rw[<-e2,Jko ho];have:=Jd3 (J0a (lns s.sto)) cs off [TC.slr new];rw[hs]at this;exact this
     simp only[opR,run_bind,J0c hx,JJ,J7w,J43,J1n,hb,cellsOf,JFF,List.length_nil,zQ6,if_true,o,JH];rfl
    ·rw[JlX g,JlX hl,e1];rfl
   ·cases h
  ·cases h
 ·cases h
def JLJ(c:Bool)(a b:Option TV)(kk:TV->Option R):Option R:=
 match a,b with
 |some (.a (.c (.d t x))),some (.a (.c (.d t' y)))=>if h:t'=t then kk (.a (.c (.d t (JTT c x (h▸y)))))else none
 |some x,some y=>if c=true then kk x else kk y
 |some x,none=>if c=true then kk x else none
 |none,some y=>if c=true then none else kk y
 |none,none=>none
theorem JPy(F:Orc){c a b:TO}{x:Bool}{d:Option Nat}{new:Nat}{s:TSt}{k:TSt->Option R}{r:R}(hc:tev c s=some (vb x))(h:JLJ x (tev a s) (tev b s) (λv=>k (J0E d v s))=some r):Ok (opR F (.pick (erO c) (erO a) (erO b)) new) d s k r:=by
 have e: ∃v,(if x=true then tev a s else tev b s)=some v/\k (J0E d v s)=some r:=by
  unfold JLJ at h;split at h
  ·rename_i t y t' z ha hb;split at h
   ·rename_i g;subst g;refine⟨_,?_,h⟩;rw[ha,hb];cases x<;>rfl
   ·cases h
  ·rename_i y z _ ha hb;split at h
   ·rename_i hx;exact⟨y,by rw[if_pos hx];exact ha,h⟩
   ·rename_i hx;exact⟨z,by rw[if_neg hx];exact hb,h⟩
  ·rename_i y ha hb;split at h
   ·rename_i hx;exact⟨y,by rw[if_pos hx];exact ha,h⟩
   ·cases h
  ·rename_i y ha hb;split at h
   ·cases h
   ·rename_i hx;exact⟨y,by rw[if_neg hx];exact hb,h⟩
  ·cases h
 obtain⟨v,h1,h2⟩:=e;refine J21 (v:=v) ?_ h2;simp only[opR,run_bind,J0c hc,JJ,e_b];cases x with
 |true=>
  rw[if_pos rfl]at h1;simp only[if_true,run_bind,J0c h1,JJ,JH]
 |false=>
  rw[if_neg (by simp)]at h1;simp only[J5V,if_false,run_bind,J0c h1,JJ,JH]
def tcl:List TO->TSt->Option (List TC)
 |[],_=>some []
 |o::r,s=>match tev o s with
  |some (.a (.c x))=>match tcl r s with
   |some l=>some (x::l)
   |none=>none
  |_=>none
theorem JF1{s:TSt}: ∀{xs:List TO} {l:List TC},tcl xs s=some l->(evs (xs.map erO)).run (Ju s)=some (l.map (J0a (lns s.sto)))
 |[],l,h=>by injection h with h;subst h;rfl
 |o::q,l,h=>by
  simp only[tcl]at h;split at h
  ·rename_i x hx;split at h
   ·rename_i e hl;injection h with h;subst h;simp only[J0I,evs,run_bind,J0c hx,JJ,JF1 hl,JH];rfl
   ·cases h
  ·cases h
def JOC(x:TV)(kk:TV->Option R):Option R:=
 match x with
 | .a (.c (.ptr b p))=>kk (.a (.c (.ptr b p)))
 | .a (.c (.cp t y p))=>kk (.a (.c (.cp t y p)))
 | .a (.c (.ep b i p))=>kk (.a (.c (.ep b i p)))
 | .a (.fn f a c)=>kk (.a (.fn f a c))
 | .a (.c (.fn f))=>kk (.a (.c (.fn f)))
 |_=>none
theorem JQg(F:Orc){x:TO}{v:TV}{d:Option Nat}{new:Nat}{s:TSt}{k:TSt->Option R}{r:R}(hx:tev x s=some v)(h:JOC v (λv=>k (J0E d v s))=some r):Ok (opR F (.nilchk (erO x)) new) d s k r:=by
 unfold JOC at h;split at h<;>first
  |(refine J21 (v:=_) ?_ h
    simp only[opR,run_bind,J0c hx,JJ,J7w,JcU,Jd4,JOu,JRr,JH];done)
  |cases h
end
end Go.Am
end
section
namespace Go.Am
section
variable {R:Type}
def JPd(keep:Bool)(v:TV)(s:TSt)(kk:TA->TSt->Option R):Option R:=
 match v with
 | .a x=>if keep=true then kk x s else
   match x with
   | .c (.slr b)=>match s.sto[b]? with
     |some (.arr _ t' rows)=>kk (.c (.d (.l t') rows)) (wS b (.arr false t' rows) s)
     |_=>none
   | .c (.slo _ _)=>none
   | .m t cs=>fzC t cs s λx s'=>kk (.dt t x) s'
   |x=>kk x s
 | .tup _=>none
def Jx4:List (TV×Bool)->TSt->(List TA->TSt->Option R)->Option R
 |[],s,kk=>kk [] s
 |(v,keep)::r,s,kk=>JPd keep v s λx s=>Jx4 r s λl s=>kk (x::l) s
theorem JQR{keep:Bool}{v:TV}{s0 s:TSt}{w0:List (Nat×Blk)}{kk:TA->TSt->Option R}{r:R}(f:Fzd s0 s w0)(h:JPd keep v s kk=some r):
  ∃x s' ws,(if keep=true then RM.ret (J06 (lns s0.sto) v,[])else J9X (J06 (lns s0.sto) v)).run (Ju s0)=some (J1h (lns s0.sto) x,ws)/\Fzd s0 s' (w0++ws)/\kk x s'=some r:=by
 unfold JPd at h;split at h
 ·rename_i x;split at h
  ·rename_i hk;subst hk;exact⟨x,s,[],rfl,by rw[J59];exact f,h⟩
  ·rename_i hk;have:keep=false:=by simpa using hk
   subst this;simp only[J5V,if_false];split at h
   ·rename_i b;split at h
    ·rename_i w t' rows hb;obtain⟨w',e⟩:=f.2.2.2.1 b _ rows w hb;refine⟨_,_,[(b,.arr false t'.sz (rows.map (cel t')))],?_,f.trans (Jz1 hb),h⟩;simp only[J51,J9X,fz,run_bind,J1n,J1I,e,J1t,JJ,J0r,J5Z e,J1P,zQ6,if_true,Jpp,JH];rfl
    ·cases h
   ·cases h
   ·obtain⟨y,s',ws,h1,h2,h3⟩:=Jp7 f h;refine⟨_,s',ws,?_,h2,h3⟩;simp only[e_m,J9X,fz,run_bind,h1,JJ,JH];rfl
   ·rename_i j k g;refine⟨x,s,[],?_,by rw[J59];exact f,h⟩;cases x with
    |c x=>
     cases x with
     |slr b=>exact absurd rfl (j b)
     |slo b n=>exact absurd rfl (k b n)
     |_=>rfl
    |m t cs=>exact absurd rfl (g t cs)
    |_=>rfl
 ·cases h
theorem JuV: ∀{vs:List (TV×Bool)} {s0 s:TSt} {w0:List (Nat×Blk)} {kk:List TA->TSt->Option R} {r:R},Fzd s0 s w0->Jx4 vs s kk=some r->
  ∃xs s' ws,(J3v (vs.map (·.2)) (vs.map λx=>J06 (lns s0.sto) x.1)).run (Ju s0)=some (xs.map (J1h (lns s0.sto)),ws)/\Fzd s0 s' (w0++ws)/\kk xs s'=some r
 |[],s0,s,w0,kk,r,f,h=>⟨[],s,[],rfl,by rw[J59];exact f,h⟩
 |(v,keep)::q,s0,s,w0,kk,r,f,h=>by
  simp only[Jx4]at h;obtain⟨x,s1,w1,h1,e,h⟩:=JQR f h;obtain⟨xs,g,w2,h2,j,h⟩:=JuV e h;refine⟨x::xs,g,w1++w2,?_,by rw[<-Jb1];exact j,h⟩;cases keep with
  |true=>
   simp only[if_true,JH]at h1;injection h1 with h1;injection h1 with h1 h3;subst h3;simp only[J0I,J3v,run_bind,h2,JJ,JH,h1,Jc9]
  |false=>
   simp only[J5V,if_false]at h1;simp only[J0I,J3v,run_bind,h1,h2,JJ,JH]
theorem JeV: ∀(vs:List AV),J3v [] vs=J7N vs
 |[]=>rfl
 |x::r=>by simp only[J3v,J7N,JeV r]
theorem J9Z: ∀(m:List Bool) (vs:List AV),(∀x∈m,x=false)->J3v m vs=J7N vs
 |[],vs,_=>JeV vs
 |b::m,[],_=>rfl
 |b::m,x::r,h=>by
  have:b=false:=h b (by simp);subst this;simp only[J3v,J7N,J9Z m r (λx hx=>h x (by simp[hx]))]
def JFc(b:Nat)(l:List Nat):List Nat:=if l.any (λx=>x==b)=true then l else l++[b]
def JDy(x:TC)(l:List Nat):Option (List Nat):=
 match x with
 | .ptr b _=>some (JFc b l)
 | .slr b=>some (JFc b l)
 | .slo b _=>some (JFc b l)
 | .ep _ _ _=>none
 | .epo _ _ _ _=>none
 |_=>some l
def Jiw:List TC->List Nat->Option (List Nat)
 |[],l=>some l
 |x::r,l=>match JDy x l with
  |some l=>Jiw r l
  |none=>none
def JKK(x:TA)(l:List Nat):Option (List Nat):=
 match x with
 | .c x=>JDy x l
 | .dt _ _=>some l
 | .m _ cs=>Jiw cs l
 | .fn _ a c=>match Jiw a l with
   |some l=>Jiw c l
   |none=>none
def Jk4:List TA->List Nat->Option (List Nat)
 |[],l=>some l
 |x::r,l=>match JKK x l with
  |some l=>Jk4 r l
  |none=>none
def Jhu(s:TSt):List Nat->List Nat->Option (List Nat)
 |[],acc=>some acc
 |b::r,acc=>match s.sto[b]? with
  |some (.mbox _ cs)=>match Jiw cs acc with
   |some acc=>Jhu s r acc
   |none=>none
  |some _=>Jhu s r acc
  |none=>none
theorem JHF(b:Nat)(l:List Nat):JdQ (.whole b) (l.map .whole)=(JFc b l).map .whole:=by
 unfold JdQ JFc;have:(l.map Ent.whole).any (λx=>x==.whole b)=l.any (λx=>x==b):=by
  rw[List.any_map]
  congr 1
  funext x
  simp only[Function.comp];by_cases h:x=b
  ·subst h;simp
  ·have h1:(x==b)=false:=by simpa using h
   have h2:(Ent.whole x==Ent.whole b)=false:=by simpa using h
   rw[h1,h2]
 rw[this];split<;>simp
section
variable (L:Nat->Nat)
theorem JDP{x:TC}{l g:List Nat}(h:JDy x l=some g):J0O (J0a L x) (l.map .whole)=g.map .whole:=by
 unfold JDy at h;split at h<;>first
  |(injection h with h;subst h;simp only[J0a,J0O,JHF];done)
  |(cases h;done)
  |skip
 injection h with h;subst h;rename_i k o q r j;cases x with
 |ptr b p=>exact absurd rfl (k b p)
 |slr b=>exact absurd rfl (o b)
 |slo b n=>exact absurd rfl (q b n)
 |ep b i p=>exact absurd rfl (r b i p)
 |epo b e i p=>exact absurd rfl (j b e i p)
 |_=>rfl
theorem JcT: ∀{xs:List TC} {l e:List Nat},Jiw xs l=some e->J0O.entsOfL (xs.map (J0a L)) (l.map .whole)=e.map .whole
 |[],l,e,h=>by injection h with h;subst h;rfl
 |x::r,l,e,h=>by
  simp only[Jiw]at h;split at h
  ·rename_i g h1;simp only[J0I,J0O.entsOfL,JDP L h1];exact JcT h
  ·cases h
theorem JP5{x:TA}{l e:List Nat}(h:JKK x l=some e):J0O (J1h L x) (l.map .whole)=e.map .whole:=by
 cases x with
 |c x=>exact JDP L h
 |dt t x=>injection h with h;subst h;rfl
 |m t cs=>exact JcT L h
 |fn f a c=>
  simp only[JKK]at h;split at h
  ·rename_i g h1;simp only[J1h,J0O,JcT L h1];exact JcT L h
  ·cases h
theorem Jhd: ∀{xs:List TA} {l e:List Nat},Jk4 xs l=some e->J0O.entsOfL (xs.map (J1h L)) (l.map .whole)=e.map .whole
 |[],l,e,h=>by injection h with h;subst h;rfl
 |x::r,l,e,h=>by
  simp only[Jk4]at h;split at h
  ·rename_i g h1;simp only[J0I,J0O.entsOfL,JP5 L h1];exact Jhd h
  ·cases h
end
theorem Juc{s0 s1:TSt}{ws:List (Nat×Blk)}(f:Fzd s0 s1 ws){b:Nat}{y:TB}(h:s1.sto[b]?=some y):(JiC ws b).run (Ju s0)=some (J0r (lns s0.sto) y):=by
 have h1:(Ju s1).sto[b]?=some (J0r (lns s0.sto) y):=by rw[J1I,h,f.2.1];rfl
 rw[f.2.2.1]at h1;have e:b<(Ju s0).sto.length:=by have:=Ji h1;rw[Jd6]at this;exact this
 have:=Jbj ws (Ju s0).sto b e;simp only at h1;rw[h1]at this;simp only[JiC,J1n,JK e,JJ];split at this
 ·rename_i z hz
  try rw[hz]
  simp only[JH];exact this.symm
 ·rename_i hz
  try rw[hz]
  simp only[JH];rw[JK e]at this;exact this.symm
theorem JaV{s0 s1:TSt}{ws:List (Nat×Blk)}(f:Fzd s0 s1 ws): ∀{r acc l:List Nat},Jhu s1 r acc=some l->(J4g ws (r.map .whole) (acc.map .whole)).run (Ju s0)=some (l.map .whole)
 |[],acc,l,h=>by injection h with h;subst h;rfl
 |b::r,acc,l,h=>by
  simp only[Jhu]at h;split at h
  ·rename_i cs hb;split at h
   ·rename_i e ha;simp only[J0I,J4g,run_bind,Juc f hb,JJ,J0r,JcT (lns s0.sto) ha];exact JaV f h
   ·cases h
  ·rename_i x hn hb;simp only[J0I,J4g,run_bind,Juc f hb,JJ];cases x with
   |mbox t cs=>exact absurd rfl (hn t cs)
   |box t x=>
    simp only[J0r];rw[JA0];exact JaV f h
   |_=>exact JaV f h
  ·cases h
end
end Go.Am
end
section
namespace Go.Am
def kCs(K:List Nat)(L:Nat->Nat):TC->TC
 | .slr c=>if K.any (λx=>x==c)=true then .slo c (L c)else .slr c
 | .ep c i p=>if K.any (λx=>x==c)=true then .epo c (L c) i p else .ep c i p
 |x=>x
def kAs(K:List Nat)(L:Nat->Nat):TA->TA
 | .c x=>.c (kCs K L x)
 | .dt t x=>.dt t x
 | .m t cs=>.m t (cs.map (kCs K L))
 | .fn f a c=>.fn f (a.map (kCs K L)) (c.map (kCs K L))
def kVs(K:List Nat)(L:Nat->Nat):TV->TV
 | .a x=>.a (kAs K L x)
 | .tup vs=>.tup (vs.map (kAs K L))
def kBs(K:List Nat)(L:Nat->Nat):TB->TB
 | .mbox t cs=>.mbox t (cs.map (kCs K L))
 |x=>x
section
variable {K:List Nat} {L L':Nat->Nat} (h: ∀c,K.any (λx=>x==c)=false->L' c=L c)
include h
theorem JSd(x:TC):J0a L' (kCs K L x)=J0a L x:=by
 cases x with
 |slr c=>
  cases e:K.any (λx=>x==c)with
  |true=>simp only[kCs,e,if_true,J0a]
  |false=>simp only[kCs,e,J5V,if_false,J0a,h c e]
 |ep c i p=>
  cases e:K.any (λx=>x==c)with
  |true=>simp only[kCs,e,if_true,J0a]
  |false=>simp only[kCs,e,J5V,if_false,J0a,h c e]
 |_=>rfl
theorem JPZ(xs:List TC):(xs.map (kCs K L)).map (J0a L')=xs.map (J0a L):=by rw[J8Y];exact JyY λx _=>JSd h x
theorem JTZ(x:TA):J1h L' (kAs K L x)=J1h L x:=by cases x<;>simp only[kAs,J1h,JSd h,JPZ h]
theorem JU7(x:TV):J06 L' (kVs K L x)=J06 L x:=by cases x<;>simp only[kVs,J06,JTZ h,J8Y,Function.comp_def]
theorem JTV(x:TB):J0r L' (kBs K L x)=J0r L x:=by cases x<;>simp only[kBs,J0r,JPZ h]
end
theorem JR7(K:List Nat)(L:Nat->Nat)(x:TB):lnB (kBs K L x)=lnB x:=by cases x<;>rfl
theorem JQQ(sto:List TB)(K:List Nat)(L:Nat->Nat)(c:Nat):lns (sto.map (kBs K L)) c=lns sto c:=by
 unfold lns;rw[J2c];cases sto[c]? with
 |none=>rfl
 |some x=>exact JR7 K L x
def Jmk(ws:List (Nat×Bool×TB))(sto:List TB):List TB:=ws.foldl (λσ x=>σ.set x.1 x.2.2) sto
def Je2(ws:List (Nat×Bool×TB))(s:TSt):TSt:=
 match ws with
 |[]=>s
 |ws=>
  let K:=(ws.filter λx=> !x.2.1).map (·.1)
  ⟨s.env.map λy=>(y.1,kVs K (lns s.sto) y.2),Jmk ws (s.sto.map (kBs K (lns s.sto)))⟩
theorem JtR: ∀{ws:List (Nat×Bool×TB)} {sto:List TB} {c:Nat},c∉ws.map (·.1)->(Jmk ws sto)[c]?=sto[c]?
 |[],_,_,_=>rfl
 |x::ws,sto,c,h=>by
  simp only[J0I,J3i,not_or]at h;show(Jmk ws (sto.set x.1 x.2.2))[c]?=_;rw[JtR h.2,JlL (λe=>h.1 e.symm)]
theorem JKb: ∀{ws:List (Nat×Bool×TB)} {sto:List TB},(ws.map (·.1)).Nodup-> ∀x∈ws,x.1<sto.length->(Jmk ws sto)[x.1]?=some x.2.2
 |[],_,_,x,hx,_=>by cases hx
 |y::ws,sto,hn,x,hx,hl=>by
  simp only[J0I,List.nodup_cons]at hn;show(Jmk ws (sto.set y.1 y.2.2))[x.1]?=_;rcases J3i.1 hx with rfl|hx
  ·rw[JtR hn.1,JpO hl]
  ·exact JKb hn.2 x hx (by simpa using hl)
theorem JF0(f:TB->Blk): ∀(ws:List (Nat×Bool×TB)) (sto:List TB),(Jmk ws sto).map f=upd (ws.map λx=>(x.1,f x.2.2)) (sto.map f)
 |[],_=>rfl
 |x::ws,sto=>by
  show(Jmk ws (sto.set x.1 x.2.2)).map f=upd (ws.map λx=>(x.1,f x.2.2)) ((sto.map f).set x.1 (f x.2.2));rw[JF0 f ws,List.map_set]
theorem JR9{ws:List (Nat×Bool×TB)}{s:TSt}(hn:(ws.map (·.1)).Nodup)(hl: ∀x∈ws,x.1<s.sto.length)(hf: ∀x∈ws,x.2.1=true->lnB x.2.2=lns s.sto x.1):
  Ju (Je2 ws s)=⟨(Ju s).env,upd (ws.map λx=>(x.1,J0r (lns (Je2 ws s).sto) x.2.2)) (Ju s).sto⟩/\ ∀x∈ws,lns (Je2 ws s).sto x.1=lnB x.2.2:=by
 cases ws with
 |nil=>exact⟨rfl,λx hx=>by cases hx⟩
 |cons h ws0=>
  generalize hw:h::ws0=ws at*;have e:Je2 ws s=⟨s.env.map λy=>(y.1,kVs ((ws.filter λx=> !x.2.1).map (·.1)) (lns s.sto) y.2),Jmk ws (s.sto.map (kBs ((ws.filter λx=> !x.2.1).map (·.1)) (lns s.sto)))⟩:=by subst hw;rfl
  have g: ∀x∈ws,lns (Je2 ws s).sto x.1=lnB x.2.2:=λx hx=>by rw[e];unfold lns;rw[JKb hn x hx (by simpa using hl x hx)];rfl
  have hk: ∀c,((ws.filter λx=> !x.2.1).map (·.1)).any (λx=>x==c)=false->lns (Je2 ws s).sto c=lns s.sto c:=by
   intro c hc;by_cases hm:c∈ws.map (·.1)
   ·obtain⟨x,hx,rfl⟩:=J4J.1 hm;cases hx1:x.2.1 with
    |true=>rw[g x hx,hf x hx hx1]
    |false=>
     have:((ws.filter λx=> !x.2.1).map (·.1)).any (λy=>y==x.1)=true:=by rw[List.any_eq_true];exact⟨x.1,J4J.2 ⟨x,List.mem_filter.2 ⟨hx,by simp[hx1]⟩,rfl⟩,by simp⟩
     rw[hc]at this;cases this
   ·rw[e];have:=JQQ s.sto ((ws.filter λx=> !x.2.1).map (·.1)) (lns s.sto) c;rw[<-this];unfold lns;rw[JtR hm]
  refine⟨?_,g⟩;generalize hL:lns (Je2 ws s).sto=L' at*;unfold Ju;rw[hL,e]
  congr 1
  ·show J4D L' (s.env.map λy=>(y.1,kVs _ (lns s.sto) y.2))=J4D _ s.env;unfold J4D;rw[J8Y];exact JyY λy _=>by simp only[Function.comp,JU7 hk]
  ·show(Jmk ws (s.sto.map _)).map (J0r L')=_;rw[JF0,J8Y]
   congr 1
   exact JyY λy _=>JTV hk y
theorem JKd(b:Nat): ∀(ids:List Nat) (k:Nat),J1U (.whole b) (ids.map .whole) k=J4T b ids k
 |[],_=>rfl
 |x::r,k=>by
  simp only[J0I,J1U,J4T];by_cases h:x=b
  ·subst h;simp
  ·simp[h,JKd b r (k+1)]
def JDu(ids:List Nat):TC->Option TC
 | .ptr b p=>(J4T b ids 0).bind λk=>some (.ptr k p)
 | .slr b=>(J4T b ids 0).bind λk=>some (.slr k)
 | .slo b n=>(J4T b ids 0).bind λk=>some (.slo k n)
 | .ep _ _ _=>none
 | .epo _ _ _ _=>none
 |x=>some x
def Jm5(ids:List Nat):List TC->Option (List TC)
 |[]=>some []
 |x::r=>match JDu ids x,Jm5 ids r with
  |some y,some l=>some (y::l)
  |_,_=>none
def JvZ(ids:List Nat):TA->Option TA
 | .c x=>match JDu ids x with
   |some y=>some (.c y)
   |none=>none
 | .dt t x=>some (.dt t x)
 | .m t cs=>match Jm5 ids cs with
   |some l=>some (.m t l)
   |none=>none
 | .fn f a c=>match Jm5 ids a,Jm5 ids c with
   |some a,some c=>some (.fn f a c)
   |_,_=>none
def Jwi(ids:List Nat):List TA->Option (List TA)
 |[]=>some []
 |x::r=>match JvZ ids x,Jwi ids r with
  |some y,some l=>some (y::l)
  |_,_=>none
def JH3(ids:List Nat):TB->Option TB
 | .box t x=>some (.box t x)
 | .mbox t cs=>match Jm5 ids cs with
   |some l=>some (.mbox t l)
   |none=>none
 | .arr w t rows=>some (.arr w t rows)
 | .dead=>none
def Jb6(ids:List Nat)(s:TSt):List Nat->Option (List TB)
 |[]=>some []
 |b::r=>match s.sto[b]? with
  |some x=>match JH3 ids x,Jb6 ids s r with
   |some y,some l=>some (y::l)
   |_,_=>none
  |none=>none
section
variable {ids:List Nat} {L L':Nat->Nat} (hL: ∀b k,J4T b ids 0=some k->L' k=L b)
include hL
theorem JG8{x y:TC}(h:JDu ids x=some y):ren (λe=>J1U e (ids.map .whole) 0) (J0a L x)=some (J0a L' y):=by
 cases x<;>simp only[JDu]at h<;>first
  |(obtain⟨k,hk,h⟩:=J25.1 h
    injection h with h;subst h;simp only[J0a,ren,JKd,hk,J1t]
    try rw[hL _ _ hk]
    done)
  |(injection h with h;subst h;rfl)
  |cases h
theorem Jft: ∀{xs g:List TC},Jm5 ids xs=some g->ren.renL (λe=>J1U e (ids.map .whole) 0) (xs.map (J0a L))=some (g.map (J0a L'))
 |[],g,h=>by injection h with h;subst h;rfl
 |x::r,g,h=>by
  simp only[Jm5]at h;split at h
  ·rename_i y l hy hl;injection h with h;subst h;simp only[J0I,ren.renL,JG8 hL hy,Jft hl]
  ·cases h
theorem JOT{x y:TA}(h:JvZ ids x=some y):ren (λe=>J1U e (ids.map .whole) 0) (J1h L x)=some (J1h L' y):=by
 cases x with
 |c x=>
  simp only[JvZ]at h;split at h
  ·rename_i y hy;injection h with h;subst h;exact JG8 hL hy
  ·cases h
 |dt t x=>injection h with h;subst h;rfl
 |m t cs=>
  simp only[JvZ]at h;split at h
  ·rename_i l hl;injection h with h;subst h;simp only[J1h,ren,Jft hL hl,J1t]
  ·cases h
 |fn f a c=>
  simp only[JvZ]at h;split at h
  ·rename_i g c' ha hc;injection h with h;subst h;simp only[J1h,ren,Jft hL ha,Jft hL hc,JJ,J1t]
  ·cases h
theorem JAc: ∀{xs g:List TA},Jwi ids xs=some g->ren.renL (λe=>J1U e (ids.map .whole) 0) (xs.map (J1h L))=some (g.map (J1h L'))
 |[],g,h=>by injection h with h;subst h;rfl
 |x::r,g,h=>by
  simp only[Jwi]at h;split at h
  ·rename_i y l hy hl;injection h with h;subst h;simp only[J0I,ren.renL,JOT hL hy,JAc hl]
  ·cases h
theorem Jw4{s0 s1:TSt}{ws:List (Nat×Blk)}(f:Fzd s0 s1 ws)(g:lns s0.sto=L): ∀{j:List Nat} {bl:List TB},Jb6 ids s1 j=some bl->
  (J5p ws (λe=>J1U e (ids.map .whole) 0) (j.map .whole)).run (Ju s0)=some (bl.map (J0r L'))
 |[],bl,h=>by injection h with h;subst h;rfl
 |b::r,bl,h=>by
  simp only[Jb6]at h;split at h
  ·rename_i x hb;split at h
   ·rename_i y l hy hl;injection h with h;subst h;have ih:=Jw4 f g hl;have k:=Juc f hb;rw[g]at k;simp only[J0I,J5p,Jme,run_bind,k,JJ];cases x with
    |dead=>cases hy
    |box t x=>
     injection hy with hy;subst hy;have:ren.renL (λe=>J1U e (ids.map .whole) 0) ((cel t x).map AV.p)=some ((cel t x).map AV.p):=JAf (J9m _);simp only[J0r,this,JH,JJ,ih]
    |mbox t cs=>
     simp only[JH3]at hy;split at hy
     ·rename_i o n;injection hy with hy;subst hy;simp only[J0r,Jft hL n,JH,JJ,ih]
     ·cases hy
    |arr w t rows=>
     injection hy with hy;subst hy;simp only[J0r,JH,JJ,ih]
   ·cases h
  ·cases h
end
theorem Jtm{ids:List Nat}{s:TSt}: ∀{e:List Nat} {bl:List TB},Jb6 ids s e=some bl->bl.length=e.length/\ ∀(k b:Nat),e[k]?=some b->lns bl k=lns s.sto b
 |[],bl,h=>by injection h with h;subst h;exact⟨rfl,λk b h=>by simp at h⟩
 |b::r,bl,h=>by
  simp only[Jb6]at h;split at h
  ·rename_i x hb;split at h
   ·rename_i y l hy hl;injection h with h;subst h;obtain⟨h1,h2⟩:=Jtm hl;refine⟨by simp[h1],λk c hk=>?_⟩;cases k with
    |zero=>
     simp at hk;subst hk;unfold lns;rw[hb];show lnB y=lnB x;cases x with
     |dead=>cases hy
     |box t x=>injection hy with hy;subst hy;rfl
     |mbox t cs=>
      simp only[JH3]at hy;split at hy
      ·injection hy with hy;subst hy;rfl
      ·cases hy
     |arr w t rows=>injection hy with hy;subst hy;rfl
    |succ k=>
     have:=h2 k c (by simpa using hk);unfold lns at this⊢;rw[<-this];simp
   ·cases h
  ·cases h
def J5z(ids:List Nat)(new m k:Nat):Option Nat:=if k<ids.length then ids[k]? else if k<m then some (new+(k-ids.length))else none
def JLx(ids:List Nat)(new m:Nat):TC->Option TC
 | .ptr k p=>(J5z ids new m k).bind λb=>some (.ptr b p)
 | .slr k=>(J5z ids new m k).bind λb=>some (.slr b)
 | .slo k n=>(J5z ids new m k).bind λb=>some (.slo b n)
 | .ep k i p=>(J5z ids new m k).bind λb=>some (.ep b i p)
 | .epo k e i p=>(J5z ids new m k).bind λb=>some (.epo b e i p)
 |x=>some x
def Juv(ids:List Nat)(new m:Nat):List TC->Option (List TC)
 |[]=>some []
 |x::r=>match JLx ids new m x,Juv ids new m r with
  |some y,some l=>some (y::l)
  |_,_=>none
def Jxt(ids:List Nat)(new m:Nat):TA->Option TA
 | .c x=>match JLx ids new m x with
   |some y=>some (.c y)
   |none=>none
 | .dt t x=>some (.dt t x)
 | .m t cs=>match Juv ids new m cs with
   |some l=>some (.m t l)
   |none=>none
 | .fn f a c=>match Juv ids new m a,Juv ids new m c with
   |some a,some c=>some (.fn f a c)
   |_,_=>none
def JDk(ids:List Nat)(new m:Nat):List TA->Option (List TA)
 |[]=>some []
 |x::r=>match Jxt ids new m x,JDk ids new m r with
  |some y,some l=>some (y::l)
  |_,_=>none
def JLd(ids:List Nat)(new m:Nat):TV->Option TV
 | .a x=>match Jxt ids new m x with
   |some y=>some (.a y)
   |none=>none
 | .tup vs=>match JDk ids new m vs with
   |some l=>some (.tup l)
   |none=>none
def JuD(ids:List Nat)(new m:Nat):TB->Option TB
 | .box t x=>some (.box t x)
 | .mbox t cs=>match Juv ids new m cs with
   |some l=>some (.mbox t l)
   |none=>none
 | .arr w t rows=>some (.arr w t rows)
 | .dead=>none
section
variable {ids:List Nat} {new m:Nat} {L Lp:Nat->Nat} (hL: ∀k b,J5z ids new m k=some b->Lp b=L k)
theorem JSY{k b o:Nat}(h:J5z ids new m k=some b):bk (ids.map .whole) new (.ptr k o)=some (.ptr b o):=by
 unfold J5z at h;simp only[bk,J1P,J2c];split at h
 ·rename_i hk;rw[if_pos hk,h];rfl
 ·rename_i hk;split at h
  ·injection h with h;rw[if_neg hk,h]
  ·cases h
theorem JSq{k b i n:Nat}(h:J5z ids new m k=some b):bk (ids.map .whole) new (.slr k i n)=some (.slr b i n):=by
 unfold J5z at h;simp only[bk,J1P,J2c];split at h
 ·rename_i hk;rw[if_pos hk,h];rfl
 ·rename_i hk;split at h
  ·injection h with h;rw[if_neg hk,h]
  ·cases h
theorem JTe{k b e i o:Nat}(h:J5z ids new m k=some b):bk (ids.map .whole) new (.ep k e i o)=some (.ep b e i o):=by
 unfold J5z at h;simp only[bk,J1P,J2c];split at h
 ·rename_i hk;rw[if_pos hk,h];rfl
 ·rename_i hk;split at h
  ·injection h with h;rw[if_neg hk,h]
  ·cases h
include hL
theorem JK5{x y:TC}(h:JLx ids new m x=some y):bk (ids.map .whole) new (J0a L x)=some (J0a Lp y):=by
 cases x<;>simp only[JLx]at h<;>first
  |(obtain⟨b,hb,h⟩:=J25.1 h
    injection h with h;subst h;simp only[J0a,JSY hb,JSq hb,JTe hb,hL _ _ hb]
    done)
  |(injection h with h;subst h;rfl)
theorem Jfc: ∀{xs e:List TC},Juv ids new m xs=some e->bk.bkL (ids.map .whole) new (xs.map (J0a L))=some (e.map (J0a Lp))
 |[],e,h=>by injection h with h;subst h;rfl
 |x::r,e,h=>by
  simp only[Juv]at h;split at h
  ·rename_i y l hy hl;injection h with h;subst h;simp only[J0I,bk.bkL,JK5 hL hy,Jfc hl]
  ·cases h
theorem JJu{x y:TA}(h:Jxt ids new m x=some y):bk (ids.map .whole) new (J1h L x)=some (J1h Lp y):=by
 cases x with
 |c x=>
  simp only[Jxt]at h;split at h
  ·rename_i y hy;injection h with h;subst h;exact JK5 hL hy
  ·cases h
 |dt t x=>injection h with h;subst h;rfl
 |m t cs=>
  simp only[Jxt]at h;split at h
  ·rename_i l hl;injection h with h;subst h;simp only[J1h,bk,Jfc hL hl]
  ·cases h
 |fn f a c=>
  simp only[Jxt]at h;split at h
  ·rename_i e c' ha hc;injection h with h;subst h;simp only[J1h,bk,Jfc hL ha,Jfc hL hc]
  ·cases h
theorem JGO: ∀{xs e:List TA},JDk ids new m xs=some e->bk.bkL (ids.map .whole) new (xs.map (J1h L))=some (e.map (J1h Lp))
 |[],e,h=>by injection h with h;subst h;rfl
 |x::r,e,h=>by
  simp only[JDk]at h;split at h
  ·rename_i y l hy hl;injection h with h;subst h;simp only[J0I,bk.bkL,JJu hL hy,JGO hl]
  ·cases h
theorem JQ9{x y:TV}(h:JLd ids new m x=some y):bk (ids.map .whole) new (J06 L x)=some (J06 Lp y):=by
 cases x with
 |a x=>
  simp only[JLd]at h;split at h
  ·rename_i y hy;injection h with h;subst h;exact JJu hL hy
  ·cases h
 |tup vs=>
  simp only[JLd]at h;split at h
  ·rename_i l hl;injection h with h;subst h;simp only[J06,bk,JGO hL hl]
  ·cases h
end
end Go.Am
end
section
namespace Go.Am
structure TG where
 go: ∀{R:Type},FuncId->List TA->List TB->(TV->List (Bool×TB)->Option R)->Option R
def JiP(out:List (Bool×TB)):Nat->Nat:=lns (out.map (·.2))
structure GOk(F:Orc)(G:TG):Prop where
 ok: ∀{R:Type} {f:FuncId} {xs:List TA} {bl:List TB} {kk:TV->List (Bool×TB)->Option R} {r:R},G.go f xs bl kk=some r->
  ∃v out,F f (xs.map (J1h (lns bl))) (bl.map (J0r (lns bl)))=some (J06 (JiP out) v,out.map λx=>J0r (JiP out) x.2)/\
   (∀(k:Nat) x,out[k]?=some (true,x)->k<bl.length->lnB x=lns bl k)/\kk v out=some r
def Jce(ids:List Nat)(new m:Nat):Nat->List (Bool×TB)->Option (List (Nat×Bool×TB))
 |_,[]=>some []
 |k,(s,x)::r=>match J5z ids new m k,JuD ids new m x,Jce ids new m (k+1) r with
  |some b,some y,some l=>some ((b,s&&decide (k<ids.length),y)::l)
  |_,_,_=>none
section
variable {R:Type}
def JMr(e:Bool)(a b n:Nat):Bool:=if e=true then decide (a<=b/\b<=a+n)else decide (b=a+n)
theorem JN5{e:Bool}{a b n:Nat}(h:JMr e a b n=true):(if e=true then a<=b/\b<=a+n else b=a+n)/\a<=b/\b<=a+n:=by
 unfold JMr at h;cases e with
 |true=>simp at h;exact⟨by simpa using h,h⟩
 |false=>simp at h;exact⟨by simpa using h,by omega,by omega⟩
def Jsi(G:TG)(f:FuncId)(args:List (TV×Bool))(e:Bool)(n:Nat)(d:Option Nat)(new:Nat)(s:TSt)(kk:TSt->Option R):Option R:=
 Jx4 args s λxs s1=>
 match Jk4 xs []with
 |none=>none
 |some g=>match Jhu s1 g g with
  |none=>none
  |some h=>match Jhu s1 h h with
   |none=>none
   |some ids=>if J4Z ids=true then
     match Jwi ids xs,Jb6 ids s1 ids with
     |some k,some bl=>G.go f k bl λv out=>
       if JMr e ids.length out.length n=true then
        match JLd ids new out.length v,Jce ids new out.length 0 out with
        |some j,some ws=>if J4Z (ws.map (·.1))=true then kk (J0E d j (Je2 ws s1))else none
        |_,_=>none
       else none
     |_,_=>none
    else none
theorem JHN{ids:List Nat}{new m:Nat}{x y:TB}(h:JuD ids new m x=some y):lnB y=lnB x:=by
 cases x with
 |dead=>cases h
 |box t x=>injection h with h;subst h;rfl
 |mbox t cs=>
  simp only[JuD]at h;split at h
  ·injection h with h;subst h;rfl
  ·cases h
 |arr w t rows=>injection h with h;subst h;rfl
theorem JDM{ids:List Nat}{new m:Nat}: ∀{k:Nat} {out:List (Bool×TB)} {ws:List (Nat×Bool×TB)},Jce ids new m k out=some ws->
  ws.length=out.length/\ ∀(j:Nat) s x,out[j]?=some (s,x)-> ∃b y,J5z ids new m (k+j)=some b/\JuD ids new m x=some y/\ws[j]?=some (b,s&&decide (k+j<ids.length),y)
 |k,[],ws,h=>by injection h with h;subst h;exact⟨rfl,λj s x h=>by simp at h⟩
 |k,(s,x)::r,ws,h=>by
  simp only[Jce]at h;split at h
  ·rename_i b y l hb hy hl;injection h with h;subst h;obtain⟨h1,h2⟩:=JDM hl;refine⟨by simp[h1],λj s' n hj=>?_⟩;cases j with
   |zero=>
    simp at hj;obtain⟨rfl,rfl⟩:=hj;exact⟨b,y,hb,hy,by simp⟩
   |succ j=>
    obtain⟨e,g,q1,q2,q3⟩:=h2 j s' n (by simpa using hj);refine⟨e,g,by rw[<-q1];congr 1;omega,q2,?_⟩;simp only[List.getElem?_cons_succ,q3];rw[show k+1+j=k+(j+1) by omega]
  ·cases h
theorem JPx{l:List Nat}(h:J4Z l=true):l.Nodup:=JeZ h
theorem JJb{ids:List Nat}(h:J4Z ids=true):J4Z ((ids.map Ent.whole).map Ent.id)=true:=by rw[J8Y,show Ent.id∘Ent.whole=id from rfl,List.map_id];exact h
theorem JER{ids:List Nat}{new m:Nat}{L Lp:Nat->Nat}(hL: ∀k b,J5z ids new m k=some b->Lp b=L k){ws0:List (Nat×Blk)}{st:St}: ∀{j:Nat} {es:List Nat} {out:List (Bool×TB)} {ws:List (Nat×Bool×TB)},
  (∀(i:Nat) b,es[i]?=some b->ids[j+i]?=some b)->j+es.length=ids.length->es.length<=out.length->Jce ids new m j out=some ws->
  (J3r ws0 (ids.map .whole) new (es.map .whole) (out.map λx=>J0r L x.2)).run st=some ((ws.take es.length).map λx=>(x.1,J0r Lp x.2.2))
 |j,[],out,ws,_,_,_,h=>by simp[J3r,JH]
 |j,b::es,[],ws,_,_,hl,h=>by simp at hl
 |j,b::es,(s,x)::out,ws,he,hj,hl,h=>by
  simp only[Jce]at h;split at h
  ·rename_i g y l hb hy r;injection h with h;subst h;have ih:=JER hL (ws0:=ws0) (st:=st) (j:=j+1) (es:=es) (out:=out) (ws:=l) (λi c hc=>by have:=he (i+1) c (by simpa using hc);rw[<-this];congr 1;omega) (by simp at hj;omega) (by simpa using hl) r
   have q:g=b:=by have e:=he 0 b (by simp);unfold J5z at hb;rw[if_pos (by simp at hj;omega)]at hb;rw[JaY]at e;rw[hb]at e;injection e
   subst q;simp only[J0I,J3r,run_bind];have n:(J8P ws0 (ids.map .whole) new (.whole g) (J0r L x)).run st=some (g,J0r Lp y):=by
    cases x with
    |dead=>cases hy
    |box t x=>
     injection hy with hy;subst hy;simp only[Jkg,J8P,Jqa (J9m _),JH]
    |mbox t cs=>
     simp only[JuD]at hy;split at hy
     ·rename_i v o;injection hy with hy;subst hy;simp only[Jkl,J8P,Jfc hL o,JH]
     ·cases hy
    |arr w t rows=>
     injection hy with hy;subst hy;simp only[JGG,J8P,JH]
   simp only[n,JJ,ih,JH,JFF,JM3,J0I]
  ·cases h
theorem JFX{ids:List Nat}{new m:Nat}{L Lp:Nat->Nat}(hL: ∀k b,J5z ids new m k=some b->Lp b=L k): ∀{j:Nat} {out:List (Bool×TB)} {ws:List (Nat×Bool×TB)},
  Jce ids new m (ids.length+j) out=some ws->J2I (ids.map .whole) new (new+j) (out.map λx=>J0r L x.2)=some (ws.map λx=>(x.1,J0r Lp x.2.2))
 |j,[],ws,h=>by injection h with h;subst h;rfl
 |j,(s,x)::out,ws,h=>by
  simp only[Jce]at h;split at h
  ·rename_i o y l hb hy n;injection h with h;subst h;have ih:=JFX hL (j:=j+1) n;have g:o=new+j:=by
    unfold J5z at hb;rw[if_neg (by omega)]at hb;split at hb
    ·injection hb with hb;omega
    ·cases hb
   subst g;cases x with
   |dead=>cases hy
   |box t x=>
    injection hy with hy;subst hy;simp only[J0I,Jkg,J2I,Jqa (J9m _)];rw[show new+j+1=new+(j+1) by omega,ih]
   |mbox t cs=>
    simp only[JuD]at hy;split at hy
    ·rename_i q e;injection hy with hy;subst hy;simp only[J0I,Jkl,J2I,Jfc hL e];rw[show new+j+1=new+(j+1) by omega,ih]
    ·cases hy
   |arr w t rows=>
    injection hy with hy;subst hy;simp only[J0I,JGG,J2I];rw[show new+j+1=new+(j+1) by omega,ih]
  ·cases h
theorem Jvr{ids:List Nat}{new m:Nat}: ∀{n k:Nat} {out:List (Bool×TB)} {ws:List (Nat×Bool×TB)},Jce ids new m k out=some ws->Jce ids new m (k+n) (out.drop n)=some (ws.drop n)
 |0,k,out,ws,h=>h
 |n+1,k,[],ws,h=>by injection h with h;subst h;rfl
 |n+1,k,(s,x)::out,ws,h=>by
  simp only[Jce]at h;split at h
  ·rename_i b y l hb hy hl;injection h with h;subst h;have:=Jvr (n:=n) hl;rw[show k+(n+1)=k+1+n by omega];exact this
  ·cases h
theorem JeT{F:Orc}{G:TG}(hG:GOk F G){f:FuncId}{args:List (TV×Bool)}{D:Bool}{n:Nat}{d:Option Nat}{new:Nat}{s:TSt}{kk:TSt->Option R}{r:R}
  (hd:JaO s new n=true) (h:Jsi G f args D n d new s kk=some r):
  ∃xs ws E es B blks v res K fresh,(J3v (args.map (·.2)) (args.map λx=>J06 (lns s.sto) x.1)).run (Ju s)=some (xs,ws)/\
   (J4g ws (J0O.entsOfL xs []) (J0O.entsOfL xs [])).run (Ju s)=some E/\(J4g ws E E).run (Ju s)=some es/\J4Z (es.map Ent.id)=true/\
   ren.renL (λe=>J1U e es 0) xs=some B/\(J5p ws (λe=>J1U e es 0) es).run (Ju s)=some blks/\F f B blks=some res/\
   (if D=true then es.length<=res.2.length/\res.2.length<=es.length+n else res.2.length=es.length+n)/\bk es new res.1=some v/\J2I es new new (res.2.drop es.length)=some fresh/\
   (J3r ws es new es res.2).run (Ju s)=some K/\ ∃s',put d ⟨v,ws++K++fresh⟩ (Ju s)=Ju s'/\kk s'=some r:=by
 unfold Jsi at h;obtain⟨xs,s1,ws,h1,w,h⟩:=JuV (Fzd.refl s) h;rw[Jc9]at w;split at h
 ·cases h
 ·rename_i i0 a4;split at h
  ·cases h
  ·rename_i i1 a0;split at h
   ·cases h
   ·rename_i ids V;split at h
    ·rename_i a8;split at h
     ·rename_i ys bl a2 o;obtain⟨v,out,hF,O,h⟩:=hG.ok h;split at h
      ·rename_i hlen;split at h
       ·rename_i Z g a5 q;split at h
        ·rename_i Y;have e0:J0O.entsOfL (xs.map (J1h (lns s.sto))) []=i0.map .whole:=Jhd (lns s.sto) (l:=[]) a4;have e1:=JaV w a0;have e2:=JaV w V;obtain⟨a3,U⟩:=Jtm o;have hL: ∀b k,J4T b ids 0=some k->lns bl k=lns s.sto b:=by intro b k hk;obtain⟨_,hk⟩:=JgW hk;rw[U k b (by simpa using hk),w.2.1]
         have e3:=JAc hL a2;have e4:=Jw4 hL w rfl o;obtain⟨b1,b2⟩:=JDM q
         have W: ∀(j:Nat),JiP out j=match out[j]? with
           |some x=>lnB x.2
           |none=>0:=by
          intro j;unfold JiP lns;rw[J2c];cases out[j]?<;>rfl
         have C: ∀(k b:Nat),ids[k]?=some b->b<s1.sto.length:=by
          have a6: ∀(H:List Nat) (bl:List TB),Jb6 ids s1 H=some bl-> ∀(k b:Nat),H[k]?=some b->b<s1.sto.length:=by
           intro H
           induction H with
           |nil=>intro bl _ k b hk;simp at hk
           |cons c H ih=>
            intro bl o k b hk;simp only[Jb6]at o;split at o
            ·rename_i x hx;split at o
             ·rename_i y l hy hl;cases k with
              |zero=>simp at hk;subst hk;exact Ji hx
              |succ k=>exact ih l hl k b (by simpa using hk)
             ·cases o
            ·cases o
          exact a6 ids bl o
         have T:s1.sto.length=s.sto.length:=by have:=congrArg (λst=>st.sto.length) w.2.2.1;simpa only[Ju,J1P,Jd6]using this
         obtain⟨Q,S,a9⟩:=JN5 hlen;have M:=J8O hd;have J: ∀x∈g,∃(j:Nat) (P:Bool) (y:TB),out[j]?=some (P,y)/\J5z ids new out.length j=some x.1/\JuD ids new out.length y=some x.2.2/\x.2.1=(P&&decide (j<ids.length)):=by
          intro x hx;obtain⟨j,hj⟩:=J9V hx;have A:j<out.length:=by rw[<-b1];exact Ji hj
          obtain⟨b,y,q1,q2,q3⟩:=b2 j (out[j]'A).1 (out[j]'A).2 (JK A);rw[hj]at q3;injection q3 with q3;rw[zQ6]at q1 q3;exact⟨j,_,_,JK A,by rw[q3];exact q1,by rw[q3];exact q2,by rw[q3];rfl⟩
         have L: ∀x∈g,x.1<s1.sto.length:=by
          intro x hx;obtain⟨j,P,y,q1,q2,q3,q4⟩:=J x hx;unfold J5z at q2;split at q2
          ·exact C j _ q2
          ·split at q2
           ·injection q2 with q2;rw[<-q2,T];exact Ji (M (j-ids.length) (by omega))
           ·cases q2
         have N: ∀x∈g,x.2.1=true->lnB x.2.2=lns s1.sto x.1:=by intro x hx hx1;obtain⟨j,P,y,q1,q2,q3,q4⟩:=J x hx;rw[q4,J02,decide_eq_true_eq]at hx1;obtain⟨rfl,hj⟩:=hx1;rw[JHN q3,O j y q1 (by rw[a3];exact hj)];unfold J5z at q2;rw[if_pos hj]at q2;exact U j _ q2
         obtain⟨w1,w2⟩:=JR9 (JPx Y) L N;have I: ∀k b,J5z ids new out.length k=some b->lns (Je2 g s1).sto b=JiP out k:=by
          intro k b hk;have z:k<out.length:=by
           unfold J5z at hk;split at hk
           ·omega
           ·split at hk
            ·assumption
            ·cases hk
          obtain⟨b',y,q1,q2,q3⟩:=b2 k (out[k]'z).1 (out[k]'z).2 (JK z);rw[zQ6]at q1 q3;rw[q1]at hk;injection hk with hk;subst hk;rw[w2 _ (J0F q3),JHN q2,W,JK z]
         have e5:=JQ9 I a5;have e6:=JER I (ws0:=ws) (st:=Ju s) (j:=0) (es:=ids) (out:=out) (ws:=g) (λi b hb=>by rw[zQ6];exact hb) (by omega) S q;have e7:=JFX I (j:=0) (out:=out.drop ids.length) (ws:=g.drop ids.length) (by have:=Jvr (n:=ids.length) q;rwa[zQ6,<-JaY ids.length]at this);rw[JaY]at e7;refine⟨xs.map (J1h (lns s.sto)),ws,i1.map .whole,ids.map .whole,_,_,J06 (lns (Je2 g s1).sto) Z,_,_,(g.drop ids.length).map (λx=>(x.1,J0r (lns (Je2 g s1).sto) x.2.2)),h1,?_,e2,JJb a8,e3,e4,hF,?_,e5,?_,e6,J0E d Z (Je2 g s1),?_,h⟩
         ·rw[e0];exact e1
         ·simp only[J1P];exact Q
         ·simp only[J1P,<-List.map_drop];exact e7
         ·refine Ja3 ?_ d Z;rw[w1,w.2.2.1]
          congr 1
          rw[Jb1,J1A,<-Jc6,Jz3]
        ·cases h
       ·cases h
      ·cases h
     ·cases h
    ·cases h
end
end Go.Am
end
