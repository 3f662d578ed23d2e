/-
  Parts of a proof.
-/
import Derived.Orders
import Derived.LoopN
import Derived.Scope
import Derived.Below
import Derived.Test.YthnapahopkopbaaGreatM1
set_option linter.unusedSimpArgs false
set_option linter.unusedVariables false
section
namespace Go.Am
theorem J0p.weaken{w:World}{C e:Nat->Nat->Prop}(h: ∀r o,C r o->e r o){x v}(hr:J0p w C x v):J0p w e x v:=by
 induction hr with
 |b x=>exact .b x
 |i k n=>exact .i k n
 |s l=>exact .s l
 |np=>exact .np
 |nf=>exact .nf
 |sl0 esz a cap=>exact .sl0 esz a cap
 |sl esz rows r o cap vals h1 h2 h3 _ ih=>exact .sl esz rows r o cap vals h1 h2 (λi j row x hr hx=>⟨h _ _ (h3 i j row x hr hx).1,(h3 i j row x hr hx).2⟩) ih
 |slc esz rows a _ ih=>exact .slc esz rows a ih
theorem JGn{s c:Sn}(hi:Inv s)(hw:c.w=s.w)(j: ∀k cs,c.σ[k]?=some (.box cs)->JzF c k cs)(n: ∀k wm esz rows,c.σ[k]?=some (.arr wm esz rows)->JzS c k wm esz rows)
  (id:Nat->Nat) (q: ∀k1 k2,k1<c.σ.length->k2<c.σ.length->id k1=id k2->k1=k2) (v: ∀k r o,Wr1 c k r o->Wr1 s (id k) r o)
  (x: ∀r o,c.g.C r o->r<s.w.heap.size/\ ∀k,¬Wr1 c k r o):Inv c:=by
 have e: ∀k r o,Wr1 c k r o->k<c.σ.length:=by
  intro k r o h;unfold Wr1 at h;cases hk:c.σ[k]? with
  |none=>rw[hk]at h;exact h.elim
  |some b=>exact Je hk
 exact⟨j,n,λk1 k2 r o h1 h2=>q k1 k2 (e _ _ _ h1) (e _ _ _ h2) (hi.apart _ _ _ _ (v _ _ _ h1) (v _ _ _ h2)),λr o h=>by rw[hw];exact x r o h⟩
theorem J5N{m ids sto}: ∀{xs e:List AV},fin.finL m ids sto xs=some e->xs.length=e.length/\ ∀(i:Nat) x y,xs[i]?=some x->e[i]?=some y->fin m ids sto x=some y
 |[],e,h=>by simp[fin.finL]at h;subst h;exact⟨rfl,λi x y h=>by simp at h⟩
 |x::xs,e,h=>by
  simp only[fin.finL]at h;split at h
  ·rename_i y l hy hl;injection h with h;subst h;obtain⟨h1,h2⟩:=J5N hl;refine⟨by simp[h1],λi a b ha hb=>?_⟩;cases i with
   |zero=>simp at ha hb;subst ha hb;exact hy
   |succ i=>exact h2 i a b (by simpa using ha) (by simpa using hb)
  ·cases h
theorem Jd3{m ids sto}: ∀{xs e:List Blk},JbI m ids sto xs=some e->xs.length=e.length/\ ∀(i:Nat) x y,xs[i]?=some x->e[i]?=some y->J4R m ids sto x=some y
 |[],e,h=>by simp[JbI]at h;subst h;exact⟨rfl,λi x y h=>by simp at h⟩
 |x::xs,e,h=>by
  simp only[JbI]at h;split at h
  ·rename_i y l hy hl;injection h with h;subst h;obtain⟨h1,h2⟩:=Jd3 hl;refine⟨by simp[h1],λi a b ha hb=>?_⟩;cases i with
   |zero=>simp at ha hb;subst ha hb;exact hy
   |succ i=>exact h2 i a b (by simpa using ha) (by simpa using hb)
  ·cases h
theorem JsT{sto}: ∀{ids:List Nat} {e:List Blk},Jf1 sto ids=some e->ids.length=e.length/\ ∀(i:Nat) b y,ids[i]?=some b->e[i]?=some y->sto[b]?=some y
 |[],e,h=>by simp[Jf1]at h;subst h;exact⟨rfl,λi x y h=>by simp at h⟩
 |x::xs,e,h=>by
  simp only[Jf1]at h;split at h
  ·rename_i y l hy hl;injection h with h;subst h;obtain⟨h1,h2⟩:=JsT hl;refine⟨by simp[h1],λi a b ha hb=>?_⟩;cases i with
   |zero=>simp at ha hb;subst ha hb;exact hy
   |succ i=>exact h2 i a b (by simpa using ha) (by simpa using hb)
  ·cases h
theorem JeR{b:Nat}: ∀{ids:List Nat} {k j:Nat},J4r b ids k=some j->k<=j/\ids[j-k]?=some b
 |[],k,j,h=>by simp[J4r]at h
 |x::r,k,j,h=>by
  simp only[J4r]at h;split at h
  ·rename_i hx;injection h with h;subst h;exact⟨zQ0 _,by simp[hx]⟩
  ·obtain⟨h1,h2⟩:=JeR h;refine⟨by omega,?_⟩;rw[show j-k=(j-(k+1))+1 by omega];simpa using h2
theorem Jx0{b:Nat}: ∀{ids:List Nat} {k:Nat},J4r b ids k=none->b∉ids
 |[],_,_=>by simp
 |x::r,k,h=>by
  simp only[J4r]at h;split at h
  ·cases h
  ·rename_i hx;simp only[J2A,not_or];exact⟨λe=>hx e.symm,Jx0 h⟩
theorem JcT: ∀{l:List Nat},J4w l=true->l.Nodup
 |[],_=>List.nodup_nil
 |x::r,h=>by
  simp only[J4w,JY,Jw6]at h;refine List.nodup_cons.2 ⟨?_,JcT h.2⟩;intro hm;have:r.contains x=true:=by simpa using hm
  rw[this]at h;cases h.1
theorem Jf2{α:Type}: ∀{l:List α},l.Nodup-> ∀{i j:Nat} {x:α},l[i]?=some x->l[j]?=some x->i=j
 |[],_,i,j,x,h,_=>by simp at h
 |y::l,h,i,j,x,h1,h2=>by
  obtain⟨hn,hl⟩:=List.nodup_cons.1 h;cases i with
  |zero=>
   cases j with
   |zero=>rfl
   |succ j=>simp at h1 h2;subst h1;exact absurd (J0F h2) hn
  |succ i=>
   cases j with
   |zero=>simp at h1 h2;subst h2;exact absurd (J0F h1) hn
   |succ j=>exact congrArg (· +1) (Jf2 hl (i:=i) (j:=j) (x:=x) (by simpa using h1) (by simpa using h2))
def JQd(s:Sn)(m:Nat)(ids:List Nat):Nat->Nat->Prop:=λr o=>s.g.C r o\/ ∃b wm esz rows,m<=b/\b∉ids/\s.σ[b]?=some (Blk.arr wm esz rows)/\s.g.μ b=some (r,0)/\o<rows.length*esz
def J6m(s:Sn)(m:Nat)(ids:List Nat)(σ:List Blk):Sn:=
 ⟨σ,⟨λk=>if k<m then s.g.μ k else match ids[k-m]? with
   |some b=>s.g.μ b
   |none=>none,JQd s m ids⟩,s.w⟩
section
variable {s:Sn} {m:Nat} {ids:List Nat} {l q q':List Blk}
def J5V(m:Nat)(ids:List Nat)(k:Nat):Nat:=if k<m then k else(ids[k-m]?).getD 0
structure JHM(s:Sn)(m:Nat)(ids:List Nat)(σ:List Blk):Prop where
 inv:Inv s
 le:m<=s.σ.length
 nodup:ids.Nodup
 ge: ∀b∈ids,m<=b
 len:σ.length=m+ids.length
 blk: ∀k x,σ[k]?=some x-> ∃y,s.σ[J5V m ids k]?=some y/\J4R m ids s.σ y=some x
variable {σ:List Blk} (h:JHM s m ids σ)
theorem JcW(k:Nat)(hk:k<m+ids.length):(J6m s m ids σ).g.μ k=s.g.μ (J5V m ids k):=by
 simp only[J6m,J5V];split
 ·rfl
 ·have:k-m<ids.length:=by omega
  simp[this]
include h in
theorem Juk{k:Nat}{x:Blk}(hk:σ[k]?=some x):k<m+ids.length/\ ∃y,s.σ[J5V m ids k]?=some y/\J4R m ids s.σ y=some x:=by have:=Je hk;exact⟨by rw[<-h.len];exact this,h.blk k x hk⟩
include h in
theorem JnZ{b k:Nat}{y:Blk}(g:J5V m ids k=b)(hk:k<m+ids.length)(hb:s.σ[b]?=some y): ∃x,σ[k]?=some x/\J4R m ids s.σ y=some x:=by
 have e:k<σ.length:=by rw[h.len];exact hk
 obtain⟨j,h1,h2⟩:=h.blk k σ[k] (JF e);rw[g,hb]at h1;injection h1 with h1;subst h1
 exact⟨_,JF e,h2⟩
theorem J8b{k:Nat}(hk:k<m):J5V m ids k=k:=by simp[J5V,hk]
theorem Jv4{b j:Nat}(hj:J4r b ids m=some j):J5V m ids j=b/\j<m+ids.length:=by obtain⟨h1,h2⟩:=JeR hj;have:=Je h2;exact⟨by simp[J5V,h2];omega,by omega⟩
include h in
theorem JvH{x y:AV}{v:Value}(hr:JH s x v):fin m ids s.σ x=some y->JH (J6m s m ids σ) y v:=by
 have F: ∀r o,s.g.C r o->(J6m s m ids σ).g.C r o:=λr o h=>.inl h
 induction hr generalizing y with
 |p c v hp=>intro hf;simp[fin]at hf;subst hf;exact .p _ _ (hp.weaken F)
 |data cs vs h1 h2=>intro hf;simp[fin]at hf;subst hf;exact .data _ _ h1 λi x v hx hv=>(h2 i x v hx hv).weaken F
 |agg cs vs h1 E h2 ih=>
  intro hf;simp only[fin]at hf;split at hf
  ·rename_i l hl;obtain⟨k1,k2⟩:=J5N hl;have G: ∀(i:Nat) y v,l[i]?=some y->vs[i]?=some v->JH (J6m s m ids σ) y v:=by intro i y v hy hv;have z:=Je hy;have hx:cs[i]?=some (cs[i]'(by omega)):=JF _;exact ih i _ v hx hv (k2 i _ y hx hy)
   split at hf
   ·rename_i q hq;injection hf with hf;subst hf;have:=JjK hq;subst this;refine .data _ _ (by simpa[k1]using h1) λi c v hc hv=>?_;have:=G i (.p c) v (by simp[hc]) hv;cases this with|p _ _ h=>exact h
   ·injection hf with hf;subst hf;exact .agg _ _ (by omega) E G
  ·cases hf
 |tup cs vs h1 h2 ih=>
  intro hf;simp only[fin]at hf;split at hf
  ·rename_i l hl;injection hf with hf;subst hf;obtain⟨k1,k2⟩:=J5N hl;refine .tup _ _ (by omega) λi y v hy hv=>?_;have z:=Je hy;have hx:cs[i]?=some (cs[i]'(by omega)):=JF _;exact ih i _ v hx hv (k2 i _ y hx hy)
  ·cases hf
 |ptr b off r o hm hb=>
  intro hf;obtain⟨cs,hb⟩:=hb;have go: ∀k,J5V m ids k=b->k<m+ids.length->JH (J6m s m ids σ) (.ptr k off) (.pointer (some ⟨r,o+off,none⟩)):=by
   intro k A hk;obtain⟨x,hx,w⟩:=JnZ h A hk hb;simp only[J4R]at w;split at w
   ·injection w with w;subst w;exact .ptr k off r o (by rw[JcW k hk,A];exact hm) ⟨_,hx⟩
   ·cases w
  simp only[fin]at hf;split at hf
  ·rename_i z;injection hf with hf;subst hf;exact go b (J8b z) (by omega)
  ·obtain⟨k,hk,rfl⟩:=J62.1 hf;obtain⟨h1,h2⟩:=Jv4 hk;exact go k h1 h2
 |cp cs off r o vals P Q=>
  intro hf;simp[fin]at hf;subst hf;exact .cp cs off r o vals (λj x hx=>⟨F _ _ (P j x hx).1,(P j x hx).2⟩) λj x hx=>(Q j x hx).weaken F
 |slr b i n v wm esz rows E hb D hv=>
  intro hf;have go: ∀k,J5V m ids k=b->k<m+ids.length->JH (J6m s m ids σ) (.slr k i n) v:=by
   intro k A hk;obtain⟨x,hx,w⟩:=JnZ h A hk hb;simp only[J4R]at w;injection w with w;subst w;refine .slr k i n v wm esz rows E hx D λe=>?_;have N:(J6m s m ids σ).g.μ k=s.g.μ b:=by rw[JcW k hk,A]
   rcases hv e with⟨B,q1,q2,q3⟩|⟨r,cap,c,e1,fz,B,q⟩
   ·exact .inl ⟨by rw[N];exact B,q1,q2,q3⟩
   ·exact .inr ⟨r,cap,c,e1,fz,by rw[N];exact B,q⟩
  simp only[fin]at hf;split at hf
  ·rename_i z;injection hf with hf;subst hf;exact go b (J8b z) (by omega)
  ·rename_i S;split at hf
   ·rename_i k hk;injection hf with hf;subst hf;obtain⟨h1,h2⟩:=Jv4 hk;exact go k h1 h2
   ·rename_i H;rw[hb]at hf;simp only at hf;split at hf
    ·rename_i e;injection hf with hf;subst hf;obtain⟨a,cap,k1,k2,J,K⟩:=J5z.of_slr h.inv (.slr b i n v wm esz rows E hb D hv) hb e;refine .p _ _ (JgE (s:=J6m s m ids σ) k1 k2 J (K.imp id ?_));rintro⟨r,o,rfl,hx⟩;refine⟨r,o,rfl,λk j row x hk hj=>⟨.inr ⟨b,wm,esz,rows,by omega,Jx0 H,hb,?_⟩,?_⟩⟩
     ·rcases hv e with⟨B,q1,q2,q3⟩|⟨r',R,c,e1,fz,B,q1,_⟩
      ·rw[k1]at q3;simp at q3
      ·rw[k1]at q1;injection q1 with v1 v2 v3;injection v1 with v1;injection v1 with v1 v4;subst v1 v4
       refine⟨B,?_⟩;have L:=Je hk;have I:=Je hj;rw[J row (J0F hk)]at I;rw[J9m]at L;have:=J5w (a:=i+k) (b:=j) (n:=rows.length) (e:=esz) (by omega) I;rw[J3H]at this;exact this
     ·obtain⟨u,hu,hr⟩:=hx k j row x hk hj;exact⟨u,hu,hr.weaken F⟩
    ·cases hf
 |ep b ext i off v wm esz rows E hb D hv=>
  intro hf;have go: ∀k,J5V m ids k=b->k<m+ids.length->JH (J6m s m ids σ) (.ep k ext i off) v:=by intro k A hk;obtain⟨x,hx,w⟩:=JnZ h A hk hb;simp only[J4R]at w;injection w with w;subst w;refine .ep k ext i off v wm esz rows E hx D λe1 e2=>?_;obtain⟨r,B,q⟩:=hv e1 e2;exact⟨r,by rw[JcW k hk,A];exact B,q⟩
  simp only[fin]at hf;split at hf
  ·rename_i z;injection hf with hf;subst hf;exact go b (J8b z) (by omega)
  ·obtain⟨k,hk,rfl⟩:=J62.1 hf;obtain⟨h1,h2⟩:=Jv4 hk;exact go k h1 h2
 |fn f first caps fs cs h1 h2 _ _ O M=>
  intro hf;simp only[fin]at hf;split at hf
  ·rename_i a c ha hc;injection hf with hf;subst hf;obtain⟨k1,k2⟩:=J5N ha;obtain⟨J,K⟩:=J5N hc;refine .fn f a c fs cs (by omega) (by omega) (λi y v hy hv=>?_) (λi y v hy hv=>?_)
   ·have z:=Je hy;have hx:first[i]?=some (first[i]'(by omega)):=JF _
    exact O i _ v hx hv (k2 i _ y hx hy)
   ·have z:=Je hy;have hx:caps[i]?=some (caps[i]'(by omega)):=JF _;exact M i _ v hx hv (K i _ y hx hy)
  ·cases hf
 |unk x=>intro hf;simp[fin]at hf;subst hf;exact .unk x
include h in
theorem JtH(k r o:Nat)(hw:Wr1 (J6m s m ids σ) k r o):k<m+ids.length/\Wr1 s (J5V m ids k) r o:=by
 unfold Wr1 at hw;have g:(J6m s m ids σ).σ=σ:=rfl;rw[g]at hw;cases hk:σ[k]? with
 |none=>rw[hk]at hw;exact hw.elim
 |some x=>
  obtain⟨e,y,hy,hf⟩:=Juk h hk;refine⟨e,?_⟩;rw[hk]at hw;rw[JcW k e]at hw;unfold Wr1;rw[hy];cases y with
  |dead=>simp[J4R]at hf;subst hf;exact hw
  |box cs=>
   simp only[J4R]at hf;split at hf
   ·rename_i l hl;injection hf with hf;subst hf;have:=(J5N hl).1;simp only at hw⊢;rw[this];exact hw
   ·cases hf
  |arr w esz rows=>simp[J4R]at hf;subst hf;exact hw
include h in
theorem JG0:Inv (J6m s m ids σ):=by
 have hi:=h.inv;have N: ∀k1 k2,k1<m+ids.length->k2<m+ids.length->J5V m ids k1=J5V m ids k2->k1=k2:=by
  intro k1 k2 h1 h2 he;simp only[J5V]at he;split at he<;>split at he
  ·exact he
  ·rename_i a b;have:k2-m<ids.length:=by omega
   have:=h.ge ids[k2-m] (by simp);simp[show k2-m<ids.length by omega]at he;omega
  ·rename_i a b;have:=h.ge (ids[k1-m]'(by omega)) (by simp);simp[show k1-m<ids.length by omega]at he;omega
  ·have e1:k1-m<ids.length:=by omega
   have e2:k2-m<ids.length:=by omega
   simp[e1,e2]at he;have:=Jf2 h.nodup (JF e1) (by rw[he];exact JF e2);omega
 refine JGn hi rfl ?_ ?_ (J5V m ids) (λk1 k2 h1 h2 he=>N k1 k2 (by rw[<-h.len];exact h1) (by rw[<-h.len];exact h2) he) (λk r o hw=>(JtH h k r o hw).2) ?_
 ·intro k cs hk;obtain⟨g,y,hy,hf⟩:=Juk h hk;cases y with
  |dead=>simp[J4R]at hf
  |arr=>simp[J4R]at hf
  |box A=>
   simp only[J4R]at hf;split at hf
   ·rename_i l hl;injection hf with hf;injection hf with hf;subst hf;obtain⟨k1,k2⟩:=J5N hl;obtain⟨r,o,c,e,fz,hm,B,Q,hx,z⟩:=hi.box _ _ hy;refine⟨r,o,c,e,fz,by rw[JcW k g];exact hm,B,by omega,λi x E=>?_,by rw[<-k1];exact z⟩;have P:=Je E;have H:A[i]?=some (A[i]'(by omega)):=JF _;obtain⟨v,hv,hr,h1⟩:=hx i _ H;exact⟨v,hv,JvH h hr (k2 i _ x H E),h1⟩
   ·cases hf
 ·intro k wm esz rows hk;obtain⟨g,y,hy,hf⟩:=Juk h hk;cases y with
  |dead=>simp[J4R]at hf
  |box A=>simp only[J4R]at hf;split at hf<;>cases hf
  |arr w e S=>
   simp[J4R]at hf;obtain⟨rfl,rfl,rfl⟩:=hf;rcases hi.arr _ _ _ _ hy with⟨hm,hr⟩|⟨r,c,e,fz,hm,B,n,hl,hx,z⟩
   ·exact .inl ⟨by rw[JcW k g];exact hm,hr⟩
   ·refine .inr ⟨r,c,e,fz,by rw[JcW k g];exact hm,B,n,hl,λi j row x h1 h2=>?_,z⟩;obtain⟨⟨v,hv,hr⟩,hc⟩:=hx i j row x h1 h2;exact⟨⟨v,hv,hr.weaken λr o h=>.inl h⟩,λe=>.inl (hc e)⟩
 ·intro r o hc;rcases hc with hc|⟨b,wm,esz,rows,R,O,I,C,G⟩
  ·exact⟨(hi.const r o hc).1,λk hw=>(hi.const r o hc).2 _ (JtH h k r o hw).2⟩
  ·rcases hi.arr _ _ _ _ I with⟨hm,_⟩|⟨r',c,e,fz,hm,B,n,hl,hx,_⟩
   ·rw[C]at hm;cases hm
   ·rw[C]at hm;injection hm with hm;injection hm with hm _;subst hm
    refine⟨J1v B,λk hw=>?_⟩;obtain⟨g,hw⟩:=JtH h k r o hw;have K:J5V m ids k≠b:=by
     intro e;simp only[J5V]at e;split at e
     ·omega
     ·have:k-m<ids.length:=by omega
      simp[this]at e;exact O (by rw[<-e];simp)
    cases wm with
    |true=>
     refine K (hi.apart _ _ _ _ hw ?_);unfold Wr1;rw[I];exact⟨0,C⟩
    |false=>
     have L:0<esz:=by
      rcases JAO esz with J|J
      ·subst J;simp at G
      ·exact J
     have D:o/esz<rows.length:=Nat.div_lt_of_lt_mul (by rw[Jrw];exact G);have q:rows[o/esz]?=some (rows[o/esz]'D):=JF _;have hlen:=n _ (J0F q);have M:o%esz<(rows[o/esz]'D).length:=by rw[hlen];exact Nat.mod_lt _ L
     have F:=(hx _ _ _ _ q (JF M)).2 rfl;have:o/esz*esz+o%esz=o:=by rw[Jrw];exact Nat.div_add_mod o esz
     rw[this]at F;exact(hi.const r o F).2 _ hw
include h in
theorem JwS{E:Sn}(t:J0h E s)(H:E.σ.length<=m):J0h E (J6m s m ids σ):=by
 have hi:=h.inv;refine⟨t.keep,λr o hc=>.inl (t.cmono r o hc),λr o hc=>?_,λr o ⟨k,hw⟩=>t.wnew r o ⟨_,(JtH h k r o hw).2⟩,?_,λb cs hb=>?_,λb wm esz rows hb=>?_⟩
 ·rcases hc with hc|⟨b,wm,esz,rows,G,F,z,q,y⟩
  ·exact t.cnew r o hc
  ·cases wm with
   |true=>
    have:=t.wnew r o ⟨b,by unfold Wr1;rw[z];exact⟨0,q⟩⟩;exact .inr this
   |false=>
    rcases hi.arr _ _ _ _ z with⟨hm,_⟩|⟨r',c,e,fz,hm,I,D,hl,hx,_⟩
    ·rw[q]at hm;cases hm
    ·rw[q]at hm;injection hm with hm;injection hm with hm _;subst hm
     have B:0<esz:=by
      rcases JAO esz with A|A
      ·subst A;simp at y
      ·exact A
     have v:o/esz<rows.length:=Nat.div_lt_of_lt_mul (by rw[Jrw];exact y);have n:rows[o/esz]?=some (rows[o/esz]'v):=JF _;have hlen:=D _ (J0F n);have C:o%esz<(rows[o/esz]'v).length:=by rw[hlen];exact Nat.mod_lt _ B
     have w:=(hx _ _ _ _ n (JF C)).2 rfl;have:o/esz*esz+o%esz=o:=by rw[Jrw];exact Nat.div_add_mod o esz
     rw[this]at w;exact t.cnew r o w
 ·show E.σ.length<=σ.length;rw[h.len];omega
 ·have j:b<m:=by have:=Je hb;omega
  obtain⟨⟨cs',h1,h2⟩,h3⟩:=t.box b cs hb;obtain⟨x,hx,g⟩:=JnZ h (J8b j) (by omega) h1;simp only[J4R]at g;split at g
  ·rename_i l hl;injection g with g;subst g;exact⟨⟨l,hx,by rw[<-(J5N hl).1];exact h2⟩,by rw[JcW b (by omega),J8b j];exact h3⟩
  ·cases g
 ·have j:b<m:=by have:=Je hb;omega
  obtain⟨wm',rows',h1,h2,h3,h4⟩:=t.arr b wm esz rows hb;obtain⟨x,hx,g⟩:=JnZ h (J8b j) (by omega) h1;simp[J4R]at g;subst g;exact⟨wm',rows',hx,h2,h3,λe=>by rw[JcW b (by omega),J8b j];exact h4 e⟩
end
end Go.Am
end
section
namespace Go.Am
def J8R(P:Program)(f:FuncId)(args:List AV)(blks:List Blk)(r:Res):Prop:=
 (∃fn,P.funcs[f]?=some fn∧fn.body.isSome=true∧(fn.name== "runtime.NumGoroutine")=false)∧
 ∀(g:Gh) (w:World) (vals:Array Value),Inv ⟨blks,g,w⟩->args.length=vals.size->(∀(i:Nat) x v,args[i]?=some x->vals[i]?=some v->JH ⟨blks,g,w⟩ x v)->
  Calls P f vals w λe w'=> ∃v g',e=.returned v/\Inv ⟨r.2,g',w'⟩/\J0h ⟨blks,g,w⟩ ⟨r.2,g',w'⟩/\JH ⟨r.2,g',w'⟩ r.1 v
def J57(P:Program)(F:Orc):Prop:= ∀f args blks r,F f args blks=some r->J8R P f args blks r
theorem J5D{e:Ent}: ∀{es:List Ent} {k j:Nat},J1S e es k=some j->k<=j/\es[j-k]?=some e
 |[],k,j,h=>by simp[J1S]at h
 |x::r,k,j,h=>by
  simp only[J1S]at h;split at h
  ·rename_i hx;injection h with h;subst h;exact⟨zQ0 _,by simp[hx]⟩
  ·obtain⟨h1,h2⟩:=J5D h;refine⟨by omega,?_⟩;rw[show j-k=(j-(k+1))+1 by omega];simpa using h2
theorem J5s{ρ:Ent->Option Nat}: ∀{xs e:List AV},ren.renL ρ xs=some e->xs.length=e.length/\ ∀(i:Nat) x y,xs[i]?=some x->e[i]?=some y->ren ρ x=some y
 |[],e,h=>by simp[ren.renL]at h;subst h;exact⟨rfl,λi x y h=>by simp at h⟩
 |x::xs,e,h=>by
  simp only[ren.renL]at h;split at h
  ·rename_i y l hy hl;injection h with h;subst h;obtain⟨h1,h2⟩:=J5s hl;refine⟨by simp[h1],λi a b ha hb=>?_⟩;cases i with
   |zero=>simp at ha hb;subst ha hb;exact hy
   |succ i=>exact h2 i a b (by simpa using ha) (by simpa using hb)
  ·cases h
theorem J6i{es:List Ent}{new:Nat}: ∀{xs e:List AV},bk.bkL es new xs=some e->xs.length=e.length/\ ∀(i:Nat) x y,xs[i]?=some x->e[i]?=some y->bk es new x=some y
 |[],e,h=>by simp[bk.bkL]at h;subst h;exact⟨rfl,λi x y h=>by simp at h⟩
 |x::xs,e,h=>by
  simp only[bk.bkL]at h;split at h
  ·rename_i y l hy hl;injection h with h;subst h;obtain⟨h1,h2⟩:=J6i hl;refine⟨by simp[h1],λi a b ha hb=>?_⟩;cases i with
   |zero=>simp at ha hb;subst ha hb;exact hy
   |succ i=>exact h2 i a b (by simpa using ha) (by simpa using hb)
  ·cases h
def JH4(s:Sn)(ρ:Ent->Option Nat)(e:Ent)(x:Blk):Prop:=
 match e with
 | .whole b=>(∃cs l,s.σ[b]?=some (.box cs)/\ren.renL ρ cs=some l/\x=.box l)\/(∃w esz rows,s.σ[b]?=some (.arr w esz rows)/\x=.arr w esz rows)
 | .elem b ext i=> ∃esz rows row,s.σ[b]?=some (.arr true esz rows)/\ext=rows.length/\rows[i]?=some row/\x=.box (row.map .p)
section
variable {s:Sn} {env:List (Nat×AV)}
theorem JqY{e:List Blk}{ws:List (Nat×Blk)}{b:Nat}{x:Blk}(h:(Jgz ws b).run ⟨env,e⟩=some x):(upd ws e)[b]?=some x:=by
 simp only[Jgz,RM.run]at h;split at h
 ·rename_i y hy;have g:=Je hy;rw[J9I _ _ _ g];split at h
  ·rename_i z hz;simp only[RM.run]at h;injection h with h;subst h;simp[hz]
  ·rename_i hz;simp only[RM.run]at h;injection h with h;subst h;first|exact hy|(simp[hz];exact hy)
 ·cases h
theorem JJ8{j:List Blk}{ws:List (Nat×Blk)}(k:s.σ=upd ws j){ρ:Ent->Option Nat}{e:Ent}{x:Blk}(h:(Jk3 ws ρ e).run ⟨env,j⟩=some x):JH4 s ρ e x:=by
 cases e with
 |whole b=>
  simp only[Jk3]at h;obtain⟨y,h1,h⟩:=bind_some h;have hb:=JqY h1;rw[<-k]at hb;cases y with
  |dead=>cases h
  |box cs=>
   dsimp only at h;split at h
   ·rename_i l hl;simp only[RM.run]at h;injection h with h;subst h
    exact .inl ⟨cs,l,hb,hl,rfl⟩
   ·cases h
  |arr w esz rows=>
   simp only[RM.run]at h;injection h with h;subst h
   exact .inr ⟨w,esz,rows,hb,rfl⟩
 |elem b ext i=>
  simp only[Jk3]at h;obtain⟨y,h1,h⟩:=bind_some h;have hb:=JqY h1;rw[<-k]at hb;cases y with
  |arr w esz rows=>
   cases w
   ·cases h
   ·dsimp only at h;split at h
    ·rename_i he;split at h
     ·rename_i row g;simp only[RM.run]at h;injection h with h;subst h
      exact⟨esz,rows,row,hb,he,g,rfl⟩
     ·cases h
    ·cases h
  |_=>cases h
theorem JsJ{g:List Blk}{ws:List (Nat×Blk)}(j:s.σ=upd ws g){ρ:Ent->Option Nat}: ∀{es:List Ent} {blks:List Blk},(J4P ws ρ es).run ⟨env,g⟩=some blks->
  es.length=blks.length/\ ∀(k:Nat) e x,es[k]?=some e->blks[k]?=some x->JH4 s ρ e x
 |[],blks,h=>by simp only[J4P,RM.run]at h;injection h with h;subst h;exact⟨rfl,λk e x h=>by simp at h⟩
 |e::es,blks,h=>by
  simp only[J4P]at h;obtain⟨x,h1,h⟩:=bind_some h;obtain⟨l,h2,h⟩:=bind_some h;simp only[RM.run]at h;injection h with h;subst h
  obtain⟨k1,k2⟩:=JsJ j h2;refine⟨by simp[k1],λk e' n he hx=>?_⟩;cases k with
  |zero=>simp at he hx;subst he hx;exact JJ8 j h1
  |succ k=>exact k2 k e' n (by simpa using he) (by simpa using hx)
def J71(s:Sn)(es:List Ent)(blks:List Blk):Sn:=
 ⟨blks,⟨λk=>match es[k]? with
   |some (.whole b)=>s.g.μ b
   |some (.elem b _ i)=>(match s.σ[b]? with
    |some (.arr _ esz _)=>(match s.g.μ b with
     |some p=>some (p.1,i*esz)
     |none=>none)
    |_=>none)
   |none=>none,s.g.C⟩,s.w⟩
structure JBd(s:Sn)(es:List Ent)(blks:List Blk):Prop where
 inv:Inv s
 nodup:(es.map Ent.id).Nodup
 len:es.length=blks.length
 blk: ∀(k:Nat) e x,es[k]?=some e->blks[k]?=some x->JH4 s (λe=>J1S e es 0) e x
variable {es:List Ent} {blks:List Blk} (h:JBd s es blks)
include h in
theorem Jbu{k:Nat}{e:Ent}(he:es[k]?=some e): ∃x,blks[k]?=some x/\JH4 s (λe=>J1S e es 0) e x:=by
 have g:=Je he;have:k<blks.length:=by rw[<-h.len];exact g
 exact⟨blks[k],JF this,h.blk k e _ he (JF this)⟩
theorem J4D{k b:Nat}(he:es[k]?=some (.whole b)):(J71 s es blks).g.μ k=s.g.μ b:=by simp[J71,he]
theorem JfZ{k b ext i esz:Nat}{wm rows r}(he:es[k]?=some (.elem b ext i))(hb:s.σ[b]?=some (.arr wm esz rows))(hm:s.g.μ b=some (r,0)):(J71 s es blks).g.μ k=some (r,i*esz):=by simp[J71,he,hb,hm]
include h in
theorem JJw{x y:AV}{v:Value}(hr:JH s x v):ren (λe=>J1S e es 0) x=some y->JH (J71 s es blks) y v:=by
 induction hr generalizing y with
 |p c v hp=>intro hf;simp[ren]at hf;subst hf;exact .p _ _ hp
 |data cs vs h1 h2=>intro hf;simp[ren]at hf;subst hf;exact .data _ _ h1 h2
 |cp cs off r o vals L K=>intro hf;simp[ren]at hf;subst hf;exact .cp cs off r o vals L K
 |unk x=>intro hf;simp[ren]at hf;subst hf;exact .unk x
 |agg cs vs h1 B h2 ih=>
  intro hf;simp only[ren]at hf;obtain⟨l,hl,rfl⟩:=J62.1 hf;obtain⟨k1,k2⟩:=J5s hl;refine .agg _ _ (by omega) B λi y v hy hv=>?_;have z:=Je hy;have hx:cs[i]?=some (cs[i]'(by omega)):=JF _;exact ih i _ v hx hv (k2 i _ y hx hy)
 |tup cs vs h1 h2 ih=>
  intro hf;simp only[ren]at hf;obtain⟨l,hl,rfl⟩:=J62.1 hf;obtain⟨k1,k2⟩:=J5s hl;refine .tup _ _ (by omega) λi y v hy hv=>?_;have z:=Je hy;have hx:cs[i]?=some (cs[i]'(by omega)):=JF _;exact ih i _ v hx hv (k2 i _ y hx hy)
 |ptr b off r o hm hb=>
  intro hf;simp only[ren]at hf;obtain⟨k,hk,rfl⟩:=J62.1 hf;obtain⟨_,hk⟩:=J5D hk;simp only[Jjs]at hk;obtain⟨cs,hb⟩:=hb;obtain⟨x,hx,j⟩:=Jbu h hk;rcases j with⟨cs',l,h1,h2,rfl⟩|⟨w,esz,rows,h1,rfl⟩
  ·exact .ptr k off r o (by rw[J4D hk];exact hm) ⟨l,hx⟩
  ·rw[hb]at h1;cases h1
 |slr b i n v wm esz rows B hb C hv=>
  intro hf;simp only[ren]at hf;obtain⟨k,hk,rfl⟩:=J62.1 hf;obtain⟨_,hk⟩:=J5D hk;simp only[Jjs]at hk;obtain⟨x,hx,j⟩:=Jbu h hk;rcases j with⟨cs',l,h1,h2,rfl⟩|⟨w,D,rows',h1,rfl⟩
  ·rw[hb]at h1;cases h1
  ·rw[hb]at h1;injection h1 with h1;injection h1 with a1 a2 a3;subst a1 a2 a3
   refine .slr k i n v wm esz rows B hx C λe=>?_;have E:(J71 s es blks).g.μ k=s.g.μ b:=J4D hk;rcases hv e with⟨A,q1,q2,q3⟩|⟨r,cap,c,e1,fz,A,q⟩
   ·exact .inl ⟨by rw[E];exact A,q1,q2,q3⟩
   ·exact .inr ⟨r,cap,c,e1,fz,by rw[E];exact A,q⟩
 |ep b ext i off v wm esz rows B hb C hv=>
  intro hf;simp only[ren]at hf;obtain⟨k,hk,rfl⟩:=J62.1 hf;obtain⟨_,hk⟩:=J5D hk;simp only[Jjs]at hk;obtain⟨x,hx,j⟩:=Jbu h hk;obtain⟨D,rows',row,h1,h2,h3,rfl⟩:=j;have H:=h1;rw[hb]at h1;injection h1 with h1;injection h1 with a1 a2 a3;subst a1 a2 a3
  have z:=Je h3;obtain⟨r,A,hv⟩:=hv h2 (by omega);subst hv;exact .ptr k off r (i*esz) (JfZ hk H A) ⟨_,hx⟩
 |fn f first caps fs cs h1 h2 _ _ F I=>
  intro hf;simp only[ren]at hf;obtain⟨O,J,hf⟩:=J2s.1 hf;obtain⟨P,G,rfl⟩:=J62.1 hf;obtain⟨k1,k2⟩:=J5s J;obtain⟨N,M⟩:=J5s G;refine .fn f _ _ fs cs (by omega) (by omega) (λi y v hy hv=>?_) (λi y v hy hv=>?_)
  ·have z:=Je hy;have hx:first[i]?=some (first[i]'(by omega)):=JF _
   exact F i _ v hx hv (k2 i _ y hx hy)
  ·have z:=Je hy;have hx:caps[i]?=some (caps[i]'(by omega)):=JF _;exact I i _ v hx hv (M i _ y hx hy)
def idE(es:List Ent)(k:Nat):Nat:=((es[k]?).map Ent.id).getD 0
theorem Jc6{k:Nat}{e:Ent}(he:es[k]?=some e):idE es k=e.id:=by simp[idE,he]
include h in
theorem Jd4(k r o:Nat)(hw:Wr1 (J71 s es blks) k r o):k<es.length/\Wr1 s (idE es k) r o:=by
 unfold Wr1 at hw;have v:(J71 s es blks).σ=blks:=rfl;rw[v]at hw;cases hk:blks[k]? with
 |none=>rw[hk]at hw;exact hw.elim
 |some x=>
  have n:k<es.length:=by rw[h.len];exact Je hk
  refine⟨n,?_⟩;have e:es[k]?=some es[k]:=JF n;have j:=h.blk k _ x e hk;rw[Jc6 e];rw[hk]at hw;unfold Wr1;cases hcase:es[k]with
  |whole b=>
   rw[hcase]at j e;rcases j with⟨cs',l,h1,h2,rfl⟩|⟨w,q,rows',h1,rfl⟩
   ·simp only[Ent.id];rw[h1];rw[J4D e]at hw;have:=(J5s h2).1;simp only at hw⊢;rw[this];exact hw
   ·simp only[Ent.id];rw[h1];rw[J4D e]at hw;exact hw
  |elem b ext i=>
   rw[hcase]at j e;obtain⟨q,rows',row,h1,h2,h3,rfl⟩:=j;simp only[Ent.id];rw[h1];obtain⟨y,m,_⟩:=hw;have: ∃p,s.g.μ b=some p/\p.1=r:=by
    simp only[J71,e,h1]at m;cases hp:s.g.μ b with
    |none=>simp[hp]at m
    |some p=>simp[hp]at m;exact⟨p,rfl,m.1⟩
   obtain⟨p,hp,hr⟩:=this;exact⟨p.2,by rw[hp,<-hr]⟩
include h in
theorem JP5:Inv (J71 s es blks):=by
 have hi:=h.inv;have hlen:(J71 s es blks).σ.length=es.length:=h.len.symm;refine JGn hi rfl ?_ ?_ (idE es) ?_ (λk r o hw=>(Jd4 h k r o hw).2) (λr o hc=>⟨(hi.const r o hc).1,λk hw=>(hi.const r o hc).2 _ (Jd4 h k r o hw).2⟩)
 ·intro k cs hk;have hk:blks[k]?=some (.box cs):=hk;have A:k<es.length:=by rw[h.len];exact Je hk
  have n:es[k]?=some es[k]:=JF A;have y:=h.blk k _ _ n hk;cases hcase:es[k]with
  |whole b=>
   rw[hcase]at y n;rcases y with⟨cs',l,h1,h2,g⟩|⟨w,q,rows',h1,g⟩
   ·injection g with g;subst g;obtain⟨k1,k2⟩:=J5s h2;obtain⟨r,o,c,e,fz,hm,F,L,hx,B⟩:=hi.box _ _ h1;refine⟨r,o,c,e,fz,by rw[J4D n];exact hm,F,by omega,λi x C=>?_,by rw[<-k1];exact B⟩;have J:=Je C;have D:cs'[i]?=some (cs'[i]'(by omega)):=JF _;obtain⟨v,hv,hr,h1⟩:=hx i _ D;exact⟨v,hv,JJw h hr (k2 i _ x D C),h1⟩
   ·cases g
  |elem b ext i=>
   rw[hcase]at y n;obtain⟨q,rows',row,h1,h2,h3,g⟩:=y;injection g with g;subst g;have E:=Je h3;rcases hi.arr _ _ _ _ h1 with⟨hm,hr⟩|⟨r,c,e,fz,hm,F,G,hl,hx,B⟩
   ·subst hr;simp at h3
   ·have K:=G row (J0F h3);have H:i*q+q<=rows'.length*q:=by have:=zQ7 q (show i+1<=rows'.length from E);rwa[J3H,Jrg]at this
    refine⟨r,i*q,c,e,fz,JfZ n h1 hm,F,by simp;omega,λj x z=>?_,λo h1 h2=>B.1 o (zQ5 _) (by simp at h2;omega)⟩;rw[J29]at z;cases hrj:row[j]? with
    |none=>simp[hrj]at z
    |some I=>
     simp[hrj]at z;subst z;obtain⟨⟨v,hv,hr⟩,_⟩:=hx i j row I h3 hrj;exact⟨v,hv,.p _ _ hr,hr.one⟩
 ·intro k wm esz rows hk;have hk:blks[k]?=some (.arr wm esz rows):=hk;have A:k<es.length:=by rw[h.len];exact Je hk
  have n:es[k]?=some es[k]:=JF A;have y:=h.blk k _ _ n hk;cases hcase:es[k]with
  |whole b=>
   rw[hcase]at y n;rcases y with⟨cs',l,h1,h2,g⟩|⟨w,q,rows',h1,g⟩
   ·cases g
   ·injection g with a1 a2 a3;subst a1 a2 a3;rcases hi.arr _ _ _ _ h1 with⟨hm,hr⟩|⟨r,c,e,fz,hm,hq⟩
    ·exact .inl ⟨by rw[J4D n];exact hm,hr⟩
    ·exact .inr ⟨r,c,e,fz,by rw[J4D n];exact hm,hq⟩
  |elem b ext i=>
   rw[hcase]at y n;obtain⟨q,rows',row,h1,h2,h3,g⟩:=y;cases g
 ·intro k1 k2 h1 h2 he;rw[hlen]at h1 h2;have e1:es[k1]?=some es[k1]:=JF h1;have e2:es[k2]?=some es[k2]:=JF h2;rw[Jc6 e1,Jc6 e2]at he;refine Jf2 h.nodup (x:=es[k1].id) ?_ ?_
  ·rw[J29,e1];rfl
  ·rw[J29,e2,he];rfl
end
end Go.Am
end
section
namespace Go.Am
def JaA(s1:Sn)(es:List Ent)(new:Nat)(σ2:List Blk)(k:Nat)(y:Blk):Prop:=
 match es[k]? with
 |some (.whole b)=>(∃cs l,y=.box cs/\bk.bkL es new cs=some l/\σ2[b]?=some (.box l))\/(∃w esz rows,y=.arr w esz rows/\σ2[b]?=some (.arr w esz rows))
 |some (.elem b _ i)=> ∃w esz rows e,s1.σ[b]?=some (.arr w esz rows)/\y=.box (e.map .p)/\σ2[b]?=some (.arr w esz (rows.set i e))
 |none=>(∃cs l,y=.box cs/\bk.bkL es new cs=some l/\σ2[new+(k-es.length)]?=some (.box l))\/(∃w esz rows,y=.arr w esz rows/\σ2[new+(k-es.length)]?=some (.arr w esz rows))
structure JFX(s1:Sn)(es:List Ent)(blks:List Blk)(new kf:Nat)(c':Sn)(σ2:List Blk):Prop where
 cin:JBd s1 es blks
 inv:Inv c'
 trans:J0h (J71 s1 es blks) c'
 len:c'.σ.length=es.length+kf
 slen:σ2.length=s1.σ.length
 dead: ∀j,j<kf->s1.σ[new+j]?=some .dead
 out: ∀k y,c'.σ[k]?=some y->JaA s1 es new σ2 k y
 same: ∀b,b∉es.map Ent.id->(b<new\/new+kf<=b)->σ2[b]?=s1.σ[b]?
def kOf(es:List Ent)(new kf b:Nat):Option Nat:=
 match J1S (.whole b) es 0 with
 |some k=>some k
 |none=>if new<=b/\b<new+kf/\b∉es.map Ent.id then some (es.length+(b-new))else none
def J3m(s1:Sn)(es:List Ent)(new kf:Nat)(c':Sn)(σ2:List Blk):Sn:=
 ⟨σ2,⟨λb=>match kOf es new kf b with
   |some k=>c'.g.μ k
   |none=>s1.g.μ b,c'.g.C⟩,c'.w⟩
theorem Jsk{e:Ent}: ∀{es:List Ent} {k:Nat},J1S e es k=none->e∉es
 |[],k,_=>by simp
 |x::r,k,h=>by
  simp only[J1S]at h;split at h
  ·cases h
  ·rename_i hx;simp only[J2A,not_or];exact⟨λe=>hx e.symm,Jsk h⟩
section
variable {s1 c':Sn} {es:List Ent} {blks σ2:List Blk} {new kf:Nat} (h:JFX s1 es blks new kf c' σ2)
theorem Je8{k:Nat}{e:Ent}(he:es[k]?=some e):e.id∈es.map Ent.id:=J4i.2 ⟨e,J0F he,rfl⟩
include h in
theorem Jh4{k1 k2:Nat}{e1 e2:Ent}(h1:es[k1]?=some e1)(h2:es[k2]?=some e2)(he:e1.id=e2.id):k1=k2:=
 Jf2 h.cin.nodup (x:=e1.id) (by rw[J29,h1];rfl) (by rw[J29,h2,he];rfl)
include h in
theorem JMD{k:Nat}{e:Ent}(he:es[k]?=some e): ∃y,s1.σ[e.id]?=some y/\y≠.dead:=by
 obtain⟨x,_,g⟩:=Jbu h.cin he;cases e with
 |whole b=>
  rcases g with⟨cs',l,h1,h2,rfl⟩|⟨w,j,rows',h1,rfl⟩
  ·exact⟨_,h1,by simp⟩
  ·exact⟨_,h1,by simp⟩
 |elem b ext i=>
  obtain⟨j,rows',row,h1,h2,h3,rfl⟩:=g;exact⟨_,h1,by simp⟩
include h in
theorem JKg{j:Nat}(hj:j<kf):new+j∉es.map Ent.id:=by intro hm;obtain⟨e,he,g⟩:=J4i.1 hm;obtain⟨k,hk⟩:=J6x he;obtain⟨y,hy,hd⟩:=JMD h hk;rw[g,h.dead j hj]at hy;injection hy with hy;exact hd hy.symm
include h in
theorem JIZ{k b:Nat}(he:es[k]?=some (.whole b)):kOf es new kf b=some k:=by
 unfold kOf;cases hc:J1S (.whole b) es 0 with
 |none=>exact absurd (J0F he) (Jsk hc)
 |some g=>
  obtain⟨_,e⟩:=J5D hc;simp only[Jjs]at e;rw[Jh4 h e he rfl]
include h in
theorem JLI{k b e i:Nat}(he:es[k]?=some (.elem b e i)):kOf es new kf b=none:=by
 unfold kOf;cases hc:J1S (.whole b) es 0 with
 |some j=>
  obtain⟨_,g⟩:=J5D hc;simp only[Jjs]at g;have:=Jh4 h g he rfl;subst this;rw[he]at g;cases g
 |none=>
  have:b∈es.map Ent.id:=Je8 he;simp[this]
include h in
theorem JJg{j:Nat}(hj:j<kf):kOf es new kf (new+j)=some (es.length+j):=by
 unfold kOf;have hn:=JKg h hj;cases hc:J1S (.whole (new+j)) es 0 with
 |some g=>
  obtain⟨_,e⟩:=J5D hc;simp only[Jjs]at e;exact absurd (Je8 e) hn
 |none=>
  simp only;rw[if_pos ⟨by omega,by omega,hn⟩]
  congr 1;omega
theorem Jga{b:Nat}(h1:b∉es.map Ent.id)(h2:b<new\/new+kf<=b):kOf es new kf b=none:=by
 unfold kOf;cases hc:J1S (.whole b) es 0 with
 |some g=>
  obtain⟨_,e⟩:=J5D hc;simp only[Jjs]at e;exact absurd (Je8 e) h1
 |none=>
  simp only;rw[if_neg (by omega)]
def tgt(es:List Ent)(new k:Nat):Nat:=match es[k]? with
 |some e=>e.id
 |none=>new+(k-es.length)
include h in
theorem J8U{k:Nat}(hk:k<es.length+kf)(q: ∀b e i,es[k]?≠some (.elem b e i)):(J3m s1 es new kf c' σ2).g.μ (tgt es new k)=c'.g.μ k:=by
 simp only[J3m,tgt];cases he:es[k]? with
 |some e=>
  cases e with
  |whole b=>simp only[Ent.id];rw[JIZ h he]
  |elem b e i=>exact absurd he (q b e i)
 |none=>
  have n:es.length<=k:=by
   rcases zQ1 k es.length with o|n
   ·rw[JF o]at he;cases he
   ·exact n
  have:=JJg h (j:=k-es.length) (by omega);simp only;rw[this];simp only
  congr 1;omega
include h in
theorem J84{k b ext i:Nat}(he:es[k]?=some (.elem b ext i)): ∃esz rows row r j,s1.σ[b]?=some (.arr true esz rows)/\ext=rows.length/\rows[i]?=some row/\s1.g.μ b=some (r,0)/\
  c'.σ[k]?=some (.box (j.map .p))/\j.length=row.length/\row.length=esz/\c'.g.μ k=some (r,i*esz)/\σ2[b]?=some (.arr true esz (rows.set i j))/\(J3m s1 es new kf c' σ2).g.μ b=some (r,0):=by
 obtain⟨x,hx,v⟩:=Jbu h.cin he;obtain⟨esz,rows,row,h1,h2,h3,rfl⟩:=v;have A:=Je h3;rcases h.cin.inv.arr _ _ _ _ h1 with⟨hm,hr⟩|⟨r,c,e,fz,hm,D,q,hl,C,B⟩
 ·subst hr;simp at h3
 ·obtain⟨⟨cs',q1,q2⟩,q3⟩:=h.trans.box k _ hx;have ho:=h.out k _ q1;unfold JaA at ho;rw[he]at ho;obtain⟨w,y,rows',j,n,o,z⟩:=ho;rw[h1]at n;injection n with n;injection n with a1 a2 a3;subst a1 a2 a3
  injection o with o;subst o;refine⟨esz,rows,row,r,j,h1,h2,h3,hm,q1,by simpa using q2,q row (J0F h3),?_,z,?_⟩
  ·rw[q3,JfZ he h1 hm]
  ·simp only[J3m];rw[JLI h he];exact hm
include h in
theorem JFF{x y:AV}{v:Value}(hr:JH c' x v):bk es new x=some y->JH (J3m s1 es new kf c' σ2) y v:=by
 have C: ∀{k:Nat} {z:Blk},c'.σ[k]?=some z->k<es.length+kf:=λhz=>by rw[<-h.len];exact Je hz
 induction hr generalizing y with
 |p c v hp=>intro hf;simp[bk]at hf;subst hf;exact .p _ _ hp
 |data cs vs h1 h2=>intro hf;simp[bk]at hf;subst hf;exact .data _ _ h1 h2
 |cp cs off r o vals S O=>intro hf;simp[bk]at hf;subst hf;exact .cp cs off r o vals S O
 |unk x=>intro hf;simp[bk]at hf;subst hf;exact .unk x
 |agg cs vs h1 F h2 ih=>
  intro hf;simp only[bk]at hf;split at hf
  ·rename_i l hl;injection hf with hf;subst hf;obtain⟨k1,k2⟩:=J6i hl;refine .agg _ _ (by omega) F λi y v hy hv=>?_;have A:=Je hy;have hx:cs[i]?=some (cs[i]'(by omega)):=JF _;exact ih i _ v hx hv (k2 i _ y hx hy)
  ·cases hf
 |tup cs vs h1 h2 ih=>
  intro hf;simp only[bk]at hf;split at hf
  ·rename_i l hl;injection hf with hf;subst hf;obtain⟨k1,k2⟩:=J6i hl;refine .tup _ _ (by omega) λi y v hy hv=>?_;have A:=Je hy;have hx:cs[i]?=some (cs[i]'(by omega)):=JF _;exact ih i _ v hx hv (k2 i _ y hx hy)
  ·cases hf
 |ptr k off r o hm hb=>
  intro hf;obtain⟨cs,hb⟩:=hb;have hk:=C hb;have ho:=h.out k _ hb;unfold JaA at ho;simp only[bk]at hf;split at hf
  ·rename_i A;have T:es[k]?=some es[k]:=JF A;split at hf
   ·rename_i b he;injection hf with hf;subst hf;have j:=J8U h hk (by rw[he];simp);simp only[tgt,he,Ent.id]at j;rw[he]at ho;rcases ho with⟨cs',l,e1,e2,D⟩|⟨w,esz,rows,e1,e2⟩
    ·exact .ptr b off r o (by rw[j];exact hm) ⟨l,D⟩
    ·cases e1
   ·rename_i b e i he;injection hf with hf;subst hf;obtain⟨esz,rows,row,r',J,W,P,f3,f4,Z,V,U,H,Q,N⟩:=J84 h he;rw[hm]at H;injection H with H;injection H with g1 g2;subst g1 g2
    exact .ep b e i off _ true esz (rows.set i J) ⟨_,_,rfl⟩ Q (by simp[P]) λ_ _=>⟨r,N,rfl⟩
   ·cases hf
  ·rename_i I;injection hf with hf;subst hf;have he:es[k]?=none:=zQ3 (by omega);have j:=J8U h hk (by rw[he];simp);simp only[tgt,he]at j;rw[he]at ho;rcases ho with⟨cs',l,e1,e2,D⟩|⟨w,esz,rows,e1,e2⟩
   ·exact .ptr _ off r o (by rw[j];exact hm) ⟨l,D⟩
   ·cases e1
 |slr k i n v wm esz rows F hb E hv=>
  intro hf;have hk:=C hb;have ho:=h.out k _ hb;unfold JaA at ho;have go: ∀b,(J3m s1 es new kf c' σ2).g.μ b=c'.g.μ k->σ2[b]?=some (.arr wm esz rows)->JH (J3m s1 es new kf c' σ2) (.slr b i n) v:=by
   intro b j K;refine .slr b i n v wm esz rows F K E λe=>?_;rcases hv e with⟨G,q1,q2,q3⟩|⟨r,cap,c,e1,fz,G,q⟩
   ·exact .inl ⟨by rw[j];exact G,q1,q2,q3⟩
   ·exact .inr ⟨r,cap,c,e1,fz,by rw[j];exact G,q⟩
  simp only[bk]at hf;split at hf
  ·rename_i A;split at hf
   ·rename_i b he;injection hf with hf;subst hf;have j:=J8U h hk (by rw[he];simp);simp only[tgt,he,Ent.id]at j;rw[he]at ho;rcases ho with⟨cs',l,e1,e2,D⟩|⟨w,B,rows',e1,e2⟩
    ·cases e1
    ·injection e1 with a1 a2 a3;subst a1 a2 a3;exact go b j e2
   ·cases hf
  ·rename_i I;injection hf with hf;subst hf;have he:es[k]?=none:=zQ3 (by omega);have j:=J8U h hk (by rw[he];simp);simp only[tgt,he]at j;rw[he]at ho;rcases ho with⟨cs',l,e1,e2,D⟩|⟨w,B,rows',e1,e2⟩
   ·cases e1
   ·injection e1 with a1 a2 a3;subst a1 a2 a3;exact go _ j e2
 |ep k ext i off v wm esz rows F hb E hv=>
  intro hf;have hk:=C hb;have ho:=h.out k _ hb;unfold JaA at ho;have go: ∀b,(J3m s1 es new kf c' σ2).g.μ b=c'.g.μ k->σ2[b]?=some (.arr wm esz rows)->JH (J3m s1 es new kf c' σ2) (.ep b ext i off) v:=by intro b j K;refine .ep b ext i off v wm esz rows F K E λe1 e2=>?_;obtain⟨r,G,q⟩:=hv e1 e2;exact⟨r,by rw[j];exact G,q⟩
  simp only[bk]at hf;split at hf
  ·rename_i A;split at hf
   ·rename_i b he;injection hf with hf;subst hf;have j:=J8U h hk (by rw[he];simp);simp only[tgt,he,Ent.id]at j;rw[he]at ho;rcases ho with⟨cs',l,e1,e2,D⟩|⟨w,B,rows',e1,e2⟩
    ·cases e1
    ·injection e1 with a1 a2 a3;subst a1 a2 a3;exact go b j e2
   ·cases hf
  ·rename_i I;injection hf with hf;subst hf;have he:es[k]?=none:=zQ3 (by omega);have j:=J8U h hk (by rw[he];simp);simp only[tgt,he]at j;rw[he]at ho;rcases ho with⟨cs',l,e1,e2,D⟩|⟨w,B,rows',e1,e2⟩
   ·cases e1
   ·injection e1 with a1 a2 a3;subst a1 a2 a3;exact go _ j e2
 |fn f first caps fs cs h1 h2 _ _ M L=>
  intro hf;simp only[bk]at hf;split at hf
  ·rename_i a c ha hc;injection hf with hf;subst hf;obtain⟨k1,k2⟩:=J6i ha;obtain⟨Y,R⟩:=J6i hc;refine .fn f a c fs cs (by omega) (by omega) (λi y v hy hv=>?_) (λi y v hy hv=>?_)
   ·have A:=Je hy;have hx:first[i]?=some (first[i]'(by omega)):=JF _
    exact M i _ v hx hv (k2 i _ y hx hy)
   ·have A:=Je hy;have hx:caps[i]?=some (caps[i]'(by omega)):=JF _;exact L i _ v hx hv (R i _ y hx hy)
  ·cases hf
inductive JGM(es:List Ent)(new kf b:Nat):Prop where
 |out (k:Nat):k<es.length+kf->tgt es new k=b->(∀b e i,es[k]?≠some (.elem b e i))->JGM es new kf b
 |elem (k e i:Nat):es[k]?=some (.elem b e i)->JGM es new kf b
 |other:b∉es.map Ent.id->(b<new\/new+kf<=b)->JGM es new kf b
theorem J8j(b:Nat):JGM es new kf b:=by
 by_cases hm:b∈es.map Ent.id
 ·obtain⟨e,he,g⟩:=J4i.1 hm;obtain⟨k,hk⟩:=J6x he;have n:=Je hk;cases e with
  |whole j=>simp only[Ent.id]at g;subst g;exact .out k (by omega) (by simp[tgt,hk,Ent.id]) (by rw[hk];simp)
  |elem j e' h=>simp only[Ent.id]at g;subst g;exact .elem k e' h hk
 ·by_cases hr:new<=b/\b<new+kf
  ·have he:es[es.length+(b-new)]?=none:=zQ3 (by omega);refine .out (es.length+(b-new)) (by omega) ?_ (by rw[he];simp);simp only[tgt,he];omega
  ·exact .other hm (by omega)
include h in
theorem JmB{k:Nat}(hk:k<es.length+kf)(g: ∀b e i,es[k]?≠some (.elem b e i))(r o:Nat):
  Wr1 (J3m s1 es new kf c' σ2) (tgt es new k) r o↔Wr1 c' k r o:=by
 have x:=J8U h hk g;have q:k<c'.σ.length:=by rw[h.len];exact hk
 have v:c'.σ[k]?=some c'.σ[k]:=JF q;have ho:=h.out k _ v;unfold JaA at ho;unfold Wr1;rw[v,x];have y:(J3m s1 es new kf c' σ2).σ=σ2:=rfl;rw[y];cases he:es[k]? with
 |some e=>
  cases e with
  |whole b=>
   simp only[tgt,he,Ent.id];rw[he]at ho;rcases ho with⟨cs',l,e1,e2,n⟩|⟨w,j,rows',e1,e2⟩
   ·rw[e1,n];simp only;rw[(J6i e2).1]
   ·rw[e1,e2]
  |elem b e i=>exact absurd he (g b e i)
 |none=>
  simp only[tgt,he];rw[he]at ho;rcases ho with⟨cs',l,e1,e2,n⟩|⟨w,j,rows',e1,e2⟩
  ·rw[e1,n];simp only;rw[(J6i e2).1]
  ·rw[e1,e2]
include h in
theorem JgV{k b e i:Nat}(he:es[k]?=some (.elem b e i))(r o:Nat):Wr1 (J3m s1 es new kf c' σ2) b r o↔Wr1 s1 b r o:=by obtain⟨esz,rows,row,r',q,j,A,B,f4,y,z,x,w,v,g⟩:=J84 h he;unfold Wr1;have n:(J3m s1 es new kf c' σ2).σ=σ2:=rfl;rw[n,v,j,g,f4]
include h in
theorem Jr8{b:Nat}(h1:b∉es.map Ent.id)(h2:b<new\/new+kf<=b)(r o:Nat):Wr1 (J3m s1 es new kf c' σ2) b r o↔Wr1 s1 b r o:=by
 unfold Wr1;have j:(J3m s1 es new kf c' σ2).σ=σ2:=rfl;have e:(J3m s1 es new kf c' σ2).g.μ b=s1.g.μ b:=by simp only[J3m];rw[Jga h1 h2]
 rw[j,h.same b h1 h2,e]
include h in
theorem JwJ{r o:Nat}(hw:Wr c' r o):(∃k e,es[k]?=some e/\Wr1 (J71 s1 es blks) k r o/\Wr1 s1 e.id r o)\/s1.w.heap.size<=r:=by
 rcases h.trans.wnew r o hw with⟨k,hk⟩|hn
 ·obtain⟨j,g⟩:=Jd4 h.cin k r o hk;have he:es[k]?=some es[k]:=JF j;rw[Jc6 he]at g;exact .inl ⟨k,_,he,hk,g⟩
 ·exact .inr hn
include h in
theorem JwY:J0h s1 (J3m s1 es new kf c' σ2):=by
 refine⟨?_,λr o hc=>h.trans.cmono r o hc,λr o hc=>?_,λr o ⟨b,hw⟩=>?_,zQ4 h.slen.symm,λb cs hb=>?_,λb wm esz rows hb=>?_⟩
 ·refine h.trans.keep.mono λr o ⟨k,hk⟩=>?_;exact⟨_,(Jd4 h.cin k r o hk).2⟩
 ·rcases h.trans.cnew r o hc with hc|⟨k,hk⟩|hn
  ·exact .inl hc
  ·exact .inr (.inl ⟨_,(Jd4 h.cin k r o hk).2⟩)
  ·exact .inr (.inr hn)
 ·cases J8j (es:=es) (new:=new) (kf:=kf) b with
  |out k hk j g=>
   subst j;rcases JwJ h ⟨k,(JmB h hk g r o).1 hw⟩with⟨Q,e,_,_,D⟩|hn
   ·exact .inl ⟨_,D⟩
   ·exact .inr hn
  |elem k e i he=>exact .inl ⟨b,(JgV h he r o).1 hw⟩
  |other h1 h2=>exact .inl ⟨b,(Jr8 h h1 h2 r o).1 hw⟩
 ·cases J8j (es:=es) (new:=new) (kf:=kf) b with
  |out k hk j g=>
   cases he:es[k]? with
   |none=>
    exfalso;simp only[tgt,he]at j;have n:es.length<=k:=by
     rcases zQ1 k es.length with v|n
     ·rw[JF v]at he;cases he
     ·exact n
    have:=h.dead (k-es.length) (by omega);rw[j,hb]at this;cases this
   |some e=>
    cases e with
    |elem b e i=>exact absurd he (g b e i)
    |whole K=>
     simp only[tgt,he,Ent.id]at j;subst j;obtain⟨x,hx,A⟩:=Jbu h.cin he;rcases A with⟨cs',l,h1,h2,rfl⟩|⟨w,z,rows',h1,rfl⟩
     ·rw[hb]at h1;injection h1 with h1;injection h1 with h1;subst h1
      obtain⟨⟨N,q1,q2⟩,q3⟩:=h.trans.box k _ hx;have ho:=h.out k _ q1;unfold JaA at ho;rw[he]at ho;have y:=J8U h hk g;simp only[tgt,he,Ent.id]at y;rcases ho with⟨H,G,e1,e2,F⟩|⟨w,esz,rows,e1,e2⟩
      ·injection e1 with e1;subst e1;refine⟨⟨G,F,?_⟩,?_⟩
       ·rw[<-(J6i e2).1,q2,(J5s h2).1]
       ·rw[y,q3,J4D he]
      ·cases e1
     ·rw[hb]at h1;cases h1
  |elem k e i he=>
   obtain⟨esz,rows,row,r',C,q,_⟩:=J84 h he;rw[hb]at q;cases q
  |other h1 h2=>
   refine⟨⟨cs,by rw[<-hb];exact h.same b h1 h2,rfl⟩,?_⟩;simp only[J3m];rw[Jga h1 h2]
 ·cases J8j (es:=es) (new:=new) (kf:=kf) b with
  |out k hk j g=>
   cases he:es[k]? with
   |none=>
    exfalso;simp only[tgt,he]at j;have n:es.length<=k:=by
     rcases zQ1 k es.length with v|n
     ·rw[JF v]at he;cases he
     ·exact n
    have:=h.dead (k-es.length) (by omega);rw[j,hb]at this;cases this
   |some e=>
    cases e with
    |elem b e i=>exact absurd he (g b e i)
    |whole K=>
     simp only[tgt,he,Ent.id]at j;subst j;obtain⟨x,hx,A⟩:=Jbu h.cin he;rcases A with⟨cs',l,h1,h2,rfl⟩|⟨w,z,rows',h1,rfl⟩
     ·rw[hb]at h1;cases h1
     ·rw[hb]at h1;injection h1 with h1;injection h1 with a1 a2 a3;subst a1 a2 a3
      obtain⟨wm',B,q1,q2,q3,L⟩:=h.trans.arr k _ _ _ hx;have ho:=h.out k _ q1;unfold JaA at ho;rw[he]at ho;have y:=J8U h hk g;simp only[tgt,he,Ent.id]at y;rcases ho with⟨H,G,e1,e2,F⟩|⟨w,J,I,e1,e2⟩
      ·cases e1
      ·injection e1 with a1 a2 a3;subst a1 a2 a3;exact⟨wm',B,e2,q2,q3,λe=>by rw[y,L e,J4D he]⟩
  |elem k e i he=>
   obtain⟨z,rows',row,r',C,q,T,U,f4,R,S,P,O,M,E⟩:=J84 h he;rw[hb]at q;injection q with q;injection q with a1 a2 a3;subst a1 a2 a3
   exact⟨true,_,M,λ_=>rfl,by simp,λ_=>by rw[E,f4]⟩
  |other h1 h2=>
   refine⟨wm,rows,by rw[<-hb];exact h.same b h1 h2,id,zQ0 _,λ_=>?_⟩;simp only[J3m];rw[Jga h1 h2]
include h in
theorem JMF:Inv (J3m s1 es new kf c' σ2):=by
 have hi:=h.cin.inv;have t:=JwY h;have O: ∀{b},¬(b∈es.map Ent.id\/(new<=b/\b<new+kf))->b∉es.map Ent.id/\(b<new\/new+kf<=b):=λhn=>⟨λhm=>hn (.inl hm),by omega⟩;have D: ∀{k b e i r o},es[k]?=some (.elem b e i)->(Wr1 (J71 s1 es blks) k r o↔Wr1 c' k r o):=by intro k b e i r o he;obtain⟨x,hx,aa⟩:=Jbu h.cin he;obtain⟨esz,rows,row,h1,h2,h3,rfl⟩:=aa;obtain⟨⟨cs',q1,q2⟩,q3⟩:=h.trans.box k _ hx;have a0:(J71 s1 es blks).σ[k]?=some (.box (row.map .p)):=hx;unfold Wr1;rw[a0,q1,q3];simp only[q2]
 have Q: ∀{k b r o},k<es.length+kf->Wr1 c' k r o->Wr1 s1 b r o->(∃n,es[n]?=some (.whole b)\/ ∃e i,es[n]?=some (.elem b e i)/\n=k):=by
  intro k b r o hk hw hb;rcases JwJ h ⟨k,hw⟩with⟨n,e,he,aw,q⟩|hn
  ·have z:=hi.apart _ _ _ _ q hb;cases e with
   |whole b'=>simp only[Ent.id]at z;subst z;exact⟨n,.inl he⟩
   |elem b' e' i'=>
    simp only[Ent.id]at z;subst z;have:=h.inv.apart _ _ _ _ ((D he).1 aw) hw;exact⟨n,.inr ⟨e',i',he,this⟩⟩
  ·have:=JeU hi b r o hb;omega
 refine J7v hi t (λb=>b∈es.map Ent.id\/(new<=b/\b<new+kf)) ?_ ?_ ?_ ?_ ?_ ?_ ?_ ?_
 ·intro b hn;obtain⟨h1,h2⟩:=O hn;exact⟨h.same b h1 h2,by simp only[J3m];rw[Jga h1 h2]⟩
 ·intro b r o v hn hw hv;refine h.trans.keep.cell ?_ hv;rintro⟨k,hk⟩;obtain⟨E,q⟩:=Jd4 h.cin k r o hk;have he:es[k]?=some es[k]:=JF E;rw[Jc6 he]at q;have:=hi.apart _ _ _ _ q hw;exact hn (.inl (this▸Je8 he))
 ·intro b cs hd hb;have hb:σ2[b]?=some (.box cs):=hb;cases J8j (es:=es) (new:=new) (kf:=kf) b with
  |other h1 h2=>rcases hd with hd|hd;exact absurd hd h1;omega
  |elem k e i he=>
   obtain⟨am,rows',row,r',aq,f1,f2,f3,f4,f5,f6,f7,f8,N,al⟩:=J84 h he;rw[hb]at N;cases N
  |out k hk U A=>
   subst U;have E:k<c'.σ.length:=by rw[h.len];exact hk
   have M:c'.σ[k]?=some c'.σ[k]:=JF E;have ho:=h.out k _ M;unfold JaA at ho;have a9: ∃K,c'.σ[k]?=some (.box K)/\bk.bkL es new K=some cs:=by
    cases he:es[k]? with
    |some e=>
     cases e with
     |elem b e i=>exact absurd he (A b e i)
     |whole b'=>
      simp only[tgt,he,Ent.id]at hb;rw[he]at ho;rcases ho with⟨L,l',e1,e2,y⟩|⟨w,I,H,e1,e2⟩
      ·rw[hb]at y;injection y with y;injection y with y;subst y;exact⟨L,by rw[M,e1],e2⟩
      ·rw[hb]at e2;cases e2
    |none=>
     simp only[tgt,he]at hb;rw[he]at ho;rcases ho with⟨L,l',e1,e2,y⟩|⟨w,I,H,e1,e2⟩
     ·rw[hb]at y;injection y with y;injection y with y;subst y;exact⟨L,by rw[M,e1],e2⟩
     ·rw[hb]at e2;cases e2
   obtain⟨K,h0,hl⟩:=a9;obtain⟨k1,k2⟩:=J6i hl;obtain⟨r,o,c,e,fz,hm,hh,bw,hx,a7⟩:=h.inv.box _ _ h0;refine⟨r,o,c,e,fz,by rw[J8U h hk A];exact hm,hh,by omega,λi x ah=>?_,by rw[<-k1];exact a7⟩;have bs:=Je ah;have ai:K[i]?=some (K[i]'(by omega)):=JF _;obtain⟨v,hv,hr,h1⟩:=hx i _ ai;exact⟨v,hv,JFF h hr (k2 i _ x ai ah),h1⟩
 ·intro b wm esz rows hd hb;have hb:σ2[b]?=some (.arr wm esz rows):=hb;cases J8j (es:=es) (new:=new) (kf:=kf) b with
  |other h1 h2=>rcases hd with hd|hd;exact absurd hd h1;omega
  |elem k e i he=>
   obtain⟨am,rows',row,r',aq,f1,f2,f3,f4,f5,f6,f7,f8,N,al⟩:=J84 h he;rw[hb]at N;injection N with N;injection N with a1 a2 a3;subst a1 a2 a3
   have E:=Je f3;rcases hi.arr _ _ _ _ f1 with⟨hm,hr⟩|⟨r,c,e1,fz,hm,hh,P,hl,hx,a7⟩
   ·subst hr;simp at f3
   ·rw[f4]at hm;injection hm with hm;injection hm with hm _;subst hm
    obtain⟨c2,q1,q2,q3⟩:=t.keep.2.1 _ _ _ _ hh;obtain⟨rr,oo,c3,y,bt,m3,T,bh,b4,bj⟩:=h.inv.box _ _ f5;rw[f8]at m3;injection m3 with m3;injection m3 with w1 w2;subst w1 w2
    have aj:c'.w.heap[r']?=some (.cells c2 e1 fz):=q1;rw[aj]at T;injection T with T;injection T with w1 w2 w3;subst w1 w2 w3
    refine .inr ⟨r',c2,e1,fz,al,q1,λbx b8=>?_,by simp;omega,λR j an x0 F Y=>⟨?_,λh=>by cases h⟩,by rw[q2];exact a7⟩
    ·rcases Jvh b8 with hm|hm
     ·exact P _ hm
     ·subst hm;omega
    ·have ac:=Je Y;by_cases ak:R=i
     ·subst ak;rw[Jnp E]at F;injection F with F;subst F;obtain⟨v,hv,hr,_⟩:=b4 j (.p x0) (by simp[Y]);refine⟨v,hv,?_⟩;cases hr with|p _ _ hr=>exact hr
     ·rw[JjD (Ne.symm ak)]at F;obtain⟨⟨v',bd,ay⟩,_⟩:=hx R j an x0 F Y;refine⟨v',?_,ay.mono hi t⟩;have ad:J0B s1.w r' (R*esz+j)=some v':=by rw[J2x hh];exact bd
      have b5:j<esz:=by rw[P _ (J0F F)]at ac;exact ac
      have b0: ¬Wr (J71 s1 es blks) r' (R*esz+j):=by
       rintro⟨n,g⟩;obtain⟨G,q⟩:=Jd4 h.cin n _ _ g;have C:es[n]?=some es[n]:=JF G;rw[Jc6 C]at q;have be:Wr1 s1 b r' (R*esz+j):=by unfold Wr1;rw[f1];exact⟨0,f4⟩
       have z:=hi.apart _ _ _ _ q be;have B:n=k:=Jh4 h C he z;subst B;obtain⟨x,a0,aa⟩:=Jbu h.cin he;obtain⟨I,bf,V,g1,g2,g3,rfl⟩:=aa;rw[f1]at g1;injection g1 with g1;injection g1 with z1 z2 z3;subst z2 z3
       have au:(J71 s1 es blks).σ[n]?=some (.box (V.map .p)):=a0;unfold Wr1 at g;rw[au,JfZ he f1 f4]at g;obtain⟨o0,Z,bu,b6⟩:=g;injection Z with Z;injection Z with _ Z;subst Z;have bn:=P V (J0F g3);simp at b6;rcases zQ1 R i with av|bp
       ·have:=J5w av b5;omega
       ·have:=zQ7 esz (show i+1<=R by omega);rw[J3H,Jrg]at this;omega
      have:=h.trans.keep.cell b0 ad;rw[J2x aj]at this;exact this
  |out k hk U A=>
   subst U;have E:k<c'.σ.length:=by rw[h.len];exact hk
   have M:c'.σ[k]?=some c'.σ[k]:=JF E;have ho:=h.out k _ M;unfold JaA at ho;have a9:c'.σ[k]?=some (.arr wm esz rows):=by
    cases he:es[k]? with
    |some e=>
     cases e with
     |elem b e i=>exact absurd he (A b e i)
     |whole b'=>
      simp only[tgt,he,Ent.id]at hb;rw[he]at ho;rcases ho with⟨L,l',e1,e2,y⟩|⟨w,I,H,e1,e2⟩
      ·rw[hb]at y;cases y
      ·rw[hb]at e2;injection e2 with e2;rw[M,e1,e2]
    |none=>
     simp only[tgt,he]at hb;rw[he]at ho;rcases ho with⟨L,l',e1,e2,y⟩|⟨w,I,H,e1,e2⟩
     ·rw[hb]at y;cases y
     ·rw[hb]at e2;injection e2 with e2;rw[M,e1,e2]
   rcases h.inv.arr _ _ _ _ a9 with⟨hm,hr⟩|⟨r,c,e,fz,hm,hq⟩
   ·exact .inl ⟨by rw[J8U h hk A];exact hm,hr⟩
   ·exact .inr ⟨r,c,e,fz,by rw[J8U h hk A];exact hm,hq⟩
 ·
  intro b1 b2 r o hd h1 h2;cases J8j (es:=es) (new:=new) (kf:=kf) b1 with
  |other g1 g2=>rcases hd with hd|hd;exact absurd hd g1;omega
  |out k1 a8 b9 ab=>
   subst b9;have w1:=(JmB h a8 ab r o).1 h1;cases J8j (es:=es) (new:=new) (kf:=kf) b2 with
   |out k2 S a6 J=>
    subst a6;have w2:=(JmB h S J r o).1 h2;rw[h.inv.apart _ _ _ _ w1 w2]
   |elem k2 e i he=>
    exfalso;have w2:=(JgV h he r o).1 h2;obtain⟨n,g|⟨e',i',g,B⟩⟩:=Q a8 w1 w2
    ·have:=Jh4 h g he rfl;subst this;rw[he]at g;cases g
    ·subst B;exact ab _ _ _ g
   |other g1 g2=>
    exfalso;have w2:=(Jr8 h g1 g2 r o).1 h2;obtain⟨n,g|⟨e',i',g,B⟩⟩:=Q a8 w1 w2
    ·exact g1 (Je8 g)
    ·exact g1 (Je8 g)
  |elem k1 e1 i1 W=>
   have w1:=(JgV h W r o).1 h1;cases J8j (es:=es) (new:=new) (kf:=kf) b2 with
   |out k2 S a6 J=>
    subst a6;exfalso;have w2:=(JmB h S J r o).1 h2;obtain⟨n,g|⟨e',i',g,B⟩⟩:=Q S w2 w1
    ·have:=Jh4 h g W rfl;subst this;rw[W]at g;cases g
    ·subst B;exact J _ _ _ g
   |elem k2 e i he=>exact hi.apart _ _ _ _ w1 ((JgV h he r o).1 h2)
   |other g1 g2=>exact hi.apart _ _ _ _ w1 ((Jr8 h g1 g2 r o).1 h2)
 ·exact λr o hc=>(h.inv.const r o hc).1
 ·intro r o b hc hd hw;cases J8j (es:=es) (new:=new) (kf:=kf) b with
  |other g1 g2=>rcases hd with hd|hd;exact absurd hd g1;omega
  |out k hk U A=>
   subst U;exact(h.inv.const r o hc).2 _ ((JmB h hk A r o).1 hw)
  |elem k e i he=>
   have w1:=(JgV h he r o).1 hw;rcases h.trans.cnew r o hc with a4|⟨n,g⟩|hn
   ·exact(hi.const r o a4).2 _ w1
   ·obtain⟨G,q⟩:=Jd4 h.cin n _ _ g;have C:es[n]?=some es[n]:=JF G;rw[Jc6 C]at q;have z:=hi.apart _ _ _ _ q w1;have B:n=k:=Jh4 h C he z;subst B;exact(h.inv.const r o hc).2 _ ((D he).1 g)
   ·have hn:s1.w.heap.size<=r:=hn;have:=JeU hi _ _ _ w1;omega
 ·intro r o b hc b7 hd hw;rcases h.trans.cnew r o hc with a4|⟨n,g⟩|hn
  ·exact b7 a4
  ·obtain⟨G,q⟩:=Jd4 h.cin n _ _ g;have C:es[n]?=some es[n]:=JF G;rw[Jc6 C]at q;have z:=hi.apart _ _ _ _ q hw;exact hd (.inl (z▸Je8 C))
  ·have hn:s1.w.heap.size<=r:=hn;have:=JeU hi _ _ _ hw;omega
end
end Go.Am
end
section
namespace Go.Am
section
variable {P:Program} {F:Orc} {s:Sn} {a:Act} {env:List (Nat×AV)} {o:Oper} {new:Nat} {e:Eff}
theorem JC7{k:List Blk}(hi:Inv s)(o:Frz k s.σ){x:AV}{y:AV×List (Nat×Blk)}{v:Value}(h:(J8w x).run ⟨env,k⟩=some y)(hr:JH s x v):
  ∃g',Inv ⟨upd y.2 s.σ,g',s.w⟩/\J0h s ⟨upd y.2 s.σ,g',s.w⟩/\Frz s.σ (upd y.2 s.σ)/\JH ⟨upd y.2 s.σ,g',s.w⟩ y.1 v:=by
 have same: ∀{z:AV},(RM.ret (z,[]):RM (AV×List (Nat×Blk))).run ⟨env,k⟩=some y->JH s z v-> ∃g',Inv ⟨upd y.2 s.σ,g',s.w⟩/\J0h s ⟨upd y.2 s.σ,g',s.w⟩/\Frz s.σ (upd y.2 s.σ)/\JH ⟨upd y.2 s.σ,g',s.w⟩ y.1 v:=by
  intro z hz hr;simp only[RM.run]at hz;injection hz with hz;subst hz
  exact⟨s.g,hi,.refl s,.refl _,hr⟩
 cases x with
 |slr b i n=>
  simp only[J8w]at h;obtain⟨q,h1,h⟩:=bind_some h;obtain⟨g',k1,k2,j,c,hc,A⟩:=Ja2 hi o h1 hr;rw[hc]at h;simp only[RM.run]at h;injection h with h;subst h
  exact⟨g',k1,k2,j,.p _ _ A⟩
 |agg cs=>
  simp only[J8w]at h;obtain⟨q,h1,h⟩:=bind_some h;simp only[RM.run]at h;injection h with h;subst h
  obtain⟨g',k1,k2,j,B,r⟩:=JAW hi o h1 hr;cases hr with
  |agg _ vs h1 C h2=>exact⟨g',k1,k2,j,.data _ _ B λi x v hx hv=>r i x v hx hv⟩
 |tup=>simp only[J8w,RM.run]at h;cases h
 |p c=>exact same h hr
 |data cs=>exact same h hr
 |ptr b off=>exact same h hr
 |cp cs off=>exact same h hr
 |ep b e i off=>exact same h hr
 |fn f first caps=>exact same h hr
 |unk=>exact same h hr
theorem JwF{r:List Blk}: ∀{xs:List AV} {s:Sn} {y:List AV×List (Nat×Blk)} {vs:List Value},Inv s->Frz r s.σ->(J6A xs).run ⟨env,r⟩=some y->xs.length=vs.length->
  (∀(i:Nat) x v,xs[i]?=some x->vs[i]?=some v->JH s x v)->
  ∃g',Inv ⟨upd y.2 s.σ,g',s.w⟩/\J0h s ⟨upd y.2 s.σ,g',s.w⟩/\Frz s.σ (upd y.2 s.σ)/\y.1.length=vs.length/\
   ∀(i:Nat) x v,y.1[i]?=some x->vs[i]?=some v->JH ⟨upd y.2 s.σ,g',s.w⟩ x v
 |[],s,y,vs,hi,j,h,hl,hr=>by
  simp only[J6A,RM.run]at h;injection h with h;subst h
  exact⟨s.g,hi,.refl s,.refl _,by simpa using hl,λi c v hc=>by simp at hc⟩
 |x::xs,s,y,[],hi,j,h,hl,hr=>by simp at hl
 |x::xs,s,y,v::vs,hi,j,h,hl,hr=>by
  simp only[J6A]at h;obtain⟨k,h1,h⟩:=bind_some h;obtain⟨G,h2,h⟩:=bind_some h;simp only[RM.run]at h;injection h with h;subst h
  obtain⟨g1,z,q,o,B⟩:=JC7 hi j h1 (hr 0 x v rfl rfl);obtain⟨g2,C,n,D,F,E⟩:=JwF (s:=⟨upd k.2 s.σ,g1,s.w⟩) z (j.trans o) h2 (by simpa using hl) λi x v hx hv=>(hr (i+1) x v (by simpa using hx) (by simpa using hv)).mono hi q;refine⟨g2,by rw[J1t];exact C,by rw[J1t];exact q.trans n,by rw[J1t];exact o.trans D,by simp[F],λi c' A hc' e=>?_⟩;rw[J1t];cases i with
  |zero=>
   simp at hc' e;subst hc' e;exact JH.mono (s0:=⟨upd k.2 s.σ,g1,s.w⟩) (s:=⟨upd G.2 (upd k.2 s.σ),g2,s.w⟩) z n B
  |succ i=>exact E i c' A (by simpa using hc') (by simpa using e)
def JJL(s1:Sn)(es:List Ent)(new:Nat)(e:Ent)(x:Blk)(y:Nat×Blk):Prop:=
 y.1=e.id/\match e with
 | .whole _=>(∃cs l,x=.box cs/\bk.bkL es new cs=some l/\y.2=.box l)\/(∃w esz rows,x=.arr w esz rows/\y.2=.arr w esz rows)
 | .elem b _ i=> ∃w esz rows g,s1.σ[b]?=some (.arr w esz rows)/\x=.box (g.map .p)/\y.2=.arr w esz (rows.set i g)
theorem JHx{j:List Blk}{ws:List (Nat×Blk)}(k:s.σ=upd ws j){es:List Ent}{en:Ent}{x:Blk}{y:Nat×Blk}(h:(J7t ws es new en x).run ⟨env,j⟩=some y):JJL s es new en x y:=by
 unfold J7t at h;split at h
 ·rename_i b cs;split at h
  ·rename_i l hl;simp only[RM.run]at h;injection h with h;subst h
   exact⟨rfl,.inl ⟨cs,l,rfl,hl,rfl⟩⟩
  ·cases h
 ·simp only[RM.run]at h;injection h with h;subst h
  exact⟨rfl,.inr ⟨_,_,_,rfl,rfl⟩⟩
 ·rename_i b ext i cs;obtain⟨z,h1,h⟩:=bind_some h;have hb:=JqY h1;rw[<-k]at hb;cases z with
  |arr w esz rows=>
   dsimp only at h;split at h
   ·rename_i e g;simp only[RM.run]at h;injection h with h;subst h
    exact⟨rfl,w,esz,rows,e,hb,by rw[JjK g],rfl⟩
   ·cases h
  |_=>cases h
 ·cases h
theorem Jqe{n:List Blk}{ws:List (Nat×Blk)}(o:s.σ=upd ws n){es:List Ent}: ∀{g:List Ent} {xs:List Blk} {j:List (Nat×Blk)},(J39 ws es new g xs).run ⟨env,n⟩=some j->
  g.length=j.length/\g.length<=xs.length/\ ∀(k:Nat) en x y,g[k]?=some en->xs[k]?=some x->j[k]?=some y->JJL s es new en x y
 |[],xs,j,h=>by simp only[J39,RM.run]at h;injection h with h;subst h;exact⟨rfl,zQ5 _,λk e x y h=>by simp at h⟩
 |_::_,[],j,h=>by cases h
 |en::g,x::xs,j,h=>by
  simp only[J39]at h;obtain⟨y,h1,h⟩:=bind_some h;obtain⟨l,h2,h⟩:=bind_some h;simp only[RM.run]at h;injection h with h;subst h
  obtain⟨k1,k2,q⟩:=Jqe o h2;refine⟨by simp[k1],by simpa using k2,λk e' v r he hx hy=>?_⟩;cases k with
  |zero=>simp at he hx hy;subst he hx hy;exact JHx o h1
  |succ k=>exact q k e' v r (by simpa using he) (by simpa using hx) (by simpa using hy)
theorem JgC{es:List Ent}: ∀{xs:List Blk} {g:Nat} {e:List (Nat×Blk)},J2I es new g xs=some e->
  xs.length=e.length/\ ∀(j:Nat) x y,xs[j]?=some x->e[j]?=some y->y.1=g+j/\((∃cs l,x=.box cs/\bk.bkL es new cs=some l/\y.2=.box l)\/(∃w esz rows,x=.arr w esz rows/\y.2=.arr w esz rows))
 |[],g,e,h=>by simp[J2I]at h;subst h;exact⟨rfl,λj x y h=>by simp at h⟩
 | .dead::_,g,e,h=>by simp[J2I]at h
 | .box cs::xs,g,e,h=>by
   simp only[J2I]at h;split at h
   ·rename_i c l hc hl;injection h with h;subst h;obtain⟨k1,k2⟩:=JgC hl;refine⟨by simp[k1],λj x y hx hy=>?_⟩;cases j with
    |zero=>simp at hx hy;subst hx hy;exact⟨rfl,.inl ⟨cs,c,rfl,hc,rfl⟩⟩
    |succ j=>obtain⟨h1,h2⟩:=k2 j x y (by simpa using hx) (by simpa using hy);exact⟨by omega,h2⟩
   ·cases h
 | .arr w esz rows::xs,g,e,h=>by
   simp only[J2I]at h;split at h
   ·rename_i l hl;injection h with h;subst h;obtain⟨k1,k2⟩:=JgC hl;refine⟨by simp[k1],λj x y hx hy=>?_⟩;cases j with
    |zero=>simp at hx hy;subst hx hy;exact⟨rfl,.inr ⟨w,esz,rows,rfl,rfl⟩⟩
    |succ j=>obtain⟨h1,h2⟩:=k2 j x y (by simpa using hx) (by simpa using hy);exact⟨by omega,h2⟩
   ·cases h
theorem JwO(b:Nat)(p q:List (Nat×Blk)):J4E b (p++q)=match J4E b q with
  |some y=>some y
  |none=>J4E b p:=by
 induction p with
 |nil=>simp[J4E];cases J4E b q<;>rfl
 |cons x p ih=>
  obtain⟨c,z⟩:=x;simp only[JdO,J4E,ih];cases J4E b q<;>rfl
theorem JqT{b:Nat}{x:Blk}: ∀{ws:List (Nat×Blk)},(ws.map (·.1)).Nodup-> ∀{k:Nat},ws[k]?=some (b,x)->J4E b ws=some x
 |[],_,k,h=>by simp at h
 |(c,z)::r,hn,k,h=>by
  obtain⟨h1,h2⟩:=List.nodup_cons.1 hn;simp only[J4E];cases k with
  |zero=>
   simp at h;obtain⟨rfl,rfl⟩:=h;rw[J5y h1];simp
  |succ k=>rw[JqT h2 (k:=k) (by simpa using h)]
theorem JEn(n k:Nat):((List.range k).map (n+ ·)).Nodup:=by rw[List.Nodup,List.pairwise_map];exact(List.nodup_range (n:=k)).imp λh e=>h (by omega)
theorem JwK(hF:J57 P F){f:FuncId}{ar:List AV×List (Nat×Blk)}{q:Nat}{vals:Array Value}(K: ∀j,j<q->s.σ[new+j]?=some .dead)
  {g1:Gh} (i1:Inv ⟨upd ar.2 s.σ,g1,s.w⟩) (t1:J0h s ⟨upd ar.2 s.σ,g1,s.w⟩) (f1:Frz s.σ (upd ar.2 s.σ)) (l1:ar.1.length=vals.toList.length)
  (r1: ∀(i:Nat) x v,ar.1[i]?=some x->vals.toList[i]?=some v->JH ⟨upd ar.2 s.σ,g1,s.w⟩ x v)
  (h:(J2O F f ar q new).run ⟨env,s.σ⟩=some e)
  (aj: ∀fn,P.funcs[f]?=some fn→fn.body.isSome=true→(fn.name== "runtime.NumGoroutine")=false→(execOp a.eval o).run P s.w=.ok (.enter f vals) s.w):J16 P o a s e:=by
 unfold J2O at h;obtain⟨az,h2,h⟩:=bind_some h;obtain⟨es,h3,h⟩:=bind_some h;split at h
 ·rename_i ai;split at h
  ·cases h
  ·rename_i R aa;obtain⟨blks,h4,h⟩:=bind_some h;split at h
   ·cases h
   ·rename_i r ad;split at h
    ·rename_i Y;obtain⟨k,hlen,hk⟩: ∃k,r.2.length=es.length+k/\k<=q:=⟨r.2.length-es.length,by omega,by omega⟩;have O: ∀j,j<k->s.σ[new+j]?=some .dead:=λj hj=>K j (by omega);clear Y;split at h
     ·rename_i v fresh hv M;obtain⟨n,h5,h⟩:=bind_some h;simp only[RM.run]at h;injection h with h;subst h
      let s1:Sn:=⟨upd ar.2 s.σ,g1,s.w⟩
      obtain⟨bl,a8⟩:=JsJ (s:=s1) rfl h4;have cin:JBd s1 es blks:=⟨i1,JcT ai,bl,a8⟩;obtain⟨⟨fn,ah,S,U⟩,T⟩:=hF f R blks r ad;obtain⟨q1,q2⟩:=J5s aa;have ci:=JP5 cin;have hc:=T (J71 s1 es blks).g s.w vals ci (by rw[<-q1,l1];simp) (λi x v hx hv=>by have z:=Je hx;have a0:ar.1[i]?=some (ar.1[i]'(by omega)):=JF _;exact JJw cin (r1 i _ v a0 (by simpa using hv)) (q2 i _ x a0 hx))
      intro next Q V;simp only[Oper.wp,aj fn ah S U,Oper.upon];refine hc.mono ?_;rintro e w' ⟨rv,g',rfl,ab,L,a6⟩;simp only;obtain⟨b1,b2,b3⟩:=Jqe (s:=s1) rfl h5;obtain⟨n1,n2⟩:=JgC M;have A: ∀j,j<k->s1.σ[new+j]?=some .dead:=λj hj=>f1.2 _ _ (O j hj) (by simp);have b4:(r.2.drop es.length).length=k:=by simp;omega
      have N:n.map (·.1)=es.map Ent.id:=by
       apply JmG;intro i;rw[J29,J29];by_cases z:i<es.length
       ·have e1:es[i]?=some es[i]:=JF z;have e2:n[i]?=some (n[i]'(by omega)):=JF _;have C:r.2[i]?=some (r.2[i]'(by omega)):=JF _;have:=(b3 i _ _ _ e1 C e2).1;rw[e1,e2];simp[this]
       ·rw[zQ3 (by omega),zQ3 (by omega)];rfl
      have G: ∀j,j<k->fresh[j]?=some (new+j,(fresh[j]?.map (·.2)).getD .dead):=by intro j hj;have e1:fresh[j]?=some (fresh[j]'(by omega)):=JF _;have e2:(r.2.drop es.length)[j]?=some ((r.2.drop es.length)[j]'(by omega)):=JF _;have:=(n2 j _ _ e2 e1).1;rw[e1];simp[<-this]
      have a3:(fresh.map (·.1)).Nodup:=by
       have:fresh.map (·.1)=(List.range k).map (new+ ·):=by
        apply JmG;intro j;by_cases hj:j<k
        ·rw[J29,G j hj,J29,JjZ hj];rfl
        ·rw[zQ3 (by simp;omega),zQ3 (by simp;omega)]
       rw[this];exact JEn new k
      have H: ∀b,b∈fresh.map (·.1)↔new<=b/\b<new+k:=by
       intro b;constructor
       ·intro hm;obtain⟨j,hj⟩:=J6x hm;have z:=Je hj;simp at z;rw[J29,G j (by omega)]at hj;simp at hj;omega
       ·intro hm;have:=G (b-new) (by omega);rw[show new+(b-new)=b by omega]at this;exact J4i.2 ⟨_,J0F this,rfl⟩
      have Z:(upd (n++fresh) s1.σ).length=s1.σ.length:=Jbl _ _;have W: ∀{q:Nat} {en:Ent},es[q]?=some en->en.id<s1.σ.length/\ ¬(new<=en.id/\en.id<new+k):=by
       intro q en he;obtain⟨x,_,a2⟩:=Jbu cin he;have hy: ∃y,s1.σ[en.id]?=some y/\y≠.dead:=by
        cases en with
        |whole b=>
         rcases a2 with⟨cs',l,h1,h2,rfl⟩|⟨w,a5,rows',h1,rfl⟩
         ·exact⟨_,h1,by simp⟩
         ·exact⟨_,h1,by simp⟩
        |elem b ext i=>
         obtain⟨a5,rows',row,h1,h2,h3,rfl⟩:=a2;exact⟨_,h1,by simp⟩
       obtain⟨y,hy,hd⟩:=hy;refine⟨Je hy,λhm=>?_⟩;have:=A (en.id-new) (by omega);rw[show new+(en.id-new)=en.id by omega,hy]at this;injection this with this;exact hd this
      have af: ∀{q:Nat} {en:Ent} {y:Nat×Blk},es[q]?=some en->n[q]?=some y->(upd (n++fresh) s1.σ)[en.id]?=some y.2:=by intro q en y he hy;obtain⟨z,ag⟩:=W he;have C:r.2[q]?=some (r.2[q]'(by have:=Je he;omega)):=JF _;have D:=(b3 q en _ y he C hy).1;rw[J9I _ _ _ z,JwO,J5y (by rw[H];exact ag)];simp only;rw[JqT (x:=y.2) (by rw[N];exact cin.nodup) (k:=q) (by rw[hy,<-D])]
      have ac: ∀{j:Nat} {y:Nat×Blk},j<k->fresh[j]?=some y->(upd (n++fresh) s1.σ)[new+j]?=some y.2:=by intro j y hj hy;have z:=Je (A j hj);have e2:(r.2.drop es.length)[j]?=some ((r.2.drop es.length)[j]'(by omega)):=JF _;have D:=(n2 j _ _ e2 hy).1;rw[J9I _ _ _ z,JwO,JqT (x:=y.2) a3 (k:=j) (by rw[hy,<-D])]
      have co:JFX s1 es blks new k ⟨r.2,g',w'⟩ (upd (n++fresh) s1.σ):=by
       refine⟨cin,ab,L,hlen,Z,A,λq y hy=>?_,λb ak b0=>?_⟩
       ·have hy:r.2[q]?=some y:=hy;unfold JaA;cases he:es[q]? with
        |some en=>
         have z:=Je he;have e2:n[q]?=some (n[q]'(by omega)):=JF _;obtain⟨D,I⟩:=b3 q en y _ he hy e2;have J:=af he e2;cases en with
         |whole b=>
          rcases I with⟨cs,l,e1,C,B⟩|⟨w,esz,rows,e1,B⟩
          ·exact .inl ⟨cs,l,e1,C,by rw[<-B];exact J⟩
          ·exact .inr ⟨w,esz,rows,e1,by rw[<-B];exact J⟩
         |elem b ext i=>
          obtain⟨w,esz,rows,a7,e1,C,B⟩:=I;exact⟨w,esz,rows,a7,e1,C,by rw[<-B];exact J⟩
        |none=>
         have a1:es.length<=q:=by
          rcases zQ1 q es.length with z|a1
          ·rw[JF z]at he;cases he
          ·exact a1
         have z:=Je hy;have e2:fresh[q-es.length]?=some (fresh[q-es.length]'(by omega)):=JF _;have C:(r.2.drop es.length)[q-es.length]?=some y:=by rw[J8v,<-hy];congr 1;omega
         obtain⟨D,I⟩:=n2 _ _ _ C e2;have J:=ac (j:=q-es.length) (by omega) e2;rcases I with⟨cs,l,e1,e5,B⟩|⟨w,esz,rows,e1,B⟩
         ·exact .inl ⟨cs,l,e1,e5,by rw[<-B];exact J⟩
         ·exact .inr ⟨w,esz,rows,e1,by rw[<-B];exact J⟩
       ·by_cases z:b<s1.σ.length
        ·rw[J9I _ _ _ z,J5y];rw[J9p,J1Q,N,H];rintro(h|h)
         ·exact ak h
         ·omega
        ·rw[zQ3 (by omega),zQ3 (by omega)]
      have oi:=JMF co;have ot:=JwY co;have E:upd (ar.2++n++fresh) s.σ=upd (n++fresh) s1.σ:=by rw[J7D,J1t]
      refine V rv w' (J3m s1 es new k ⟨r.2,g',w'⟩ (upd (n++fresh) s1.σ)).g ?_ ?_ ?_
      ·rw[E];exact oi
      ·rw[E];exact t1.trans ot
      ·rw[E];exact JFF co a6 hv
     ·cases h
    ·cases h
 ·cases h
theorem JFU{f:FuncId}{args:List AV}{k:Nat}{s:St}(h:(J5b F f args k new).run s=some e): ∃ar,(J6A args).run s=some ar/\(J2O F f ar k new).run s=some e:=by
 unfold J5b at h;obtain⟨ar,h1,h⟩:=bind_some h;obtain⟨q,h2,h⟩:=bind_some h;obtain⟨es,h3,h⟩:=bind_some h;refine⟨ar,h1,?_⟩;unfold J2O;rw[run_bind,h2,JJ,run_bind,h3,JJ];split at h
 ·rename_i n;rw[if_pos n];split at h
  ·cases h
  ·rename_i o g;obtain⟨blks,h4,h⟩:=bind_some h
   try rw[g]
   try dsimp only
   rw[run_bind,h4,JJ];split at h
   ·cases h
   ·rename_i r j
    try rw[j]
    try dsimp only
    split at h
    ·rename_i hlen;rw[if_pos (by omega)];exact h
    ·cases h
 ·cases h
theorem JFS(y:J57 P F)(hi:Inv s){f:FuncId}{args:List AV}{k:Nat}{vals:Array Value}(g: ∀j,j<k->s.σ[new+j]?=some .dead)
  (h:(J5b F f args k new).run ⟨env,s.σ⟩=some e) (hl:args.length=vals.size) (hr: ∀(i:Nat) x v,args[i]?=some x->vals[i]?=some v->JH s x v)
  (n: ∀fn,P.funcs[f]?=some fn→fn.body.isSome=true→(fn.name== "runtime.NumGoroutine")=false→(execOp a.eval o).run P s.w=.ok (.enter f vals) s.w):J16 P o a s e:=by
 obtain⟨ar,h1,h2⟩:=JFU h;obtain⟨g1,A,z,r,B,q⟩:=JwF (vs:=vals.toList) hi (.refl _) h1 (by simpa using hl) (λi x v hx hv=>hr i x v hx (by simpa using hv));exact JwK y g A z r B q h2 n
theorem JIV{o:List Blk}: ∀{m:List Bool} {xs:List AV} {s:Sn} {y:List AV×List (Nat×Blk)} {vs:List Value},Inv s->Frz o s.σ->(J3e m xs).run ⟨env,o⟩=some y->xs.length=vs.length->
  (∀(i:Nat) x v,xs[i]?=some x->vs[i]?=some v->JH s x v)->
  ∃g',Inv ⟨upd y.2 s.σ,g',s.w⟩/\J0h s ⟨upd y.2 s.σ,g',s.w⟩/\Frz s.σ (upd y.2 s.σ)/\y.1.length=vs.length/\
   ∀(i:Nat) x v,y.1[i]?=some x->vs[i]?=some v->JH ⟨upd y.2 s.σ,g',s.w⟩ x v:=by
 intro m xs
 induction xs generalizing m with
 |nil=>
  intro s y vs hi n h hl hr;have h:(RM.ret ([],[]):RM (List AV×List (Nat×Blk))).run ⟨env,o⟩=some y:=by cases m<;>exact h
  simp only[RM.run]at h;injection h with h;subst h
  exact⟨s.g,hi,.refl s,.refl _,by simpa using hl,λi c v hc=>by simp at hc⟩
 |cons x xs ih=>
  intro s y vs hi n h hl hr;cases vs with
  |nil=>simp at hl
  |cons v vs=>
   have q: ∀{A:List Bool},((J8w x).bind λa=>(J3e A xs).bind λc=>.ret (a.1::c.1,a.2++c.2)).run ⟨env,o⟩=some y->
     ∃g',Inv ⟨upd y.2 s.σ,g',s.w⟩/\J0h s ⟨upd y.2 s.σ,g',s.w⟩/\Frz s.σ (upd y.2 s.σ)/\y.1.length=(v::vs).length/\
      ∀(i:Nat) x j,y.1[i]?=some x->(v::vs)[i]?=some j->JH ⟨upd y.2 s.σ,g',s.w⟩ x j:=by
    intro A h;obtain⟨z,h1,h⟩:=bind_some h;obtain⟨H,h2,h⟩:=bind_some h;simp only[RM.run]at h;injection h with h;subst h
    obtain⟨g1,G,F,E,I⟩:=JC7 hi n h1 (hr 0 x v rfl rfl);obtain⟨g2,r,k,B,D,C⟩:=ih (m:=A) (s:=⟨upd z.2 s.σ,g1,s.w⟩) G (n.trans E) h2 (by simpa using hl) λi x v hx hv=>(hr (i+1) x v (by simpa using hx) (by simpa using hv)).mono hi F;refine⟨g2,by rw[J1t];exact r,by rw[J1t];exact F.trans k,by rw[J1t];exact E.trans B,by simp[D],λi c' j hc' e=>?_⟩;rw[J1t];cases i with
    |zero=>
     simp at hc' e;subst hc' e;exact JH.mono (s0:=⟨upd z.2 s.σ,g1,s.w⟩) (s:=⟨upd H.2 (upd z.2 s.σ),g2,s.w⟩) G k I
    |succ i=>exact C i c' j (by simpa using hc') (by simpa using e)
   cases m with
   |nil=>exact q h
   |cons b m=>
    cases b with
    |false=>exact q h
    |true=>
     simp only[J3e]at h;obtain⟨H,h2,h⟩:=bind_some h;simp only[RM.run]at h;injection h with h;subst h
     obtain⟨g2,r,k,B,D,C⟩:=ih (m:=m) hi n h2 (by simpa using hl) λi x v hx hv=>hr (i+1) x v (by simpa using hx) (by simpa using hv);refine⟨g2,r,k,B,by simp[D],λi c' j hc' e=>?_⟩;cases i with
     |zero=>
      simp at hc' e;subst hc' e;exact(hr 0 x v rfl rfl).mono hi k
     |succ i=>exact C i c' j (by simpa using hc') (by simpa using e)
theorem Jdj{f:FuncId}{args:Array Value}{fn:Func}(h1:P.funcs[f]?=some fn)(h2:fn.body.isSome=true)(h3:(fn.name== "runtime.NumGoroutine")=false)(w:World):
  (callFunc f args).run P w=.ok (.enter f args) w:=by
 have e:fn.name≠ "runtime.NumGoroutine" :=by simpa using h3
 have h4:fn.body≠none:=by intro h;rw[h]at h2;cases h2
 simp[callFunc,h1,e,h4]
theorem JMW(A:J57 P F)(hi:Inv s)(he:J0m s a.tmps env){f args k}(n: ∀j,j<k->s.σ[new+j]?=some .dead)(h:(opR F (.call f args k) new).run ⟨env,s.σ⟩=some e)
  (hc:JX P (.call f args k) o.op=true):J16 P o a s e:=by
 simp only[opR]at h;obtain⟨vs,h1,z⟩:=bind_some h;clear h;unfold JX at hc;simp only at hc;split at hc
 ·rename_i c y;split at hc
  ·rename_i g w;simp only[JY,beq_iff_eq]at hc;obtain⟨rfl,q⟩:=hc;obtain⟨l,r⟩:=Jdd he h1 q;refine JFS A hi n z (vals:=c.args.map a.eval) (by simpa using l) (λi x v hx hv=>r i x v hx (by simpa using hv)) λfn g1 g2 B=>?_;simp[execOp,y,resolve,w,Act.eval,Deferred.ofValue,invoke,Jdj g1 g2 B]
  ·cases hc
 ·cases hc
theorem JK3(C:J57 P F)(hi:Inv s)(he:J0m s a.tmps env){f keep args k}(n: ∀j,j<k->s.σ[new+j]?=some .dead)(h:(opR F (.callo f keep args k) new).run ⟨env,s.σ⟩=some e)
  (hc:JX P (.callo f keep args k) o.op=true):J16 P o a s e:=by
 simp only[opR]at h;obtain⟨vs,h1,z⟩:=bind_some h;obtain⟨ar,h2,h3⟩:=bind_some z;clear h z;unfold JX at hc;simp only at hc;split at hc
 ·rename_i c y;split at hc
  ·rename_i g w;simp only[JY,beq_iff_eq]at hc;obtain⟨rfl,q⟩:=hc;obtain⟨l,r⟩:=Jdd he h1 q;obtain⟨g1,E,D,B,G,A⟩:=JIV (vs:=(c.args.map a.eval).toList) hi (.refl _) h2 (by simpa using l) (λi x v hx hv=>r i x v hx (by simpa using hv));refine JwK C n (vals:=c.args.map a.eval) E D B G A h3 λfn g1 g2 H=>?_;simp[execOp,y,resolve,w,Act.eval,Deferred.ofValue,invoke,Jdj g1 g2 H]
  ·cases hc
 ·cases hc
theorem JJZ(J:J57 P F)(hi:Inv s)(he:J0m s a.tmps env){x args k}(g: ∀j,j<k->s.σ[new+j]?=some .dead)(h:(opR F (.callv x args k) new).run ⟨env,s.σ⟩=some e)
  (hc:JX P (.callv x args k) o.op=true):J16 P o a s e:=by
 simp only[opR]at h;obtain⟨u,I,A⟩:=bind_some h;clear h;unfold JX at hc;simp only at hc;split at hc
 ·rename_i c C;split at hc
  ·rename_i y B;simp only[JY]at hc;obtain⟨hx,n⟩:=hc;have E:=J0c he I hx;cases u with
   |fn f first caps=>
    dsimp only at A;obtain⟨vs,h1,D⟩:=bind_some A;obtain⟨l,r⟩:=Jdd he h1 n;generalize hz:a.eval y=z at E;cases E with
    |fn _ _ _ fs cs K M G H=>
     have N:vs.length=c.args.size:=by simpa using l
     refine JFS J hi g D (vals:=fs++c.args.map a.eval++cs) (by simp;omega) (λi x v hx hv=>?_) λfn g1 g2 L=>?_
     ·rcases Jbb hx with hx|⟨q,hx⟩
      ·have w:=Je hx;rw[Jox (by simp at w⊢;omega)]at hv;rcases Jbb hx with hx|⟨q,hx⟩
       ·have w:=Je hx;rw[Jox (by omega)]at hv;exact G i x v hx hv
       ·rw[Array.getElem?_append_right (by omega)]at hv;exact r _ x v hx (by rw[<-K]at hv;simpa using hv)
      ·rw[Array.getElem?_append_right (by simp at q⊢;omega)]at hv;refine H _ x v hx ?_;rw[<-hv];congr 1;simp;omega
     ·simp[execOp,C,resolve,B,hz,Deferred.ofValue,invoke,Jdj g1 g2 L]
   |_=>cases A
  ·cases hc
 ·cases hc
end
end Go.Am
end
section
namespace Go.Am
section
variable {P:Program} {F:Orc} {s:Sn} {a:Act} {env:List (Nat×AV)} {o:Oper} {new:Nat} {e:Eff}
theorem Jru: ∀(os:List (Nat×Nat)) (n:Nat) {s:Sn},Inv s->(∀j,j<os.length->s.σ[n+j]?=some .dead)->
  ∃g',Inv ⟨upd (J4B os n) s.σ,g',s.w⟩/\J0h s ⟨upd (J4B os n) s.σ,g',s.w⟩/\
   (∀j,j<os.length->(∃esz,(upd (J4B os n) s.σ)[n+j]?=some (.arr true esz []))/\g'.μ (n+j)=none)/\
   (∀b,b<n\/n+os.length<=b->(upd (J4B os n) s.σ)[b]?=s.σ[b]?/\g'.μ b=s.g.μ b)
 |[],n,s,hi,_=>⟨s.g,hi,.refl s,λj hj=>by simp at hj,λb _=>⟨rfl,rfl⟩⟩
 |(off,esz)::r,n,s,hi,hd=>by
  obtain⟨q,o⟩:=Jpe hi (hd 0 (by simp)) esz;obtain⟨g',k,h,h1,h2⟩:=Jru r (n+1) (s:=⟨s.σ.set n (.arr true esz []),J4T s.g n none,s.w⟩) q (λj hj=>by show(s.σ.set n _)[n+1+j]?=_;rw[J0u (by omega)];have:=hd (j+1) (by simp;omega);rw[show n+1+j=n+(j+1) by omega];exact this)
  refine⟨g',k,o.trans h,λj hj=>?_,λb hb=>?_⟩
  ·cases j with
   |zero=>
    obtain⟨e1,e2⟩:=h2 n (.inl (by omega));refine⟨⟨esz,?_⟩,?_⟩
    ·show(upd (J4B r (n+1)) (s.σ.set n (.arr true esz [])))[n+0]?=_;rw[J7w];exact e1.trans (J13 (hd 0 (by simp)))
    ·rw[J7w,e2];exact if_pos rfl
   |succ j=>
    have:=h1 j (by simpa using hj);rw[show n+(j+1)=n+1+j by omega];exact this
  ·obtain⟨e1,e2⟩:=h2 b (by simp at hb;omega);have e:n≠b:=by simp at hb;omega
   exact⟨e1.trans (J0u e),e2.trans (if_neg (Ne.symm e))⟩
theorem Js3{t:TypeId}{os:List (Nat×Nat)}{v:Value}(hv:zeT P t=some v)(h:JzP P t os=true): ∀x∈os,v.cells[x.1]?=some (.slice none 0 0):=by
 intro x hx;unfold JzP at h;rw[hv]at h;have:=Jre.1 h x hx;split at this
 ·assumption
 ·cases this
theorem Jry{cells:Array Value}: ∀(os:List (Nat×Nat)) (n:Nat) {cs:List AV},(∀x∈os,cells[x.1]?=some (.slice none 0 0))->
  (∀j,j<os.length->(∃esz,s.σ[n+j]?=some (.arr true esz []))/\s.g.μ (n+j)=none)->
  (∀(i:Nat) x,cs[i]?=some x-> ∃u,cells[i]?=some u/\JH s x u/\u.oneCell'=true)->
  ∀(i:Nat) x,(Jbg os n cs)[i]?=some x-> ∃u,cells[i]?=some u/\JH s x u/\u.oneCell'=true
 |[],_,_,_,_,h=>h
 |(off,esz)::r,n,cs,hz,ha,h=>by
  refine Jry r (n+1) (λx hx=>hz x (by simp[hx])) (λj hj=>by have:=ha (j+1) (by simpa using hj);rw[show n+1+j=n+(j+1) by omega];exact this) λi x hx=>?_
  by_cases hi:off=i
  ·subst hi;have e:=Je hx;rw[List.length_set]at e;rw[Jnp e]at hx;injection hx with hx;subst hx;obtain⟨⟨k,h1⟩,h2⟩:=ha 0 (by simp);rw[J7w]at h1 h2;exact⟨.slice none 0 0,hz (off,esz) (by simp),.slr n 0 0 _ true k [] ⟨none,0,rfl,.inl rfl⟩ h1 (zQ0 _) λ_=>.inl ⟨h2,rfl,rfl,rfl⟩,rfl⟩
  ·rw[JjD hi]at hx;exact h i x hx
theorem JqX: ∀(os:List (Nat×Nat)) (n:Nat) (cs:List AV),(Jbg os n cs).length=cs.length
 |[],_,_=>rfl
 |_::r,n,cs=>(JqX r (n+1) _).trans (by simp)
theorem JGq(hi:Inv s){zero os}(n: ∀j,j<os.length+1->s.σ[new+j]?=some .dead)(h:(opR F (.newboxo zero os) new).run ⟨env,s.σ⟩=some e)(hc:JX P (.newboxo zero os) o.op=true):J16 P o a s e:=by
 simp only[opR,RM.run]at h;injection h with h;subst h;unfold JX at hc;simp only at hc;split at hc
 ·rename_i t r;simp only[JY]at hc;obtain⟨hz,hn⟩:=hc;obtain⟨v,hv,hl,hr⟩:=J4x hz;obtain⟨g1,B,A,h1,h2⟩:=Jru os new hi λj hj=>n j (by omega);have hd:(upd (J4B os new) s.σ)[new+os.length]?=some .dead:=((h2 _ (.inr (zQ0 _))).1).trans (n _ (by omega))
  let s1:Sn:=⟨upd (J4B os new) s.σ,g1,s.w⟩
  obtain⟨D,t'⟩:=Jpk (s0:=s1) B hd (blk:=.box (Jbg os new (zero.map .p))) (c:=v.cells) (e:=t) (fz:=(0,0)) (w':={s.w with heap:=s.w.heap.push (.cells v.cells t)}) rfl rfl rfl
   (λo _ _ h=>by simp at h) (λ_ _ _ h=>by cases h) ⟨by simp[JqX,hl],λi x hx=>by
    obtain⟨u,hu,y,q⟩:=Jry (s:=s1) (cells:=v.cells) os new (Js3 hv hn) h1 (λi x hx=>by
     rw[J29]at hx;cases hzi:zero[i]? with
     |none=>simp[hzi]at hx
     |some c=>
      simp[hzi]at hx;subst hx;have E:=Je hzi;have z:i<v.cells.size:=by omega
      have:=hr (w:=s1.w) (C:=s1.g.C) i c v.cells[i] hzi (by simp);exact⟨v.cells[i],by simp,.p _ _ this,this.one⟩) i x hx
    exact⟨u,hu,y,q⟩⟩
  have k:upd (J4B os new++[(new+os.length,Blk.box (Jbg os new (zero.map .p)))]) s.σ=(upd (J4B os new) s.σ).set (new+os.length) (.box (Jbg os new (zero.map .p))):=by rw[J1t];rfl
  refine J2e (e:=⟨.ptr (new+os.length) 0,J4B os new++[(new+os.length,.box (Jbg os new (zero.map .p)))]⟩) (v:=.pointer (some ⟨s.w.heap.size,0,none⟩)) (g':=J4T g1 (new+os.length) (some (s.w.heap.size,0))) ?_
   (by rw[k];exact D) (by rw[k];exact A.trans t') (by rw[k];exact .ptr (new+os.length) 0 _ 0 (if_pos rfl) ⟨_,J13 hd⟩)
  simp[execOp,r,Instr.alloc,Jbn hv,newVar,newRow]
 ·cases hc
theorem JIS(hi:Inv s)(he:J0m s a.tmps env)(hn:s.σ[new]?=some .dead){esz x}(h:(opR F (.storen esz x) new).run ⟨env,s.σ⟩=some e)(hc:JX P (.storen esz x) o.op=true):J16 P o a s e:=by
 simp only[opR]at h;obtain⟨u,h1,Q⟩:=bind_some h;obtain⟨e1,h2,h3⟩:=bind_some Q;clear h Q;simp only[RM.run]at h3;injection h3 with h3;subst h3
 obtain⟨L,t0⟩:=Jpe hi hn esz;unfold JX at hc;simp only at hc;split at hc
 ·rename_i t T R;simp only[JY,beq_iff_eq]at hc;obtain⟨hs,hx⟩:=hc;have B:=J0c he h1 hx;have V: ∀{r n:Nat} {w':World},a.eval T=.pointer (some ⟨r,n,none⟩)->(storeVar t ⟨r,n,none⟩ (.slice none 0 0)).run P s.w=.ok () w'->(execOp a.eval o).run P s.w=.ok .skip w':=by intro r n w' hz K;have N:a.eval (.const (.slice none 0 0))=.slice none 0 0:=rfl;simp[execOp,R,hz,Instr.storeAt,Instr.sureAddr,K,N]
  unfold J3A at h2;split at h2
  ·rename_i b off;simp only[RM.run]at h2;split at h2
   ·rename_i blk hb;split at h2
    ·rename_i cs;split at h2
     ·rename_i l hl;split at h2
      ·rename_i J;split at h2
       ·rename_i cs' E;simp only[RM.run]at h2;injection h2 with h2;subst h2
        have hb:s.σ[b]?=some (.box cs):=hb;have W:new≠b:=λe=>by rw[<-e,hn]at hb;cases hb
        let s1:Sn:=⟨s.σ.set new (.arr true esz []),J4T s.g new none,s.w⟩
        have y:s1.σ[b]?=some (.box cs):=(J0u W).trans hb;have ry:JH s1 (.slr new 0 0) (.slice none 0 0):=
         .slr new 0 0 _ true esz [] ⟨none,0,rfl,.inl rfl⟩ (J13 hn) (zQ0 _) λ_=>.inl ⟨if_pos rfl,rfl,rfl,rfl⟩
        generalize hz:a.eval T=z at B;have B:=JH.mono (s:=s1) hi t0 B;cases B with
        |ptr _ _ r n m aa=>
         obtain⟨k1,k2,k3⟩:=Jbv hl ry;obtain⟨H,j2,Z,j4⟩:=Jpv E;obtain⟨r1,o1,c,et,fz,D,G,ab,M,hf⟩:=L.box b cs y;rw[m]at D;injection D with D;injection D with m1 m2;subst m1 m2
         have A:=J7A (vs:=(Value.slice none 0 0).cells.toList) (o:=n+off) G (by simp;omega);have hlen:(Value.slice none 0 0).cells.toList.length=l.length:=by simp[k1]
         obtain⟨i',t'⟩:=Jo7 (s0:=s1) L (blk:=.box cs') y A (λk h1 h2=>by
          unfold Wr1;rw[y];exact⟨n,m,by omega,by omega⟩) (.box _ _ H) (λa8 j v=>by
          injection j with j;subst j;obtain⟨c0,e0,ac,c',C,Y,p3,p4,p5,p6⟩:=A.there;rw[G]at C;injection C with C;injection C with q1 q2 q3;subst q1 q2 q3
          refine⟨r,n,c',et,fz,m,Y,by omega,λi x q=>?_,by rw[H];exact hf⟩;by_cases ad:off<=i/\i<off+l.length
          ·have e1:cs'[off+(i-off)]?=l[i-off]?:=Z (i-off) (by omega);rw[show off+(i-off)=i by omega,q]at e1;have a9:i-off<(Value.slice none 0 0).cells.size:=by omega
           have e2:=p5 (i-off) (Value.slice none 0 0).cells[i-off] (by simp);refine⟨(Value.slice none 0 0).cells[i-off],by rw[<-e2];congr 1;omega,v (k3 (i-off) x _ e1.symm (by simp)),k2 _ (by simp)⟩
          ·rw[j4 i (by omega)]at q;obtain⟨v',S,I,U⟩:=M i x q;exact⟨v',by rw[p6 _ (by simp;omega)];exact S,v I,U⟩)
          (λ_ _ j=>by cases j)
         refine JoE (e:=⟨J2a,(new,.arr true esz [])::[(b,.box cs')]⟩) (V hz (JdF (by rw[hs,<-J,k1]) G (by omega) (λk h1 h2=>hf k (by omega) (by omega)) k2)) rfl i' (t0.trans t')
       ·cases h2
      ·cases h2
     ·cases h2
    ·cases h2
   ·cases h2
  ·rename_i b ext i off;have O:(fz (.slr new 0 0)).run ⟨env,s.σ⟩=none:=by simp only[fz,RM.run];rw[hn];rfl
   simp only[RM.run]at h2;split at h2
   ·split at h2
    ·split at h2
     ·split at h2
      ·rw[run_bind,O]at h2;cases h2
      ·cases h2
     ·cases h2
    ·cases h2
   ·cases h2
  ·cases h2
 ·cases hc
theorem JJ9(hi:Inv s)(he:J0m s a.tmps env){zero parts os}(G: ∀j,j<os.length->s.σ[new+j]?=some .dead)(h:(opR F (.buildo zero parts os) new).run ⟨env,s.σ⟩=some e)
  (hc:JX P (.buildo zero parts os) o.op=true):J16 P o a s e:=by
 simp only[opR]at h;obtain⟨l,h1,q⟩:=bind_some h;clear h;unfold JX at hc;simp only at hc;split at hc
 ·rename_i t ps O;simp only[JY]at hc;obtain⟨⟨hz,hn⟩,E⟩:=hc;obtain⟨z,I,Q,S⟩:=J4x hz;obtain⟨g1,i1,R,L,a3⟩:=Jru os new hi G;split at q
  ·rename_i cs hcs;split at q
   ·rename_i r h3;simp only[RM.run]at q;injection q with q;subst q
    let s1:Sn:=⟨upd (J4B os new) s.σ,g1,s.w⟩
    have H: ∀(i:Nat) x,(Jbg os new (zero.map AV.p))[i]?=some x-> ∃u,z.cells[i]?=some u/\JH s1 x u/\u.oneCell'=true:=
     Jry (s:=s1) (cells:=z.cells) os new (Js3 I hn) L (by
      intro i x hx;rw[J29]at hx;cases hzi:zero[i]? with
      |none=>simp[hzi]at hx
      |some c=>
       simp[hzi]at hx;subst hx;have M:=Je hzi;have Z:i<z.cells.size:=by omega
       have:=S (w:=s1.w) (C:=s1.g.C) i c z.cells[i] hzi (by simp);exact⟨z.cells[i],by simp,.p _ _ this,this.one⟩)
    have fin: ∀{place:Nat->Option (Nat×Nat)},J5T place parts ps.toList=true->
      ∃n,Instr.fill place z.cells (ps.toList.map λx=>(x.1,a.eval x.2))=some n/\JH s1 r (.agg n):=by
     intro place D;obtain⟨k1,k2⟩:=Jk7 he h1 D;obtain⟨n,J,f2,U⟩:=JqI (s:=s1) (cells:=z.cells) hcs k1 (λk off size cs i v hk hv=>by obtain⟨p1,Y,V,W⟩:=k2 k off size cs i v hk hv;exact⟨p1,Y,V,λj y u hy hu=>(W j y u hy hu).mono hi R⟩) (by simp[JqX,Q]) H
     refine⟨n,J,?_⟩
     have:=Jt9 (s:=s1) (vs:=n.toList) h3 (by simpa using f2) (λv hv=>by
       obtain⟨i,A⟩:=J6x hv;have A:n[i]?=some v:=by simpa using A
       have M:=JcS A;obtain⟨u,hu,_,h1⟩:=U i cs[i] (by rw[JF]);rw[A]at hu;injection hu with hu;subst hu;exact h1)
      (λi y v hy hv=>by
        obtain⟨u,hu,hr,_⟩:=U i y hy;have hv:n[i]?=some v:=by simpa using hv
        rw[hv]at hu;injection hu with hu;subst hu;exact hr)
     rcases this with⟨_,hr⟩|⟨hf,_⟩
     ·simpa using hr
     ·cases hf
    have T:(ps.map λx=>(x.1,a.eval x.2)).toList=ps.toList.map λx=>(x.1,a.eval x.2):=by simp
    split at E
    ·rename_i fs hu;simp only[JY]at E;obtain⟨B,D⟩:=E;obtain⟨n,J,hr⟩:=fin D;have N:(λi=>(fs.map λf=>(f.offset,(szT P f.type).getD 0))[i]?)=Jdb P fs:=by
      funext i
      simp only[Jdb,Array.getElem?_map];cases hfi:fs[i]? with
      |none=>rfl
      |some f=>
       have:=JDt.1 B f (Array.mem_of_getElem? hfi);cases hq:szT P f.type<;>simp[hq]at this⊢
     have K:(fs.mapM λf=>do pure (f.offset,<-sizeOf f.type):Sem (Array (Nat×Nat))).run P s.w=.ok (fs.map λf=>(f.offset,(szT P f.type).getD 0)) s.w:=by
      rw[Array.mapM_eq_mapM_toList];simp only[Sem.run_map,JjE (P:=P) (fs:=fs.toList) (λf hf=>JDt.1 B f (by simpa using hf)),J59]
      congr 1
      apply J9Q;simp
     have hf:Instr.fill (λi=>(fs.map λf=>(f.offset,(szT P f.type).getD 0))[i]?) z.cells (ps.map λx=>(x.1,a.eval x.2)).toList=some n:=by rw[N,T];exact J
     have hb:(Instr.build t (ps.map λx=>(x.1,a.eval x.2))).run P s.w=.ok (.agg n) s.w:=by unfold Instr.build;simp only[J5i,Jbn I,J59,run_underlying hu,K,hf];rfl
     refine J2e (e:=⟨r,J4B os new⟩) (v:=.agg n) (g':=g1) ?_ i1 R hr;simp only[execOp,O,J5i,hb,J59,J9k]
    ·cases E
   ·cases q
  ·cases q
 ·cases hc
end
end Go.Am
end
section
namespace Go.Am
theorem JFB{new:Nat}{env:List (Nat×AV)}{σ:List Blk}: ∀{k new:Nat} {u:Unit},(JcX new k).run ⟨env,σ⟩=some u-> ∀j,j<k->σ[new+j]?=some .dead
 |0,_,_,_,j,hj=>by omega
 |k+1,new,u,h,j,hj=>by
  simp only[JcX,RM.run]at h;split at h
  ·rename_i x hx;cases x with
   |dead=>
    dsimp only at h;cases j with
    |zero=>exact hx
    |succ j=>have:=JFB (new:=0) h j (by omega);rw[show new+(j+1)=new+1+j by omega];exact this
   |box=>cases h
   |arr=>cases h
  ·cases h
section
variable {P:Program} {F:Orc} {s:Sn} {a:Act} {env:List (Nat×AV)} {o:Oper} {new:Nat} {e:Eff}
theorem JPG(q:J57 P F)(hi:Inv s)(he:J0m s a.tmps env){n:AOp}(h:(opD F n new).run ⟨env,s.σ⟩=some e)(hc:JX P n o.op=true):J16 P o a s e:=by
 unfold opD at h;obtain⟨u,hd,h⟩:=bind_some h;have g:=JFB (new:=0) hd;clear hd;have j:J5c n=1->s.σ[new]?=some .dead:=λh1=>g 0 (by omega);cases n with
 |mv x=>exact JPq hi he h hc
 |mkarr esz x=>exact JKj hi (j rfl) h hc
 |pick=>exact JMq hi he h hc
 |newbox=>exact JJa hi (j rfl) h hc
 |box=>exact JNJ hi he (j rfl) h hc
 |build=>exact JKm hi he h hc
 |lits=>exact JN2 hi he (λe=>j (by simp[J5c,e])) h hc
 |load=>exact JN8 hi he h hc
 |store=>exact JKU hi he h hc
 |nilchk=>exact JIw hi he h hc
 |bin op t x y=>
  cases t with
  |plain=>exact JCL hi he h hc
  |bool=>exact JEx hi he h hc
  |flat=>exact JF3 hi he h hc
  |nils=>exact JFi hi he h hc
  |nilp=>exact JEX hi he h hc
  |nilf=>exact JFg hi he h hc
 |un=>exact JPj hi he h hc
 |conv k x=>
  cases k with
  |toBytes own=>exact JHn hi he (λe=>j (by simp[J5c,e])) h hc
  |_=>exact JMY hi he (by simp) h hc
 |mkslice=>exact JGP hi he (λe=>j (by simp[J5c,e])) h hc
 |slice=>exact JKi hi he h hc
 |faddr=>exact JKp hi he h hc
 |field=>exact JKA hi he h hc
 |iaddr=>exact JL5 hi he h hc
 |aaddr=>exact JLm hi he h hc
 |sidx=>exact JMx hi he h hc
 |aidx=>exact JN0 hi he h hc
 |extr=>exact JN4 hi he h hc
 |call=>exact JMW q hi he g h hc
 |callv=>exact JJZ q hi he g h hc
 |len=>exact JNG hi he h hc
 |alen=>exact JNo hi h hc
 |app=>exact JNU hi he h hc
 |appz=>exact JNl hi he h hc
 |appn=>exact JN1 hi he (j rfl) h hc
 |appc=>exact JMn hi he (j rfl) h hc
 |mm=>exact JPt hi he h hc
 |mkfn=>exact JMu hi he h hc
 |newboxo=>exact JGq hi g h hc
 |buildo=>exact JJ9 hi he g h hc
 |storen=>exact JIS hi he (j rfl) h hc
 |callo=>exact JK3 q hi he g h hc
end
def Jep(P:Program)(N:Nat)(ops:Array Oper)(i:J1l)(o:Oper):Bool:=
 JX P i.op o.op&&i.dst==o.dst&&(match i.dst with
  |some d=>decide (d<N)
  |none=>true)&&(match i.g,o.guard with
  |none,none=>true
  |some (g,w),some (j,w')=>w==w'&&(ops[j]?).bind (·.dst)==some g
  |_,_=>false)
def Sim(N:Nat)(E:Sn)(st:St)(a:Act)(w:World):Prop:=a.tmps.size=N/\a.defers=[]/\ ∃g,Inv ⟨st.sto,g,w⟩/\J0m ⟨st.sto,g,w⟩ a.tmps st.env/\J0h E ⟨st.sto,g,w⟩
theorem J0m.put{s:Sn}{tmps:Array Value}{env:List (Nat×AV)}(he:J0m s tmps env){d:Nat}(hd:d<tmps.size){x:AV}{v:Value}(hv:JH s x v):
  J0m s (tmps.setIfInBounds d v) ((d,x)::env):=by
 intro n y hy;simp only[lk]at hy;split at hy
 ·rename_i hn;injection hy with hy;subst hy hn;exact⟨v,by simp[hd],hv⟩
 ·rename_i hn;obtain⟨u,h1,h2⟩:=he n y hy;exact⟨u,by rw[Array.getElem?_setIfInBounds_ne (Ne.symm hn)];exact h1,h2⟩
theorem Sim.putd{N:Nat}{E:Sn}{st:St}{a:Act}{w w':World}{g g':Gh}{e:Eff}{v:Value}{d:Option Nat}
  (h1:a.tmps.size=N) (h2:a.defers=[]) (hi:Inv ⟨st.sto,g,w⟩) (he:J0m ⟨st.sto,g,w⟩ a.tmps st.env) (n:J0h E ⟨st.sto,g,w⟩) (hd: ∀x,d=some x->x<N)
  (j:Inv ⟨upd e.ws st.sto,g',w'⟩) (h:J0h ⟨st.sto,g,w⟩ ⟨upd e.ws st.sto,g',w'⟩) (hv:JH ⟨upd e.ws st.sto,g',w'⟩ e.val v):
  Sim N E (Am.put d e st) (a.put d v) w':=by
 have k:=he.mono hi h;cases d with
 |none=>exact⟨h1,h2,g',j,k,n.trans h⟩
 |some d=>exact⟨by simp[Act.put,h1],h2,g',j,k.put (by rw[h1];exact hd d rfl) hv,n.trans h⟩
section
variable {P:Program} {F:Orc} {N:Nat} {E:Sn} {st:St} {a:Act} {w:World} {ops:Array Oper} {i:J1l} {o:Oper} {e:Eff} {new k:Nat} {Q:Exit->Act->World->Prop} {K:Act->World->Prop}
theorem JGH{s:Sn}:JH s J2a undef:=.tup _ _ rfl λi x v h=>by simp at h
theorem JJ0(G:J57 P F)(hs:Sim N E st a w)(ho:ops[k]?=some o)(hc:Jep P N ops i o=true)(h:(J1j F i new).run st=some e)
  (next: ∀q w',Sim N E (Am.put i.dst e st) q w'->K q w'):wpOp P ops Q k K a w:=by
 obtain⟨h1,h2,g,hi,he,A⟩:=hs;simp only[Jep,JY,beq_iff_eq]at hc;obtain⟨⟨⟨hc,hd⟩,r⟩,n⟩:=hc;have y: ∀x,i.dst=some x->x<N:=by intro x hx;rw[hx]at r;simpa using r
 have run: ∀{e:Eff},(opD F i.op new).run st=some e->(∀q w',Sim N E (Am.put i.dst e st) q w'->K q w')->o.wp P a w K Q:=by intro e h next;refine JPG (s:=⟨st.sto,g,w⟩) (env:=st.env) G hi he h hc K Q λv w' g' B C hv=>next _ _ ?_;rw[<-hd];exact Sim.putd h1 h2 hi he A y B C hv
 have skip:(∀q w',Sim N E (Am.put i.dst ⟨J2a,[]⟩ st) q w'->K q w')->K (a.put o.dst undef) w:=by intro next;refine next _ _ ?_;rw[<-hd];exact Sim.putd (e:=⟨J2a,[]⟩) h1 h2 hi he A y hi (.refl _) JGH
 unfold wpOp;rw[ho];dsimp only;unfold J1j at h;cases hig:i.g with
 |none=>
  rw[hig]at h n;cases hog:o.guard with
  |some x=>rw[hog]at n;cases n
  |none=>
   have hw:Region.wanted o (yielded ops a.tmps)=true:=by simp[Region.wanted,hog]
   rw[if_pos hw];exact .inl (run h next)
 |some H=>
  obtain⟨I,z⟩:=H;rw[hig]at h n;cases hog:o.guard with
  |none=>rw[hog]at n;cases n
  |some x=>
   obtain⟨j,D⟩:=x;rw[hog]at n;simp only[JY,beq_iff_eq]at n;obtain⟨rfl,hj⟩:=n;simp only[RM.run]at h;split at h
   ·rename_i v hv;obtain⟨u,hu,hr⟩:=he _ _ hv;split at h
    ·rename_i b;cases hr with
     |p _ _ hr=>
      cases hr with
      |b x=>
       have hy:yielded ops a.tmps j=some b:=by simp[yielded,hj,hu]
       by_cases hb:b=z
       ·have hw:Region.wanted o (yielded ops a.tmps)=true:=by simp[Region.wanted,hog,hy,hb]
        rw[if_pos hw];rw[if_pos hb]at h;exact .inl (run h next)
       ·have hw:Region.wanted o (yielded ops a.tmps)=false:=by simp[Region.wanted,hog,hy,hb]
        rw[if_neg (by rw[hw];simp)];rw[if_neg hb]at h;simp only[RM.run]at h;injection h with h;subst h
        exact skip next
    ·cases hr with
     |tup _ vs hl _=>
      have hvs:vs= #[]:=by
       have:vs.size=0:=by simpa using hl.symm
       simpa using this
      subst hvs;have hy:yielded ops a.tmps j=none:=by simp[yielded,hj,hu]
      have hw:Region.wanted o (yielded ops a.tmps)=false:=by simp[Region.wanted,hog,hy]
      rw[if_neg (by rw[hw];simp)];simp only[RM.run]at h;injection h with h;subst h
      exact skip next
    ·cases h
   ·cases h
end
theorem Jkb{σ:List Blk}{n b:Nat}{x:Blk}(h:(σ++List.replicate n Blk.dead)[b]?=some x)(hx:x≠.dead):σ[b]?=some x:=by
 rcases zQ1 b σ.length with g|e
 ·rwa[J6Z g]at h
 ·rw[J6Y e,List.getElem?_replicate]at h;split at h
  ·injection h with h;exact absurd h.symm hx
  ·cases h
theorem JnA{σ:List Blk}{n b:Nat}{x:Blk}(h:σ[b]?=some x):(σ++List.replicate n Blk.dead)[b]?=some x:=by rw[J6Z (Je h)];exact h
theorem Jps{σ:List Blk}{g:Gh}{w:World}{n b r o:Nat}:Wr1 ⟨σ++List.replicate n .dead,g,w⟩ b r o↔Wr1 ⟨σ,g,w⟩ b r o:=by
 unfold Wr1;constructor
 ·intro h;dsimp only at h⊢;cases hb:(σ++List.replicate n Blk.dead)[b]? with
  |none=>rw[hb]at h;exact h.elim
  |some x=>
   cases x with
   |dead=>rw[hb]at h;exact h.elim
   |box cs=>rw[Jkb hb (by simp)];rw[hb]at h;exact h
   |arr wm esz rows=>rw[Jkb hb (by simp)];rw[hb]at h;exact h
 ·intro h;dsimp only at h⊢;cases hb:σ[b]? with
  |none=>rw[hb]at h;exact h.elim
  |some x=>rw[JnA hb];rw[hb]at h;exact h
theorem JjA{σ:List Blk}{g:Gh}{w:World}{n:Nat}:J0h ⟨σ,g,w⟩ ⟨σ++List.replicate n .dead,g,w⟩ where
 keep:=.refl _ _
 cmono _ _ h:=h
 cnew _ _ h:=.inl h
 wnew _ _ h:=let⟨b,hb⟩:=h;.inl ⟨b,Jps.1 hb⟩
 len:=by simp
 box b cs h:=⟨⟨cs,JnA h,rfl⟩,rfl⟩
 arr b wm esz rows h:=⟨wm,rows,JnA h,id,zQ0 _,λ_=>rfl⟩
theorem JLO{σ:List Blk}{g:Gh}{w:World}{n:Nat}(hi:Inv ⟨σ,g,w⟩):Inv ⟨σ++List.replicate n .dead,g,w⟩:=by
 have t:=JjA (σ:=σ) (g:=g) (w:=w) (n:=n);refine⟨λb cs h=>?_,λb wm esz rows h=>?_,λb1 b2 r o h1 h2=>hi.apart b1 b2 r o (Jps.1 h1) (Jps.1 h2),λr o hc=>⟨(hi.const r o hc).1,λb hb=>(hi.const r o hc).2 b (Jps.1 hb)⟩⟩
 ·obtain⟨r,o,c,e,fz,q1,q2,q3,q,k⟩:=hi.box b cs (Jkb h (by simp));exact⟨r,o,c,e,fz,q1,q2,q3,λi x hx=>let⟨v,k1,k2,j⟩:=q i x hx;⟨v,k1,k2.mono hi t,j⟩,k⟩
 ·exact hi.arr b wm esz rows (Jkb h (by simp))
theorem Sim.room{N:Nat}{E:Sn}{st:St}{a:Act}{w:World}(h:Sim N E st a w)(n:Nat):Sim N E ⟨st.env,room n st.sto⟩ a w:=by
 unfold Am.room;split
 ·exact h
 ·obtain⟨h1,h2,g,hi,he,e⟩:=h;exact⟨h1,h2,g,JLO hi,he.mono hi JjA,e.trans JjA⟩
theorem Sim.heap{N:Nat}{E:Sn}{st:St}{a:Act}{w w':World}(h:Sim N E st a w)(e:w'.heap=w.heap)(ho:w'.os=w.os)(hp:w'.output=w.output):Sim N E st a w':=by obtain⟨h1,h2,g,hi,he,k⟩:=h;obtain⟨j,t'⟩:=JoB hi e ho hp;exact⟨h1,h2,g,j,he.mono hi t',k.trans t'⟩
theorem Sim.congr{N:Nat}{E:Sn}{st st':St}{a:Act}{w:World}(h:Sim N E st a w)(he: ∀m,lk m st'.env=lk m st.env)(hs:st'.sto=st.sto):Sim N E st' a w:=by obtain⟨h1,h2,g,hi,hr,e⟩:=h;refine⟨h1,h2,g,?_⟩;rw[hs];exact⟨hi,λn x hx=>hr n x (by rw[<-he];exact hx),e⟩
end Go.Am
end
section
namespace Go.Am
def J2u(P:Program)(N:Nat)(ops:Array Oper):List J1l->List Oper->Bool
 |[],[]=>true
 |i::r,o::q=>Jep P N ops i o&&J2u P N ops r q
 |_,_=>false
def JcO(x y:J1l):Bool:=
 (match x.dst with
 |none=>true
 |some m=>y.dst !=some m&& !(J7q y).contains m)&&(match y.dst with
 |none=>true
 |some m=> !(J7q x).contains m)
def Jjo(x y:J1l):Bool:=(!Jrf x.op|| !JCg y.op)&&(!Jrf y.op|| !JCg x.op)
def Jtv:List Nat->List Nat->List Nat
 |[],acc=>acc
 |x::r,acc=>match acc.contains x with
  |true=>Jtv r acc
  |false=>Jtv r (x::acc)
theorem JoM{i:Nat}: ∀{l acc:List Nat},i∈Jtv l acc->i∈l\/i∈acc
 |[],_,h=>.inr h
 |x::r,acc,h=>by
  simp only[Jtv]at h;split at h
  ·exact(JoM h).imp (JjM _) id
  ·rcases JoM h with h|h
   ·exact .inl (JjM _ h)
   ·rcases J2A.1 h with rfl|h
    ·exact .inl List.mem_cons_self
    ·exact .inr h
def JLW(l:List Nat):List Nat:=Jtv l []
theorem JJP{i:Nat}{l:List Nat}(h:i∈JLW l):i∈l:=(JoM h).resolve_right (by simp)
def JJA(acc:List (List Nat))(o:Oper):List Nat:=JLW<|(o.after.toList.filter λe=>Region.binds .any e).flatMap λe=>e.on::(acc[e.on]?).getD []
def JzJ(acc:List (List Nat)):List Oper->List (List Nat)
 |[]=>acc
 |o::r=>JzJ (acc++[JJA acc o]) r
def Jv2(e:List (List Nat))(pairs:List (Nat×Nat))(i j:Nat)(x y:J1l):Bool:=
 ((e[j]?).getD []).contains i||(JcO x y&&(Jjo x y||pairs.contains (i,j)))
def Je0(e:List (List Nat))(pairs:List (Nat×Nat))(j:Nat)(y:J1l):Nat->List J1l->Bool
 |_,[]=>true
 |i,x::r=>(decide (j<=i)||Jv2 e pairs i j x y)&&Je0 e pairs j y (i+1) r
def Jpq(g:List (List Nat))(pairs:List (Nat×Nat))(e:List J1l):Nat->List J1l->Bool
 |_,[]=>true
 |j,y::r=>Je0 g pairs j y 0 e&&Jpq g pairs e (j+1) r
def Jkc:Nat->List Oper->Bool
 |_,[]=>true
 |j,o::r=>(o.after.all λe=> !Region.binds .any e||decide (e.on<j))&&Jkc (j+1) r
def JDo(P:Program)(N:Nat)(draw:Bool)(pairs:List (Nat×Nat))(ins:List J1l)(ops:Array Oper):Bool:=
 J2u P N ops ins ops.toList&&(!draw||(Jkc 0 ops.toList&&Jpq (JzJ [] ops.toList) pairs ins 0 ins))
section
variable {P:Program} {F:Orc} {N:Nat} {E:Sn} {st st':St} {a:Act} {w:World} {ops:Array Oper} {Q:Exit->Act->World->Prop}
theorem JwX: ∀{ins:List J1l} {os:List Oper},J2u P N ops ins os=true->ins.length=os.length/\ ∀(k:Nat) i,ins[k]?=some i-> ∃o,os[k]?=some o/\Jep P N ops i o=true
 |[],[],_=>⟨rfl,λk i h=>by simp at h⟩
 |i::r,o::q,h=>by
  simp only[J2u,JY]at h;obtain⟨h1,h2⟩:=JwX h.2;refine⟨by simp[h1],λk x hx=>?_⟩;cases k with
  |zero=>simp at hx;subst hx;exact⟨o,rfl,h.1⟩
  |succ k=>exact h2 k x (by simpa using hx)
 |[],_::_,h=>by simp[J2u]at h
 |_::_,[],h=>by simp[J2u]at h
theorem JwD(q:J57 P F): ∀{r:List J1l} {k new:Nat} {st:St} {a:Act} {w:World},(∀(j:Nat) i,r[j]?=some i-> ∃o,ops[k+j]?=some o/\Jep P N ops i o=true)->
  J2U F r new st=some st'->Sim N E st a w->(∀n w',Sim N E st' n w'->Q .normal n w')->wpOps P ops Q (List.range' k r.length) a w
 |[],k,new,st,a,w,_,h,hs,next=>by
  simp only[J2U]at h;injection h with h;subst h
  exact next a w hs
 |i::r,k,new,st,a,w,hc,h,hs,next=>by
  simp only[J2U]at h;split at h
  ·rename_i e he;obtain⟨o,ho,g⟩:=hc 0 i rfl;rw[Jrb,List.range'_succ,wpOps_cons];refine JJ0 q hs ho g he λn w' hs'=>JwD q (λj i hj=>?_) h hs' next;obtain⟨o,ho,g⟩:=hc (j+1) i (by simpa using hj);exact⟨o,by rw[<-ho];congr 1;omega,g⟩
  ·cases h
theorem JJt: ∀{ins:List J1l} {g:Nat} {st:St},J2U F ins g st=some st'->
  ∃(new:Nat->Nat) (S:Nat->St) (eff:Nat->Eff),Run F ins new S eff/\S 0=st/\S ins.length=st'
 |[],g,st,h=>by
  simp only[J2U]at h;injection h with h;subst h
  exact⟨λ_=>0,λ_=>st,λ_=>⟨J2a,[]⟩,⟨λk i h=>by simp at h⟩,rfl,rfl⟩
 |i::r,g,st,h=>by
  simp only[J2U]at h;split at h
  ·rename_i e he;obtain⟨new,S,eff,hr,j,hl⟩:=JJt h;refine⟨fun|0=>g|k+1=>new k,fun|0=>st|k+1=>S k,fun|0=>e|k+1=>eff k,⟨λk x hx=>?_⟩,rfl,hl⟩;cases k with
   |zero=>simp at hx;subst hx;exact⟨he,j⟩
   |succ k=>exact hr.step k x (by simpa using hx)
  ·cases h
theorem JJ2: ∀{ins:List J1l} {g:Nat} {st:St} {l j:Log},J4v F ins g st l=some (st',j)->
  ∃(new:Nat->Nat) (S:Nat->St) (eff:Nat->Eff),Run F ins new S eff/\S 0=st/\S ins.length=st'/\
   (∀k,k<l.length->j[k]?=l[k]?)/\ ∀(k:Nat) i,ins[k]?=some i->j[l.length+k]?=some (J4t ((J1j F i (new k)).reads (S k)),(eff k).ws.map (·.1))
 |[],g,st,l,j,h=>by
  simp only[J4v]at h;injection h with h;injection h with h1 h2;subst h1 h2
  exact⟨λ_=>0,λ_=>st,λ_=>⟨J2a,[]⟩,⟨λk i h=>by simp at h⟩,rfl,rfl,λ_ _=>rfl,λk i h=>by simp at h⟩
 |i::r,g,st,l,j,h=>by
  simp only[J4v]at h;split at h
  ·rename_i e he;obtain⟨new,S,eff,hr,n,hl,q1,q2⟩:=JJ2 h;refine⟨fun|0=>g|k+1=>new k,fun|0=>st|k+1=>S k,fun|0=>e|k+1=>eff k,⟨λk x hx=>?_⟩,rfl,hl,λk hk=>?_,λk x hx=>?_⟩
   ·cases k with
    |zero=>simp at hx;subst hx;exact⟨he,n⟩
    |succ k=>exact hr.step k x (by simpa using hx)
   ·rw[q1 k (by simp;omega),J6Z hk]
   ·cases k with
    |zero=>
     simp at hx;subst hx;rw[J7w,q1 l.length (by simp),J6Y (zQ0 _)];simp
    |succ k=>
     have:=q2 k x (by simpa using hx);rw[<-this];congr 1;simp;omega
  ·cases h
theorem Jd0{b:Nat}: ∀{l:List Loc},Loc.blk b∈l->b∈J4t l
 | .blk c::r,h=>by
   simp only[J4t,J2A]at*;rcases h with h|h
   ·left;injection h
   ·exact .inr (Jd0 h)
 | .slot n::r,h=>by
   simp only[J4t];refine Jd0 ?_;simpa using h
 |[],h=>by simp at h
theorem Jr4{a b:List Nat}(h:J6c a b=true){x:Nat}(hx:x∈a):x∉b:=by simp only[J6c,Jre,Jw6]at h;have:=h x hx;simpa using this
theorem JsV{l:Log}: ∀{ps:List (Nat×Nat)} {i j:Nat},Jd5 l ps=true->(i,j)∈ps->
  ∃x y,l[i]?=some x/\l[j]?=some y/\J6c x.2 y.1=true/\J6c x.2 y.2=true/\J6c x.1 y.2=true
 |[],i,j,_,h=>by simp at h
 |(p,q)::r,i,j,h,hm=>by
  simp only[Jd5,JY]at h;obtain⟨h1,h2⟩:=h;rcases J2A.1 hm with e|e
  ·injection e with e1 e2;subst e1 e2;split at h1
   ·rename_i x y hx hy;simp only[JY]at h1;exact⟨x,y,hx,hy,h1.1.1,h1.1.2,h1.2⟩
   ·cases h1
  ·exact JsV h2 e
def JuP(ops:Array Oper)(D:Nat->Bool)(k:Nat):Prop:= ∀o,ops[k]?=some o-> ∀e∈o.after,Region.binds .any e=true->D e.on=true
def JJF(ops:Array Oper)(D:Nat->Bool):Prop:= ∀k,D k=true->JuP ops D k
def JLj(ops:Array Oper)(k i:Nat):Prop:= ∀D,JJF ops D->JuP ops D k->D i=true
theorem JIF: ∀{os:List Oper} {acc:List (List Nat)},(∀(j:Nat) o,os[j]?=some o->ops[acc.length+j]?=some o)->(∀(k:Nat) l i,acc[k]?=some l->i∈l->JLj ops k i)->
  ∀(k:Nat) l i,(JzJ acc os)[k]?=some l->i∈l->JLj ops k i
 |[],acc,_,ha=>ha
 |o::r,acc,ho,ha=>by
  refine JIF (os:=r) (acc:=acc++[JJA acc o]) (λj x hx=>?_) λk l i hk hi=>?_
  ·have:=ho (j+1) x (by simpa using hx);rw[<-this];congr 1;simp;omega
  ·rcases Jbb hk with hk|⟨w,hk⟩
   ·exact ha k l i hk hi
   ·have h:k=acc.length:=by
     have:=Je hk;simp at this;omega
    subst h;simp at hk;subst hk;intro D hD v;replace hi:=JJP hi;simp only[List.mem_flatMap,List.mem_filter]at hi;obtain⟨e,⟨q,n⟩,hi⟩:=hi;have g:=v o (by simpa using ho 0 o rfl) e (by simpa using q) n;rcases J2A.1 hi with rfl|hi
    ·exact g
    ·cases hac:acc[e.on]? with
     |none=>rw[hac]at hi;simp at hi
     |some l=>
      rw[hac]at hi;exact ha _ l i hac hi D hD (hD _ g)
theorem Jqs{g:List (List Nat)}{pairs:List (Nat×Nat)}{j:Nat}{y:J1l}: ∀{r:List J1l} {e:Nat},Je0 g pairs j y e r=true-> ∀(k:Nat) x,r[k]?=some x->e+k<j->Jv2 g pairs (e+k) j x y=true
 |[],e,_,k,x,hx,_=>by simp at hx
 |z::r,e,h,k,x,hx,n=>by
  simp only[Je0,JY,JvQ,decide_eq_true_eq]at h;cases k with
  |zero=>simp at hx;subst hx;exact h.1.resolve_left (by omega)
  |succ k=>
   have:=Jqs h.2 k x (by simpa using hx) (by omega);rw[show e+(k+1)=e+1+k by omega];exact this
theorem Jtf{j:List (List Nat)}{pairs:List (Nat×Nat)}{g:List J1l}: ∀{r:List J1l} {e:Nat},Jpq j pairs g e r=true-> ∀(k:Nat) y,r[k]?=some y->Je0 j pairs (e+k) y 0 g=true
 |[],e,_,k,y,hy=>by simp at hy
 |z::r,e,h,k,y,hy=>by
  simp only[Jpq,JY]at h;cases k with
  |zero=>simp at hy;subst hy;exact h.1
  |succ k=>
   have:=Jtf h.2 k y (by simpa using hy);rw[show e+(k+1)=e+1+k by omega];exact this
theorem Jqt: ∀{r:List Oper} {g:Nat},Jkc g r=true-> ∀(k:Nat) o,r[k]?=some o-> ∀e∈o.after,Region.binds .any e=true->e.on<g+k
 |[],g,_,k,o,ho=>by simp at ho
 |z::r,g,h,k,o,ho=>by
  simp only[Jkc,JY]at h;cases k with
  |zero=>
   simp at ho;subst ho;intro e he hb;have:=JDt.1 h.1 e he;simpa[hb]using this
  |succ k=>
   intro e he hb;have:=Jqt h.2 k o (by simpa using ho) e he hb;omega
theorem JKK{x y:J1l}(h:JcO x y=true):(∀m,x.dst=some m->y.dst≠some m/\m∉J7q y)/\(∀m,y.dst=some m->m∉J7q x):=by
 simp only[JcO,JY]at h;obtain⟨h1,h2⟩:=h;constructor
 ·intro m hm;rw[hm]at h1;simpa using h1
 ·intro m hm;rw[hm]at h2;simpa using h2
variable {ins:List J1l} {new:Nat->Nat} {S:Nat->St} {eff:Nat->Eff}
theorem JLs(hr:Run F ins new S eff){i j:Nat}(hi:i<ins.length)(hj:j<ins.length)(h1:JcO ins[i] ins[j]=true)
  (h2:Jjo ins[i] ins[j]=true\/(J6c ((eff i).ws.map (·.1)) (J4t ((J1j F ins[j] (new j)).reads (S j)))=true/\
    J6c ((eff i).ws.map (·.1)) ((eff j).ws.map (·.1))=true/\J6c (J4t ((J1j F ins[i] (new i)).reads (S i))) ((eff j).ws.map (·.1))=true)):JzR F ins new S eff i j:=by
 obtain⟨s1,q⟩:=JKK h1;have g:ins[i]?=some ins[i]:=JF hi;have e:ins[j]?=some ins[j]:=JF hj;obtain⟨o,_⟩:=hr.step i _ g;obtain⟨k,_⟩:=hr.step j _ e;refine⟨λx y m hx hy hm=>?_,λx y m hx hy hm hl=>?_,λy b hy hb=>?_,λx b hx hb hl=>?_⟩
 ·rw[g]at hx;injection hx with hx;subst hx
  rw[e]at hy;injection hy with hy;subst hy
  exact⟨(s1 m hm).1,λhl=>(s1 m hm).2 (JFD F _ _ _ _ hl)⟩
 ·rw[g]at hx;injection hx with hx;subst hx
  rw[e]at hy;injection hy with hy;subst hy
  exact q m hm (JFD F _ _ _ _ hl)
 ·rw[e]at hy;injection hy with hy;subst hy
  rcases h2 with h2|⟨k1,k2,n⟩
  ·simp only[Jjo,JY,JvQ,Jw6]at h2;rcases h2.1 with h|h
   ·rw[Jve F _ _ h _ _ o]at hb;simp at hb
   ·refine⟨?_,JFp F _ _ h _ _ k b⟩;rw[Jve F _ _ (JJJ h) _ _ k];simp
  ·exact⟨Jr4 k2 hb,λhl=>Jr4 k1 hb (Jd0 hl)⟩
 ·rw[g]at hx;injection hx with hx;subst hx
  rcases h2 with h2|⟨k1,k2,n⟩
  ·simp only[Jjo,JY,JvQ,Jw6]at h2;rcases h2.2 with h|h
   ·rw[Jve F _ _ h _ _ k]at hb;simp at hb
   ·exact JFp F _ _ h _ _ o b hl
  ·exact Jr4 n (Jd0 hl) hb
def Dl(e:Array Bool):Nat->Bool:=λj=>e.getD j false
theorem JIB{e:Array Bool}{i:Nat}(hi:i<e.size):Dl (e.setIfInBounds i true)=λj=>if j=i then true else Dl e j:=by
 funext j
 unfold Dl;by_cases h:j=i
 ·subst h;simp[hi]
 ·rw[if_neg h,getD_set_ne false (Ne.symm h)]
theorem JtP{l:Array Bool}{i:Nat}(hi:i<l.size)(h:l.getD i false=false):(l.setIfInBounds i true).count false+1=l.count false:=by
 have he:l[i]=false:=by simpa[hi]using h
 have e:0<l.count false:=Array.count_pos_iff.2 (by rw[<-he];exact Array.getElem_mem hi);rw[Array.setIfInBounds,dif_pos hi,Array.count_set hi,he];simp;omega
theorem JtD{l:Array Bool}(h:l.count false=0){i:Nat}(hi:i<l.size):l.getD i false=true:=by
 cases hv:l.getD i false with
 |true=>rfl
 |false=>
  have:=JtP hi hv;omega
theorem JM9{l:Array Bool}: ∀m,m<=l.size->(∀j,j<m->Dl l j=true)\/ ∃k,k<m/\Dl l k=false/\ ∀j,j<k->Dl l j=true
 |0,_=>.inl λj hj=>by omega
 |m+1,h=>by
  rcases JM9 (l:=l) m (by omega)with h1|⟨k,a,b,c⟩
  ·cases hm:Dl l m with
   |true=>left;intro j hj;by_cases e:j=m;(subst e;exact hm);exact h1 j (by omega)
   |false=>exact .inr ⟨m,by omega,hm,h1⟩
  ·exact .inr ⟨k,by omega,b,c⟩
theorem Jo2{l:Array Bool}{j:Nat}(hj:j<l.size):l.getD j true=l.getD j false:=by simp[hj]
theorem JP4(V:J57 P F)(hr:Run F ins new S eff)(hlen:ins.length=ops.size)(hc: ∀(k:Nat) i,ins[k]?=some i-> ∃o,ops[k]?=some o/\Jep P N ops i o=true)
  (B: ∀(k:Nat) o,ops[k]?=some o-> ∀e∈o.after,Region.binds .any e=true->e.on<k)
  (G: ∀i j,i<j->j<ins.length->JLj ops j i\/JzR F ins new S eff i j)
  (next: ∀C w',Sim N E (S ins.length) C w'->Q .normal C w'):
  ∀(n:Nat) (g:Array Bool) (st:St) (a:Act) (w:World),g.size=ops.size->JsO ins eff (S 0) (Dl g) st->Sim N E st a w->JJF ops (Dl g)->g.count false=n->
   wpAny P .any ops Q n g a w:=by
 intro n
 induction n with
 |zero=>
  intro g st a w H A hs v y;refine⟨?_,?_⟩
  ·cases hre:Region.ready .any ops g with
   |nil=>rfl
   |cons j l=>
    exfalso;have hm:j∈Region.ready .any ops g:=by rw[hre];simp
    obtain⟨h1,o,ho,_⟩:=mem_ready.1 hm;have hj:j<ops.size:=(JH0.1 ho).1;rw[Jo2 (by omega),JtD y (by omega)]at h1;cases h1
  ·obtain⟨e1,e2⟩:=JIO hr A λj hj=>JtD y (by omega);exact next a w (hs.congr (λm=>(e1 m).symm) e2.symm)
 |succ n ih=>
  intro g st a w H A hs v y;refine⟨λK=>?_,λk hk=>?_⟩
  ·exfalso;rcases JM9 (l:=g) ops.size (by omega)with z|⟨k,hk,x,I⟩
   ·have:g.count false=0:=by
     rw[Array.count_eq_zero];intro hm;obtain⟨i,hi,he⟩:=Array.getElem_of_mem hm;have:=z i (by omega);unfold Dl at this;simp[hi,he]at this
    omega
   ·have hm:k∈Region.ready .any ops g:=by
     rw[mem_ready];refine⟨by rw[Jo2 (by omega)];exact x,ops[k],by simp[hk],λe he hb=>?_⟩;exact I _ (B k ops[k] (by simp[hk]) e he hb)
    rw[K]at hm;cases hm
  ·obtain⟨h1,o,ho,z⟩:=mem_ready.1 hk;have U:k<ops.size:=(JH0.1 ho).1;have x:Dl g k=false:=by unfold Dl;rw[<-Jo2 (by omega)];exact h1
   have L:ins[k]?=some (ins[k]'(by omega)):=JF _;obtain⟨Y,R,M⟩:=hc k _ L;have r:JuP ops (Dl g) k:=by
    intro J q e he hb;rw[ho]at q;injection q with q;subst q
    exact z e he hb
   obtain⟨T,W⟩:=JL6 hr A L x (λj hj hDj=>by
    rcases G j k hj (by omega)with hm|hm
    ·have:=hm _ v r;rw[hDj]at this;cases this
    ·exact hm) (λj hj O hDj=>by
    rcases G k j hj O with hm|hm
    ·have:=hm _ v (v j hDj);rw[x]at this;cases this
    ·exact hm)
   refine JJ0 V hs R M T λC w' hs'=>ih _ _ C w' (by simp[H]) ?_ hs' ?_ ?_
   ·rw[JIB (by omega)];exact W
   ·rw[JIB (by omega)];intro j hj J q e he hb;dsimp only at hj⊢;have hm:Dl g e.on=true->(if e.on=k then true else Dl g e.on)=true:=by intro h;split<;>simp[h]
    by_cases D:j=k
    ·subst D;exact hm (r J q e he hb)
    ·rw[if_neg D]at hj;exact hm (v j hj J q e he hb)
   ·have:=JtP (l:=g) (i:=k) (by omega) x;omega
theorem JO6(U:J57 P F)(L:P.follows .mixedOrders=true){id:Nat}{draw:Bool}{pairs:List (Nat×Nat)}{ins:List J1l}(h:region F pairs ins st=some st')
  (hc:JDo P N draw pairs ins ops=true) (hs:Sim N E st a w) (next: ∀T w',Sim N E st' T w'->Q .normal T w'):(Code.region id ops draw).wp P Q a w:=by
 simp only[JDo,JY,JvQ,Jw6]at hc;obtain⟨O,J⟩:=hc;obtain⟨hlen,A⟩:=JwX O;have hlen:ins.length=ops.size:=by simpa using hlen
 have A: ∀(k:Nat) i,ins[k]?=some i-> ∃o,ops[k]?=some o/\Jep P N ops i o=true:=λk i hi=>by simpa using A k i hi
 have K:=hs.room (news ins)
 have M: ∃(new:Nat->Nat) (S:Nat->St) (eff:Nat->Eff),Run F ins new S eff/\S 0=⟨st.env,room (news ins) st.sto⟩/\S ins.length=st'/\
   ∀i j,(i,j)∈pairs-> ∃x y,ins[i]?=some x/\ins[j]?=some y/\J6c ((eff i).ws.map (·.1)) (J4t ((J1j F y (new j)).reads (S j)))=true/\
   J6c ((eff i).ws.map (·.1)) ((eff j).ws.map (·.1))=true/\J6c (J4t ((J1j F x (new i)).reads (S i))) ((eff j).ws.map (·.1))=true:=by
  unfold region at h;split at h
  ·obtain⟨new,S,eff,hr,B,hl⟩:=JJt h;exact⟨new,S,eff,hr,B,hl,λi j hm=>by simp at hm⟩
  ·split at h
   ·rename_i s' l n;split at h
    ·rename_i hp;injection h with h;subst h;obtain⟨new,S,eff,hr,B,hl,_,q⟩:=JJ2 n;refine⟨new,S,eff,hr,B,hl,λi j hm=>?_⟩;obtain⟨x,y,hx,hy,Z,W,Y⟩:=JsV hp hm;have R: ∀(k:Nat) z,l[k]?=some z->k<ins.length:=by
      intro k z hk;have:=Je hk;have a0:l.length=ins.length:=by
       clear q hr B hl hp hx hy;have: ∀{r:List J1l} {g:Nat} {s0:St} {l0 v:Log} {s1:St},J4v F r g s0 l0=some (s1,v)->v.length=l0.length+r.length:=by
        intro r
        induction r with
        |nil=>intro g s0 l0 v s1 h;simp only[J4v]at h;injection h with h;injection h with h1 h2;subst h2;simp
        |cons i r ih=>
         intro g s0 l0 v s1 h;simp only[J4v]at h;split at h
         ·rw[ih h];simp;omega
         ·cases h
       simpa using this n
      omega
     have hi:=R i x hx;have hj:=R j y hy;have I:ins[i]?=some ins[i]:=JF hi;have D:ins[j]?=some ins[j]:=JF hj;have G:=q i _ I;have H:=q j _ D;simp only[List.length_nil,zQ6]at G H;rw[hx]at G;injection G with G;subst G
     rw[hy]at H;injection H with H;subst H
     exact⟨_,_,I,D,Z,W,Y⟩
    ·cases h
   ·cases h
 obtain⟨new,S,eff,hr,B,hl,hp⟩:=M;cases draw with
 |false=>
  refine wp_region ?_;rw[List.range_eq_range',<-hlen];have C: ∃g,J2U F ins g ⟨st.env,room (news ins) st.sto⟩=some st':=by
   unfold region at h;split at h
   ·exact⟨_,h⟩
   ·split at h
    ·rename_i s' l n;split at h
     ·injection h with h;subst h;have: ∀{r:List J1l} {g:Nat} {s0:St} {l0 v:Log} {s1:St},J4v F r g s0 l0=some (s1,v)->J2U F r g s0=some s1:=by
       intro r
       induction r with
       |nil=>intro g s0 l0 v s1 h;simp only[J4v]at h;injection h with h;injection h with h1 h2;subst h1;rfl
       |cons i r ih=>
        intro g s0 l0 v s1 h;simp only[J4v]at h;simp only[J2U];split at h
        ·rename_i e he;exact ih h
        ·cases h
      exact⟨_,this n⟩
     ·cases h
    ·cases h
  obtain⟨g,C⟩:=C;exact JwD U (λj i hj=>by simpa using A j i hj) C K next
 |true=>
  obtain⟨he,hd⟩:=J.resolve_left (by simp);refine wp_region_any L ?_;have V:Sim N E (S 0) a {w with drawn:=w.drawn+1}:=by rw[B];exact K.heap rfl rfl rfl
  refine JP4 U hr hlen A (λk o ho=>?_) (λi j a1 hj=>?_) (by rw[hl];exact next) ops.size _ (S 0) a _ (by simp) ?_ V ?_ ?_
  ·have:=Jqt he k o (by simpa using ho);simpa using this
  ·have I:ins[i]?=some (ins[i]'(by omega)):=JF _;have D:ins[j]?=some ins[j]:=JF hj;have h1:=Jtf hd j _ D;rw[zQ6]at h1;have h2:=Jqs h1 i _ I (by omega);rw[zQ6]at h2;simp only[Jv2,JvQ,JY]at h2;rcases h2 with h2|⟨h2,h3⟩
   ·left;cases hb:(JzJ [] ops.toList)[j]? with
    |none=>rw[hb]at h2;simp at h2
    |some l=>
     rw[hb]at h2;exact JIF (ops:=ops) (os:=ops.toList) (acc:=[]) (λj o ho=>by simpa using ho) (λk l i hk=>by simp at hk) j l i hb (by simpa using h2)
   ·right;refine JLs hr (by omega) hj h2 ?_;rcases h3 with h3|h3
    ·exact .inl h3
    ·obtain⟨x,y,hx,hy,d⟩:=hp i j (by simpa using h3);rw[I]at hx;injection hx with hx;subst hx
     rw[D]at hy;injection hy with hy;subst hy
     exact .inr d
  ·have:Dl (Array.replicate ops.size false)=λ_=>false:=by
    funext j;unfold Dl;simp[Array.getElem?_replicate];split<;>rfl
   rw[this];exact JEW
  ·intro j hj;unfold Dl at hj;simp[Array.getElem?_replicate]at hj;split at hj<;>simp at hj
  ·simp
end
end Go.Am
end
section
namespace Go.Am
def J0O(P:Program)(N:Nat):J0Y->Code->Bool
 | .bad,_=>true
 | .skip,c=>match c with
   | .skip=>true
   | .label _=>true
   |_=>false
 | .reg draw pairs ins,c=>match c with
   | .region _ ops d=>draw==d&&JDo P N draw pairs ins ops
   |_=>false
 | .seq a b,c=>match c with
   | .seq x y=>J0O P N a x&&J0O P N b y
   |_=>false
 | .cond o a b,c=>match c with
   | .cond p x y=>J18 o p&&J0O P N a x&&J0O P N b y
   |_=>false
 | .block id a,c=>match c with
   | .block e x=>id==e&&J0O P N a x
   |_=>false
 | .loop _ a,c=>match c with
   | .loop x=>J0O P N a x
   |_=>false
 | .lp _ _ _,_=>false
 | .scope a,c=>match c with
   | .scope x=>J0O P N a x
   |_=>false
 | .exit id,c=>match c with
   | .exit e=>id==e
   |_=>false
 | .ret,c=>match c with
   | .ret=>true
   |_=>false
 | .keep _ a,c=>J0O P N a c
 | .tidy _ a,c=>J0O P N a c
 | .br _ pre o a b rest,c=>match c with
   | .seq (.seq p (.cond q x y)) z=>J0O P N pre p&&J18 o q&&J0O P N a x&&J0O P N b y&&J0O P N rest z
   |_=>false
def J8H:AX->Exit
 | .normal=>.normal
 | .exit id=>.exit id
 | .ret=>.ret
def JiE(P:Program)(c:J0Y)(st:St)(r:Out):Prop:=
 match c with
 | .lp n _ b=> ∃k,∀(N:Nat) (e:Code) (E:Sn) (a:Act) (w:World) (Q:Exit->Act->World->Prop),J0O P N b e=true->E.σ.length<=n->n<=st.sto.length->Sim N E st a w->
    (∀g w',Sim N E r.2 g w'->Q (J8H r.1) g w')->Code.rounds P e Q k a w
 |c=> ∀(N:Nat) (e:Code) (E:Sn) (a:Act) (w:World) (Q:Exit->Act->World->Prop),J0O P N c e=true->Sim N E st a w->
   (∀g w',Sim N E r.2 g w'->Q (J8H r.1) g w')->e.wp P Q a w
theorem JiE.get{P:Program}{c:J0Y}{st:St}{r:Out}(h:JiE P c st r){N:Nat}{e:Code}{E:Sn}{a:Act}{w:World}{Q:Exit->Act->World->Prop}(hc:J0O P N c e=true)(hs:Sim N E st a w)
  (next: ∀g w',Sim N E r.2 g w'->Q (J8H r.1) g w'):e.wp P Q a w:=by
 cases c<;>first|exact h N e E a w Q hc hs next|(simp[J0O]at hc;done)
theorem Jk2{env:List (Nat×AV)}{n:Nat}{x:AV}: ∀{live:List Nat},lk n (restr live env)=some x->lk n env=some x
 |[],h=>by simp[restr,lk]at h
 |k::r,h=>by
  simp only[restr]at h;split at h
  ·rename_i v hv;simp only[lk]at h;split at h
   ·rename_i e;subst e;rw[hv];exact h
   ·exact Jk2 h
  ·exact Jk2 h
theorem JGc{m:Nat}{sto:List Blk}{n:Nat}{y:AV}: ∀{env g:List (Nat×AV)},Jof m sto env=some g->lk n g=some y-> ∃x,lk n env=some x/\fin m [] sto x=some y
 |[],g,h,hy=>by simp[Jof]at h;subst h;simp[lk]at hy
 |(k,x)::r,g,h,hy=>by
  simp only[Jof]at h;split at h
  ·rename_i z l hz hl;injection h with h;subst h;simp only[lk]at hy⊢;split at hy
   ·rename_i e;injection hy with hy;subst hy;exact⟨x,by simp[e],hz⟩
   ·rename_i e;obtain⟨j,h1,h2⟩:=JGc hl hy;exact⟨j,by simp[e,h1],h2⟩
  ·cases h
section
variable {P:Program} {N:Nat} {E:Sn} {st st':St} {a:Act} {w:World}
theorem Sim.restr(h:Sim N E st a w)(live:List Nat):Sim N E ⟨restr live st.env,st.sto⟩ a w:=by obtain⟨h1,h2,g,hi,hr,e⟩:=h;exact⟨h1,h2,g,hi,λn x hx=>hr n x (Jk2 hx),e⟩
theorem Jk4{n:Nat}{live:List Nat}(h:Sim N E st a w)(hc:clean n live st=some st')(z:E.σ.length<=n)(hn:n<=st.sto.length):Sim N E st' a w/\st'.sto.length=n:=by
 unfold clean at hc;split at hc
 ·rename_i e;injection hc with hc;subst hc;exact⟨h.restr live,e⟩
 ·split at hc
  ·rename_i ev l q hl;injection hc with hc;subst hc;obtain⟨h1,h2,g,hi,hr,r⟩:=h;obtain⟨k1,k2⟩:=Jd3 hl;have hlen:l.length=n:=by rw[<-k1];simp;omega
   have o:JHM ⟨st.sto,g,w⟩ n [] l:=by
    refine⟨hi,hn,List.nodup_nil,λb hb=>by simp at hb,by simp[hlen],λk x hk=>?_⟩;have A:=Je hk;have hx:(st.sto.take n)[k]?=some (st.sto[k]'(by omega)):=by rw[JuT (by omega)];exact JF _
    refine⟨_,?_,k2 k _ x hx hk⟩;rw[J8b (by omega)];exact JF _
   refine⟨⟨h1,h2,(J6m ⟨st.sto,g,w⟩ n [] l).g,JG0 o,λk y hy=>?_,JwS o r z⟩,hlen⟩;obtain⟨x,hx,hf⟩:=JGc q hy;obtain⟨v,hv,j⟩:=hr k x (Jk2 hx);exact⟨v,hv,JvH o j hf⟩
  ·cases hc
def J6C(P:Program):List Jod->List ResultVar->Bool
 |[],[]=>true
 | .tmp t::r,.tmp t'::q=>t==t'&&J6C P r q
 | .cell t agg size::r,.cell t' ty::q=>t==t'&&agT P ty==some agg&&szT P ty==some size&&J6C P r q
 |_,_=>false
def JBx(tmps:Array Value):ResultVar->Sem Value
 | .tmp t=>pure (tmps.getD t undef)
 | .cell a t=>do loadVar t (<-asAddr (tmps.getD a undef))
theorem JuY{s:Sn}{env:List (Nat×AV)}{tmps:Array Value}(hi:Inv s)(he:J0m s tmps env): ∀{A:List Jod} {B:List ResultVar} {vs:List AV},J6C P A B=true->(Jcg A).run ⟨env,s.σ⟩=some vs->
  ∃g:List Value,(B.mapM (JBx tmps)).run P s.w=.ok g s.w/\vs.length=g.length/\ ∀(i:Nat) x v,vs[i]?=some x->g[i]?=some v->JH s x v
 |[],[],vs,_,h=>by
  simp only[Jcg,RM.run]at h;injection h with h;subst h
  exact⟨[],by simp,rfl,λi x v h=>by simp at h⟩
 | .tmp t::r,.tmp t'::q,vs,hc,h=>by
   simp only[J6C,JY,beq_iff_eq]at hc;obtain⟨rfl,hc⟩:=hc;simp only[Jcg]at h;obtain⟨x,h1,h⟩:=bind_some h;obtain⟨l,h2,h⟩:=bind_some h;simp only[RM.run]at h;injection h with h;subst h
   simp only[RM.run]at h1;split at h1
   ·rename_i y hy;injection h1 with h1;subst h1;obtain⟨v,hv,hr⟩:=he _ _ hy;obtain⟨g,k1,k2,k⟩:=JuY hi he hc h2;refine⟨v::g,?_,by simp[k2],λi x u hx hu=>?_⟩
    ·rw[List.mapM_cons];simp only[JBx,J5i,J9k,J59,k1,JLE,hv,Juo]
    ·cases i with
     |zero=>simp at hx hu;subst hx hu;exact hr
     |succ i=>exact k i x u (by simpa using hx) (by simpa using hu)
   ·cases h1
 | .cell t agg size::r,.cell t' ty::q,vs,hc,h=>by
   simp only[J6C,JY,beq_iff_eq]at hc;obtain⟨⟨⟨rfl,ha⟩,hz⟩,hc⟩:=hc;simp only[Jcg]at h;obtain⟨x,h1,h⟩:=bind_some h;obtain⟨e,h3,h⟩:=bind_some h;obtain⟨l,h2,h⟩:=bind_some h;simp only[RM.run]at h;injection h with h;subst h
   simp only[RM.run]at h1;split at h1
   ·rename_i y hy;injection h1 with h1;subst h1;obtain⟨v,hv,hr⟩:=he _ _ hy;obtain⟨g,k1,k2,k⟩:=JuY hi he hc h2;obtain⟨C,o,ws,q1,q2,q3,_,D⟩:=JwR hi h3 hr;obtain⟨E,F⟩:=Jqx (P:=P) ha hz q2 q3;have j: ∃u,(loadVar ty ⟨C,o,none⟩).run P s.w=.ok u s.w/\JH s e.val u:=by
     rcases D with⟨rfl,hq⟩|⟨rfl,u,hu,hq⟩
     ·exact⟨_,E rfl,hq⟩
     ·exact⟨u,F rfl u hu,hq⟩
    obtain⟨u,hu,n⟩:=j;refine⟨u::g,?_,by simp[k2],λi x z hx hz=>?_⟩
    ·rw[List.mapM_cons];subst q1;simp only[JBx,J5i,JLE,hv,Juo];simp[asAddr,hu,k1]
    ·cases i with
     |zero=>simp at hx hz;subst hx hz;exact n
     |succ i=>exact k i x z (by simpa using hx) (by simpa using hz)
   ·cases h1
 |[],_::_,_,hc,_=>by simp[J6C]at hc
 | .tmp _::_,[],_,hc,_=>by simp[J6C]at hc
 | .cell _ _ _::_,[],_,hc,_=>by simp[J6C]at hc
 | .tmp _::_,.cell _ _::_,_,hc,_=>by simp[J6C]at hc
 | .cell _ _ _::_,.tmp _::_,_,hc,_=>by simp[J6C]at hc
theorem J9K{m:Nat}{fresh:Bool}{sto:List Blk}: ∀{es:List Ent},∀b∈J4s m fresh sto es,m<=b
 |[],b,h=>by simp[J4s]at h
 | .elem _ _ _::r,b,h=>J9K (es:=r) b (by simpa[J4s]using h)
 | .whole c::r,b,h=>by
   simp only[J4s]at h;split at h
   ·exact J9K (es:=r) b h
   ·rename_i hc;have e:b∈c::J4s m fresh sto r->m<=b:=by
     intro h;rcases J2A.1 h with rfl|h
     ·omega
     ·exact J9K (es:=r) b h
    split at h
    ·exact e h
    ·split at h
     ·exact e h
     ·exact J9K (es:=r) b h
    ·exact J9K (es:=r) b h
theorem JG2{s:Sn}{vs:List AV}{e:List Value}(hl:vs.length=e.length)(hr: ∀(i:Nat) x v,vs[i]?=some x->e[i]?=some v->JH s x v):
  JH s (one vs) (if h:e.toArray.size=1 then e.toArray[0]else .tuple e.toArray):=by
 by_cases h:e.toArray.size=1
 ·rw[dif_pos h];cases e with
  |nil=>simp at h
  |cons u q=>
   cases vs with
   |nil=>simp at hl
   |cons x p=>
    have hq:q=[]:=by simpa using h
    subst hq;have hp:p=[]:=by simpa using hl
    subst hp;exact hr 0 x u rfl rfl
 ·rw[dif_neg h];have:one vs=.tup vs:=by
   match vs,hl with
   |[],_=>rfl
   |[x],hl=>simp at h;simp at hl;omega
   |_::_::_,_=>rfl
  rw[this];exact .tup _ _ (by simpa using hl) λi x v hx hv=>hr i x v hx (by simpa using hv)
theorem JwM{e:AFn}{fn:Func}{m:Nat}{r:Res}(hs:Sim N E st a w)(hm:E.σ.length=m)(h:J3h e m st=some r)(hc:J6C P e.res fn.results.toList=true):
  a.defers=[]/\ ∃v,(results fn a.tmps).run P w=.ok v w/\ ∃g',Inv ⟨r.2,g',w⟩/\J0h E ⟨r.2,g',w⟩/\JH ⟨r.2,g',w⟩ r.1 v:=by
 obtain⟨h1,h2,g,hi,hr,z⟩:=hs;refine⟨h2,?_⟩;unfold J3h at h;cases hvs:(Jcg e.res).run st with
 |none=>rw[hvs]at h;cases h
 |some vs=>
  rw[hvs]at h;dsimp only at h;obtain⟨j,k1,k2,F⟩:=JuY (P:=P) (s:=⟨st.sto,g,w⟩) (env:=st.env) hi hr hc hvs;have A:(results fn a.tmps).run P w=.ok (if h:j.toArray.size=1 then j.toArray[0]else .tuple j.toArray) w:=by
   have:results fn a.tmps=(do
    let vs<-fn.results.mapM (JBx a.tmps)
    pure (if h:vs.size=1 then vs[0]else .tuple vs)):=rfl
   rw[this,Array.mapM_eq_mapM_toList];have G:(fn.results.toList.mapM (JBx a.tmps)).run P w=.ok j w:=k1;simp[G]
  refine⟨_,A,?_⟩;split at h
  ·injection h with h;subst h;exact⟨g,hi,z,JG2 k2 F⟩
  ·split at h
   ·rename_i H;have C:=J9K (m:=m) (fresh:=e.fresh) (sto:=st.sto) (es:=JbD st.sto (J0N.entsOfL vs []) (J0N.entsOfL vs []));generalize J4s m e.fresh st.sto (JbD st.sto (J0N.entsOfL vs []) (J0N.entsOfL vs []))=ids at*;split at h
    ·rename_i ws l q D hl hq;split at h
     ·rename_i q' I;injection h with h;subst h;obtain⟨a1,a2⟩:=J5N D;obtain⟨b1,b2⟩:=Jd3 hl;obtain⟨S,O⟩:=JsT hq;obtain⟨R,L⟩:=Jd3 I;have J:m<=st.sto.length:=by rw[<-hm];exact z.len
      have hlen:l.length=m:=by rw[<-b1];simp;omega
      have B:JHM ⟨st.sto,g,w⟩ m ids (l++q'):=by
       refine⟨hi,J,JcT H,C,by simp;omega,λk x hk=>?_⟩;rcases Jbb hk with hk|⟨Q,hk⟩
       ·have n:=Je hk;have hx:(st.sto.take m)[k]?=some (st.sto[k]'(by omega)):=by rw[JuT (by omega)];exact JF _
        refine⟨_,?_,b2 k _ x hx hk⟩;rw[J8b (by omega)];exact JF _
       ·have n:=Je hk;have hx:q[k-l.length]?=some (q[k-l.length]'(by omega)):=JF _;refine⟨_,?_,L _ _ x hx hk⟩;have y:ids[k-l.length]?=some (ids[k-l.length]'(by omega)):=JF _;have M:=O _ _ _ y hx;have K:J5V m ids k=ids[k-l.length]'(by omega):=by unfold J5V;rw[if_neg (by omega),<-hlen,y];rfl
        rw[K];exact M
      refine⟨_,JG0 B,JwS B z (by omega),JG2 (by omega) λi x v hx hv=>?_⟩;have n:=Je hx;have o:vs[i]?=some (vs[i]'(by omega)):=JF _;exact JvH B (F i _ v o hv) (a2 i _ x o hx)
     ·cases h
    ·cases h
   ·cases h
def J75(P:Program)(f:FuncId)(e:AFn):Bool:=
 match P.funcs[f]? with
 |none=>false
 |some fn=>match fn.body with
  |none=>false
  |some g=>fn.name != "runtime.NumGoroutine" &&e.nt==e.np+(fn.ntmps-e.np)&&J6C P e.res fn.results.toList&&J0O P e.nt e.body g
theorem Juu: ∀{args:List AV} {k n:Nat} {x:AV},lk n (J8o k args)=some x->k<=n/\args[n-k]?=some x
 |[],k,n,x,h=>by simp[J8o,lk]at h
 |y::r,k,n,x,h=>by
  simp only[J8o,lk]at h;split at h
  ·rename_i e;subst e;exact⟨zQ0 _,by simpa using h⟩
  ·rename_i e;obtain⟨h1,h2⟩:=Juu h;refine⟨by omega,?_⟩;rw[show n-k=(n-(k+1))+1 by omega];simpa using h2
end
section
variable {P:Program} {T:J3J}
theorem JKs{f:FuncId}{k:AFn}{args:List AV}{blks:List Blk}{r:Res}(hc:J75 P f k=true)(K:args.length=k.np)
  (h: ∀(o:Code) (g:Gh) (w:World) (a:Act) (Q:Exit->Act->World->Prop),J0O P k.nt k.body o=true->Sim k.nt ⟨blks,g,w⟩ ⟨J8o 0 args,blks⟩ a w->
    (∀e s j w',(e=.normal\/e=.ret)->J3h k blks.length s=some r->Sim k.nt ⟨blks,g,w⟩ s j w'->Q (J8H e) j w')->o.wp P Q a w):J8R P f args blks r:=by
 unfold J75 at hc;split at hc
 ·cases hc
 ·rename_i fn A;split at hc
  ·cases hc
  ·rename_i o hb;simp only[JY,beq_iff_eq,bne_iff_ne,ne_eq]at hc;obtain⟨⟨⟨y,J⟩,D⟩,z⟩:=hc;refine⟨⟨fn,A,by simp[hb],by simpa using y⟩,λg w vals B hlen C=>?_⟩;refine calls_of_wp A hb ?_;have F:Sim k.nt ⟨blks,g,w⟩ ⟨J8o 0 args,blks⟩ {tmps:=vals++Array.replicate (fn.ntmps-vals.size) undef,defers:=[]} w:=by refine⟨by simp;omega,rfl,g,B,λn x hx=>?_,.refl _⟩;obtain⟨_,hx⟩:=Juu hx;rw[Jjs]at hx;have I:=Je hx;refine⟨vals[n]'(by omega),?_,C n x _ hx (Jjt _)⟩;rw[Jox (by omega)];exact Jjt _
   have fin: ∀{s},J3h k blks.length s=some r-> ∀j w',Sim k.nt ⟨blks,g,w⟩ s j w'->j.defers=[]/\ ∃v,(results fn j.tmps).run P w'=.ok v w'/\ ∃E g',Ending.returned v=.returned E/\
     Inv ⟨r.2,g',w'⟩/\J0h ⟨blks,g,w⟩ ⟨r.2,g',w'⟩/\JH ⟨r.2,g',w'⟩ r.1 E:=by
    intro s q j w' hs;obtain⟨q1,v,q2,g',q3,H,G⟩:=JwM hs rfl q D;exact⟨q1,v,q2,v,g',rfl,q3,H,G⟩
   refine h o g w _ _ z F λe s j w' he q hs=>?_;rcases he with rfl|rfl
   ·exact fin q j w' hs
   ·exact fin q j w' hs
theorem JLn{R:J0Y->St->Option Out}(ih: ∀c s r,R c s=some r->JiE P c s r){f:FuncId}{k:J9r}{args:List AV}{blks:List Blk}{r:Res}(hc:J75 P f k.af=true)(K:args.length=k.np)
  (h:JcM R k args blks=some r):J8R P f args blks r:=by
 refine JKs hc K λx g w a Q q C fin=>?_;simp only[J9r.af]at q fin C;cases x<;>simp only[J0O,J5h]at q;rename_i M L;simp only[JY]at q;obtain⟨F,y⟩:=q;unfold JcM at h;split at h
 ·rename_i s0 I;split at h
  ·rename_i s1 E;refine wp_seq ((ih _ _ _ I).get F C λa0 w0 z=>?_);split at y
   ·rename_i cp H U T N;simp only[JY]at y;obtain⟨⟨⟨⟨hp,ho⟩,hx⟩,hy⟩,hz⟩:=y;simp only[J8H,Exit.then];refine wp_seq (wp_seq ((ih _ _ _ E).get hp z λa1 w1 z=>?_))
    have A: ∀{c:J0Y} {x:Code},J0O P k.nt c x=true->Jk1 k.af blks.length (thn (R c s1) λs=>R k.rest s)=some r->
      x.wp P (Exit.then (N.wp P Q) Q) a1 w1:=by
     intro c x hc n;cases hR:R c s1 with
     |none=>rw[hR]at n;cases n
     |some o=>
      obtain⟨e,G⟩:=o;rw[hR]at n;refine(ih _ _ _ hR).get hc z λB w' hs'=>?_;cases e with
      |normal=>
       simp only[thn]at n;cases hR2:R k.rest G with
       |none=>rw[hR2]at n;cases n
       |some O=>
        obtain⟨e2,J⟩:=O;rw[hR2]at n;simp only[J8H,Exit.then];refine(ih _ _ _ hR2).get hz hs' λB w' hs'=>?_;cases e2 with
        |normal=>exact fin .normal J B w' (.inl rfl) n hs'
        |ret=>exact fin .ret J B w' (.inr rfl) n hs'
        |exit id=>cases n
      |exit id=>cases n
      |ret=>exact fin .ret G B w' (.inr rfl) n hs'
    have D:=z;obtain⟨_,_,g,hi,hr,_⟩:=D;simp only[J8H,Exit.then];split at h
    ·rename_i b hb;have j:=J0c (s:=⟨s1.sto,g,w1⟩) (env:=s1.env) hr hb ho;generalize hv:a1.eval H=v at j;cases j with
     |p _ _ j=>
      cases j with
      |b=>
       refine wp_cond hv ?_;cases b with
       |true=>exact A hx (by simpa using h)
       |false=>exact A hy (by simpa using h)
    ·rename_i hb;have j:=J0c (s:=⟨s1.sto,g,w1⟩) (env:=s1.env) hr hb ho;generalize hv:a1.eval H=v at j;cases j with
     |unk t=>
      refine wp_cond hv ?_;unfold Jsb at h;split at h
      ·rename_i S V e1 e2;split at h
       ·rename_i he;injection h with h;subst h;cases t with
        |true=>exact A hx e1
        |false=>rw[<-he]at e2;exact A hy e2
       ·cases h
      ·cases h
    ·cases h
   ·cases y
  ·cases h
 ·cases h
theorem JAg{R:J0Y->St->Option Out}(ih: ∀c s r,R c s=some r->JiE P c s r)(H: ∀f j,T f=some (.fn j)->J75 P f j=true)
  (L: ∀f g,T f=some (.prim g)-> ∀args blks r,g args blks=some r->J8R P f args blks r) (I: ∀f k,T f=some (.fork k)->J75 P f k.af=true):J57 P (Jam T R):=by
 intro f args blks r h;unfold Jam at h;cases hTf:T f with
 |none=>rw[hTf]at h;cases h
 |some en=>
  rw[hTf]at h;cases en with
  |prim g=>exact L f g hTf args blks r h
  |fork k=>
   dsimp only at h;split at h
   ·rename_i y;exact JLn ih (I f k hTf) y h
   ·cases h
  |fn j=>
   dsimp only at h;split at h
   ·rename_i y;have hc:=H f j hTf;unfold J75 at hc;split at hc
    ·cases hc
    ·rename_i fn A;split at hc
     ·cases hc
     ·rename_i G hb;simp only[JY,beq_iff_eq,bne_iff_ne,ne_eq]at hc;obtain⟨⟨⟨q,N⟩,D⟩,o⟩:=hc;refine⟨⟨fn,A,by simp[hb],by simpa using q⟩,λg w vals B hlen C=>?_⟩;refine calls_of_wp A hb ?_;have z:Sim j.nt ⟨blks,g,w⟩ ⟨J8o 0 args,blks⟩ {tmps:=vals++Array.replicate (fn.ntmps-vals.size) undef,defers:=[]} w:=by refine⟨by simp;omega,rfl,g,B,λn x hx=>?_,.refl _⟩;obtain⟨_,hx⟩:=Juu hx;rw[Jjs]at hx;have M:=Je hx;refine⟨vals[n]'(by omega),?_,C n x _ hx (Jjt _)⟩;rw[Jox (by omega)];exact Jjt _
      have fin: ∀{s},J3h j blks.length s=some r-> ∀e w',Sim j.nt ⟨blks,g,w⟩ s e w'->e.defers=[]/\ ∃v,(results fn e.tmps).run P w'=.ok v w'/\ ∃F g',Ending.returned v=.returned F/\
        Inv ⟨r.2,g',w'⟩/\J0h ⟨blks,g,w⟩ ⟨r.2,g',w'⟩/\JH ⟨r.2,g',w'⟩ r.1 F:=by
       intro s E e w' hs;obtain⟨q1,v,q2,g',q3,K,J⟩:=JwM hs rfl E D;exact⟨q1,v,q2,v,g',rfl,q3,K,J⟩
      split at h
      ·rename_i s hR;exact(ih _ _ _ hR).get o z λe w' hs=>fin h e w' hs
      ·rename_i s hR;exact(ih _ _ _ hR).get o z λe w' hs=>fin h e w' hs
      ·cases h
   ·cases h
theorem JMt(V:P.follows .mixedOrders=true)(hT: ∀f af,T f=some (.fn af)->J75 P f af=true)
  (hP: ∀f g,T f=some (.prim g)-> ∀args blks r,g args blks=some r->J8R P f args blks r) (hK: ∀f k,T f=some (.fork k)->J75 P f k.af=true): ∀c s r,X T c s=some r->JiE P c s r:=by
 refine JQ2 T _ ?_;intro R ih c s r h;have hF:J57 P (Jam T R):=JAg ih hT hP hK;cases c with
 |skip=>
  simp only[step]at h;injection h with h;subst h
  intro N j E a w Q hc hs next;cases j<;>first
   |exact wp_skip (next a w hs)
   |exact wp_label (next a w hs)
   |(simp[J0O]at hc;done)
 |bad=>simp only[step]at h;cases h
 |reg d pairs ins=>
  simp only[step]at h;split at h
  ·rename_i s' S;injection h with h;subst h;intro N j E a w Q hc hs next;cases j<;>simp only[J0O,J5h]at hc;simp only[JY,beq_iff_eq]at hc;obtain⟨rfl,hc⟩:=hc;exact JO6 hF V S hc hs next
  ·cases h
 |seq x y=>
  simp only[step]at h;intro N j E a w Q hc hs next;cases j<;>simp only[J0O,J5h]at hc;simp only[JY]at hc;refine wp_seq ?_;split at h
  ·rename_i s' hx;refine(ih _ _ _ hx).get hc.1 hs λA w' hs'=>?_;exact(ih _ _ _ h).get hc.2 hs' next
  ·rename_i C;refine(ih _ _ _ h).get hc.1 hs λA w' hs'=>?_;obtain⟨e,s'⟩:=r;cases e with
   |normal=>exact absurd h (by simpa using C s')
   |exit id=>exact next A w' hs'
   |ret=>exact next A w' hs'
 |cond c x y=>
  simp only[step]at h;intro N j E a w Q hc hs next;cases j<;>simp only[J0O,J5h]at hc;simp only[JY]at hc;obtain⟨⟨O,hx⟩,hy⟩:=hc;have hs':=hs;obtain⟨_,_,g,hi,hr,_⟩:=hs';split at h
  ·rename_i b hb;have q:=J0c (s:=⟨s.sto,g,w⟩) (env:=s.env) hr hb O;generalize hv:a.eval _=v at q;cases q with
   |p _ _ q=>
    cases q with
    |b=>
     refine wp_cond hv ?_;cases b with
     |true=>exact(ih _ _ _ (by simpa using h)).get hx hs next
     |false=>exact(ih _ _ _ (by simpa using h)).get hy hs next
  ·rename_i hb;have q:=J0c (s:=⟨s.sto,g,w⟩) (env:=s.env) hr hb O;generalize hv:a.eval _=v at q;cases q with
   |unk t=>
    refine wp_cond hv ?_;unfold same at h;split at h
    ·rename_i r1 r2 e1 e2;split at h
     ·rename_i he;injection h with h;subst h;cases t with
      |true=>exact(ih _ _ _ e1).get hx hs next
      |false=>rw[he]at next;exact(ih _ _ _ e2).get hy hs next
     ·cases h
    ·cases h
  ·cases h
 |block id x=>
  simp only[step]at h;intro N j E a w Q hc hs next;cases j<;>simp only[J0O,J5h]at hc;simp only[JY,beq_iff_eq]at hc;obtain⟨rfl,hc⟩:=hc;refine wp_block ?_;split at h
  ·rename_i k s' hx;refine(ih _ _ _ hx).get hc hs λA w' hs'=>?_;simp only[J8H,Exit.inBlock];split at h
   ·rename_i e;injection h with h;subst h;rw[if_pos e];exact next A w' hs'
   ·rename_i e;injection h with h;subst h;rw[if_neg e];exact next A w' hs'
  ·rename_i C;refine(ih _ _ _ h).get hc hs λA w' hs'=>?_;obtain⟨e,s'⟩:=r;cases e with
   |normal=>exact next A w' hs'
   |exit id=>exact absurd h (by simpa using C id s')
   |ret=>exact next A w' hs'
 |loop live x=>
  simp only[step]at h;intro N j E a w Q hc hs next;cases j<;>simp only[J0O,J5h]at hc;split at h
  ·rename_i s' B;obtain⟨k,hk⟩:=ih _ _ _ h;have H:E.σ.length<=s.sto.length:=by obtain⟨_,_,g,_,_,z⟩:=hs;exact z.len
   obtain⟨hs',hl⟩:=Jk4 hs B H (zQ0 _);exact wp_loop_rounds k (hk N _ E a w Q hc H (by omega) hs' next)
  ·cases h
 |lp n live x=>
  simp only[step]at h;split at h
  ·rename_i s' hx;split at h
   ·rename_i ab B;obtain⟨k,hk⟩:=ih _ _ _ h;refine⟨k+1,λN j E a w Q hc H hn hs next=>?_⟩;rw[rounds_succ];obtain⟨h1,h2,g,hi,hr,z⟩:=hs;have D:Sim N ⟨s.sto,g,w⟩ s a w:=⟨h1,h2,g,hi,hr,.refl _⟩;refine(ih _ _ _ hx).get hc D λA w' hs'=>?_;obtain⟨q1,q2,g',J,L,F⟩:=hs';have hlen:s.sto.length<=s'.sto.length:=F.len;have Z:Sim N E s' A w':=⟨q1,q2,g',J,L,z.trans F⟩;obtain⟨a0,hl⟩:=Jk4 Z B H (by omega);exact hk N j E A w' Q hc H (by omega) a0 next
   ·cases h
  ·rename_i C;refine⟨1,λN j E a w Q hc H hn hs next=>?_⟩;rw[rounds_succ];refine(ih _ _ _ h).get hc hs λA w' hs'=>?_;obtain⟨e,s'⟩:=r;cases e with
   |normal=>exact absurd h (by simpa using C s')
   |exit id=>exact next A w' hs'
   |ret=>exact next A w' hs'
 |scope x=>
  simp only[step]at h;intro N j E a w Q hc hs next;cases j<;>simp only[J0O,J5h]at hc;refine wp_scope_straight ((ih _ _ _ h).get hc hs λA w' hs'=>?_);have:=next A w' hs';obtain⟨e,s'⟩:=r;cases e<;>exact this
 |exit id=>
  simp only[step]at h;injection h with h;subst h
  intro N j E a w Q hc hs next;cases j<;>simp only[J0O,J5h]at hc;simp only[beq_iff_eq]at hc;subst hc;exact wp_exit (next a w hs)
 |ret=>
  simp only[step]at h;injection h with h;subst h
  intro N j E a w Q hc hs next;cases j<;>simp only[J0O,J5h]at hc;exact wp_ret (next a w hs)
 |keep live x=>
  simp only[step]at h;intro N j E a w Q hc hs next;exact(ih _ _ _ h).get (by simpa only[J0O]using hc) (hs.restr live) next
 |tidy live x=>
  simp only[step,J6e]at h;intro N j E a w Q hc hs next;split at h
  ·rename_i e M he;split at h
   ·rename_i W B;injection h with h;subst h;obtain⟨h1,h2,g,hi,hr,z⟩:=hs;have D:Sim N ⟨s.sto,g,w⟩ s a w:=⟨h1,h2,g,hi,hr,.refl _⟩;refine(ih _ _ _ he).get (by simpa only[J0O]using hc) D λA w' hs'=>next A w' ?_;obtain⟨q1,q2,g',J,L,F⟩:=hs';exact(Jk4 (st:=M) (st':=W) ⟨q1,q2,g',J,L,z.trans F⟩ B z.len F.len).1
   ·cases h
  ·cases h
 |br live pre o x y rest=>
  simp only[step]at h;intro N j E a w Q hc hs next;unfold J0O at hc;split at hc
  ·rename_i cp cq cx cy cz;simp only[JY]at hc;obtain⟨⟨⟨⟨hp,ho⟩,hx⟩,hy⟩,hz⟩:=hc;split at h
   ·rename_i s1 Y;refine wp_seq (wp_seq ((ih _ _ _ Y).get hp hs λa1 w1 G=>?_))
    have K: ∀{c:J0Y} {j:Code} {r':Out},J0O P N c j=true->thn (R c s1) (λs=>R rest s)=some r'->
      ∀{E:Sn} {a:Act} {w:World} {Q:Exit->Act->World->Prop},Sim N E s1 a w->(∀A w',Sim N E r'.2 A w'->Q (J8H r'.1) A w')->j.wp P (Exit.then (cz.wp P Q) Q) a w:=by
     intro c j r' hc z E a w Q hs next;cases hR:R c s1 with
     |none=>rw[hR]at z;cases z
     |some o=>
      obtain⟨e,M⟩:=o;rw[hR]at z;refine(ih _ _ _ hR).get hc hs λA w' hs'=>?_;cases e with
      |normal=>exact(ih _ _ _ z).get hz hs' next
      |exit id=>injection z with z;subst z;exact next A w' hs'
      |ret=>injection z with z;subst z;exact next A w' hs'
    have I: ∀{c:J0Y} {j:Code},J0O P N c j=true->J6e s1.sto.length live (thn (R c s1) λs=>R rest s)=some r->j.wp P (Exit.then (cz.wp P Q) Q) a1 w1:=by
     intro c j hc z;unfold J6e at z;split at z
     ·rename_i e M he;split at z
      ·rename_i W B;injection z with z;subst z;obtain⟨h1,h2,g,hi,hr,z⟩:=G;have D:Sim N ⟨s1.sto,g,w1⟩ s1 a1 w1:=⟨h1,h2,g,hi,hr,.refl _⟩;refine K hc he D λA w' hs'=>next A w' ?_;obtain⟨q1,q2,g',J,L,F⟩:=hs';exact(Jk4 (st:=M) (st':=W) ⟨q1,q2,g',J,L,z.trans F⟩ B z.len F.len).1
      ·cases z
     ·cases z
    have U:=G;obtain⟨_,_,g,hi,hr,_⟩:=U;simp only[J8H,Exit.then];split at h
    ·rename_i b hb;have q:=J0c (s:=⟨s1.sto,g,w1⟩) (env:=s1.env) hr hb ho;generalize hv:a1.eval cq=v at q;cases q with
     |p _ _ q=>
      cases q with
      |b=>
       refine wp_cond hv ?_;cases b with
       |true=>exact K hx (by simpa using h) G next
       |false=>exact K hy (by simpa using h) G next
    ·rename_i hb;have q:=J0c (s:=⟨s1.sto,g,w1⟩) (env:=s1.env) hr hb ho;generalize hv:a1.eval cq=v at q;cases q with
     |unk t=>
      refine wp_cond hv ?_;unfold same at h;split at h
      ·rename_i r1 r2 e1 e2;split at h
       ·rename_i he;injection h with h;subst h;cases t with
        |true=>exact I hx e1
        |false=>rw[<-he]at e2;exact I hy e2
       ·cases h
      ·cases h
    ·cases h
   ·cases h
  ·cases hc
theorem JPw(e:P.follows .mixedOrders=true)(j: ∀f o,T f=some (.fn o)->J75 P f o=true)
  (h: ∀f g,T f=some (.prim g)-> ∀args blks r,g args blks=some r->J8R P f args blks r) (n: ∀f k,T f=some (.fork k)->J75 P f k.af=true):J57 P (AF T):=
 JAg (JMt e j h n) j h n
end
end Go.Am
end
section
namespace Go.Am
@[congr] theorem JPS{o e:Option Out}{k:St->Option Out}(h:o=e):thn o k=thn e k:=by rw[h]
@[congr] theorem JP7{α β:Type}{o e:RM α}{f:α->RM β}(h:o=e):o.bind f=e.bind f:=by rw[h]
@[congr] theorem JP8{α β:Type}{o e:Option α}{f:α->Option β}(h:o=e):o.bind f=e.bind f:=by rw[h]
@[simp] theorem Ja7(s k):thn (some (.normal,s)) k=k s:=rfl
@[simp] theorem JKO(i s k):thn (some (.exit i,s)) k=some (.exit i,s):=rfl
@[simp] theorem JMr(s k):thn (some (.ret,s)) k=some (.ret,s):=rfl
@[simp] theorem JJS(k):thn none k=none:=rfl
def JCv(o:Option Out)(k:St->Option Out):Option Out:=
 match o with
 |some (.normal,s)=>k s
 |_=>none
@[congr] theorem JPc{o e:Option Out}{k:St->Option Out}(h:o=e):JCv o k=JCv e k:=by rw[h]
@[simp] theorem JEI(s k):JCv (some (.normal,s)) k=k s:=rfl
def blo(id:Nat)(o:Option Out):Option Out:=
 match o with
 |some (.exit k,s)=>if k=id then some (.normal,s)else some (.exit k,s)
 |o=>o
@[simp] theorem JHJ(id s):blo id (some (.normal,s))=some (.normal,s):=rfl
@[simp] theorem JBF(id i s):blo id (some (.exit i,s))=if i=id then some (.normal,s)else some (.exit i,s):=rfl
@[simp] theorem JNc(id s):blo id (some (.ret,s))=some (.ret,s):=rfl
@[simp] theorem JKw(id):blo id none=none:=rfl
def nrm(o:Option St):Option Out:=match o with
 |some s=>some (.normal,s)
 |none=>none
@[simp] theorem JLL(s):nrm (some s)=some (.normal,s):=rfl
@[simp] theorem JL4:nrm none=none:=rfl
def evv(x:Opd)(env:List (Nat×AV)):Option AV:=match x with
 | .t n=>lk n env
 | .c v=>some v
@[simp] theorem JQk(n env):evv (.t n) env=lk n env:=rfl
@[simp] theorem JQl(v env):evv (.c v) env=some v:=rfl
theorem Jto(x:Opd)(s:St):(ev x).run s=evv x s.env:=by
 cases x with
 |t n=>simp only[ev,RM.run,evv];cases lk n s.env<;>rfl
 |c v=>rfl
section
variable (T:J3J)
@[simp ↓] theorem JNO(s):X T .skip s=some (.normal,s):=by rw[Jbf];rfl
@[simp ↓] theorem JLU(a b s):X T (.seq a b) s=thn (X T a s) λs=>X T b s:=by
 rw[Jbf];simp only[step];cases X T a s with
 |none=>rfl
 |some o=>obtain⟨e,s'⟩:=o;cases e<;>rfl
theorem JM3(d ps ins s):X T (.reg d ps ins) s=nrm (region (AF T) ps ins s):=by rw[Jbf];simp only[step];show(match region (AF T) ps ins s with|some s'=>some (AX.normal,s')|none=>none)=_;cases region (AF T) ps ins s<;>rfl
@[simp ↓] theorem JQh(d ins env sto):X T (.reg d [] ins) ⟨env,sto⟩=nrm (J2U (AF T) ins sto.length ⟨env,room (news ins) sto⟩):=by rw[JM3];rfl
def cnd(x:Option AV)(a b:Option Out)(c:Unit->Option Out):Option Out:=
 match x with
 |some (.p (.b x))=>if x=true then a else b
 |some .unk=>c ()
 |_=>none
@[congr] theorem JPQ{x e:Option AV}{a b:Option Out}{c:Unit->Option Out}(h:x=e):cnd x a b c=cnd e a b c:=by rw[h]
@[simp] theorem JM4(x a b c):cnd (some (.p (.b x))) a b c=if x=true then a else b:=rfl
@[simp] theorem JNi(a b c):cnd (some .unk) a b c=c ():=rfl
@[simp ↓] theorem JNs(x a b s):X T (.cond x a b) s=cnd (evv x s.env) (X T a s) (X T b s) λ_=>same (X T a s) (X T b s):=by
 rw[Jbf];simp only[step,Jto];cases evv x s.env with
 |none=>rfl
 |some v=>
  cases v with
  |p c=>cases c<;>rfl
  |_=>rfl
@[simp ↓] theorem JMj(id c s):X T (.block id c) s=blo id (X T c s):=by
 rw[Jbf];simp only[step];cases X T c s with
 |none=>rfl
 |some o=>obtain⟨e,s'⟩:=o;cases e<;>rfl
@[simp ↓] theorem JMB(c s):X T (.scope c) s=X T c s:=by rw[Jbf];rfl
@[simp ↓] theorem JNw(id s):X T (.exit id) s=some (.exit id,s):=by rw[Jbf];rfl
@[simp ↓] theorem JPA(s):X T .ret s=some (.ret,s):=by rw[Jbf];rfl
@[simp ↓] theorem JJC(live c s):X T (.keep live c) s=X T c ⟨restr live s.env,s.sto⟩:=by rw[Jbf];rfl
@[simp ↓] theorem JQn(live pre x a b rest s):X T (.br live pre x a b rest) s=JCv (X T pre s) λs1=>
  cnd (evv x s1.env) (thn (X T a s1) λs=>X T rest s) (thn (X T b s1) λs=>X T rest s) λ_=>
   same (J6e s1.sto.length live (thn (X T a s1) λs=>X T rest s)) (J6e s1.sto.length live (thn (X T b s1) λs=>X T rest s)):=by
 rw[Jbf];simp only[step,Jto];cases X T pre s with
 |none=>rfl
 |some o=>
  obtain⟨e,s1⟩:=o;cases e with
  |normal=>
   dsimp only[JCv];cases evv x s1.env with
   |none=>rfl
   |some v=>
    cases v with
    |p c=>cases c<;>rfl
    |_=>rfl
  |exit=>rfl
  |ret=>rfl
@[simp ↓] theorem JOo(live c env sto):X T (.loop live c) ⟨env,sto⟩=X T (.lp sto.length live c) ⟨restr live env,sto⟩:=by rw[Jbf];simp[step,clean]
theorem JKE(n live c s):X T (.lp n live c) s=thn (X T c s) λs=>match clean n live s with
  |some s=>X T (.lp n live c) s
  |none=>none:=by
 rw[Jbf];simp only[step];cases X T c s with
 |none=>rfl
 |some o=>obtain⟨e,s'⟩:=o;cases e<;>rfl
def JDl(res:List Jod)(fresh:Bool)(m:Nat)(o:Option Out):Option Res:=
 match o with
 |some (.normal,s)=>J3h ⟨0,0,.skip,res,fresh⟩ m s
 |some (.ret,s)=>J3h ⟨0,0,.skip,res,fresh⟩ m s
 |_=>none
@[congr] theorem JPz{res:List Jod}{fresh:Bool}{m:Nat}{o e:Option Out}(h:o=e):JDl res fresh m o=JDl res fresh m e:=by rw[h]
@[simp] theorem JEP(res fresh m s):JDl res fresh m (some (.normal,s))=J3h ⟨0,0,.skip,res,fresh⟩ m s:=rfl
@[simp] theorem JLp(res fresh m s):JDl res fresh m (some (.ret,s))=J3h ⟨0,0,.skip,res,fresh⟩ m s:=rfl
theorem JNj{f:FuncId}{k:J9r}(h:T f=some (.fork k))(args blks):AF T f args blks=if args.length=k.np then JcM (X T) k args blks else none:=by unfold AF Jam;rw[h]
@[simp] theorem JPo(o:Option Res):Jsb o o=o:=by unfold Jsb;cases o<;>simp
theorem JPK{f:FuncId}{fn:AFn}(h:T f=some (.fn fn))(args blks):AF T f args blks=if args.length=fn.np then
  JDl fn.res fn.fresh blks.length (X T fn.body ⟨J8o 0 args,blks⟩)
 else none:=by
 unfold AF Jam;rw[h];rfl
end
variable {F:Orc} {env:List (Nat×AV)} {sto:List Blk} {new:Nat} {r:List J1l} {d:Nat}
@[simp] theorem JGz(s):J2U F [] new s=some s:=rfl
theorem JEM(i s):J2U F (i::r) new s=((J1j F i new).run s).bind λe=>J2U F r (new+J5c i.op) (put i.dst e s):=by simp only[J2U];cases(J1j F i new).run s<;>rfl
@[simp] theorem JPZ:news []=0:=rfl
@[simp ↓] theorem JPR(i):news (i::r)=J5c i.op+news r:=rfl
@[simp] theorem JQi:room 0 sto=sto:=rfl
@[simp] theorem JPO(n):room (n+1) sto=sto++List.replicate (n+1) .dead:=rfl
@[simp] theorem JQj(n):lk n []=none:=rfl
@[simp] theorem JMP(n m v)(r:List (Nat×AV)):lk n ((m,v)::r)=if n=m then some v else lk n r:=rfl
attribute [simp ↓] JEM J1j opD JcX J5c run_bind Jto opR
attribute [simp] put val evs evo J3q J4h
 Jcf JrR JrH unP J8m JD6 fz fz.fzL fz.fz1 fzs J7x J43 J3A sub spl J8Q Jsh Juh JoI JoU J6d JtA JnV J64 J4W JbU Jc2 J2w J61 J7u mmP cellsOf unp J68 J53
 Jcg one J8o J2a Jdx J4b
@[simp] theorem JPT(o:Option Out):same o o=o:=by unfold same;cases o<;>simp
@[simp ↓] theorem JE{α:Type}(a:α)(s:St):(RM.ret a).run s=some a:=rfl
@[simp ↓] theorem JLx{α:Type}(s:St):(RM.fail:RM α).run s=none:=rfl
@[simp ↓] theorem J7p{α:Type}(n:Nat)(k:AV->RM α)(s:St):(RM.slot n k).run s=(lk n s.env).bind λv=>(k v).run s:=by simp only[RM.run];cases lk n s.env<;>rfl
@[simp ↓] theorem J1i{α:Type}(n:Nat)(k:Blk->RM α)(s:St):(RM.blk n k).run s=(s.sto[n]?).bind λv=>(k v).run s:=by simp only[RM.run];cases s.sto[n]?<;>rfl
@[simp] theorem JMe:upd [] sto=sto:=rfl
@[simp] theorem JKJ(b x ws):upd ((b,x)::ws) sto=upd ws (sto.set b x):=rfl
@[simp] theorem JPP:restr [] env=[]:=rfl
@[simp] theorem JHP(k l):restr (k::l) env=match lk k env with
 |some v=>(k,v)::restr l env
 |none=>restr l env:=rfl
end Go.Am
namespace Go.Am
def J7C:AV->Bool
 | .p _| .data _| .cp _ _| .unk=>true
 |_=>false
@[simp] theorem JQ0(c):J7C (.p c)=true:=rfl
@[simp] theorem JP9(c):J7C (.data c)=true:=rfl
@[simp] theorem JPN(c o):J7C (.cp c o)=true:=rfl
theorem Js2: ∀{args:List AV} {l:List Ent},args.all J7C=true->J0N.entsOfL args l=l
 |[],l,_=>rfl
 |x::r,l,h=>by
  simp only[List.all_cons,JY]at h;obtain⟨h1,h2⟩:=h;simp only[J0N.entsOfL];cases x<;>simp[J7C]at h1<;>simp only[J0N]<;>exact Js2 h2
theorem JwT{ρ:Ent->Option Nat}: ∀{args:List AV},args.all J7C=true->ren.renL ρ args=some args
 |[],_=>rfl
 |x::r,h=>by
  simp only[List.all_cons,JY]at h;have:=JwT (ρ:=ρ) h.2;have h1:=h.1;clear h;cases x<;>simp[J7C]at h1<;>simp[ren.renL,ren,this]
theorem JKR{es:List Ent}{new:Nat}{x:AV}(h:J7C x=true):bk es new x=some x:=by cases x<;>simp[J7C]at h<;>rfl
theorem JnK{es:List Ent}{new:Nat}: ∀{xs:List AV},xs.all J7C=true->bk.bkL es new xs=some xs
 |[],_=>rfl
 |x::r,h=>by
  simp only[List.all_cons,JY]at h;simp[bk.bkL,JKR h.1,JnK h.2]
@[simp] theorem JQm(es new c):bk es new (.p c)=some (.p c):=rfl
@[simp] theorem JQf(es new c):bk es new (.data c)=some (.data c):=rfl
@[simp] theorem JQg(es new l):bk es new (.tup l)=(bk.bkL es new l).map .tup:=by simp only[bk];cases bk.bkL es new l<;>rfl
@[simp] theorem JQe(es new):bk.bkL es new []=some []:=rfl
@[simp] theorem JQ3(es new x l):bk.bkL es new (x::l)=(bk es new x).bind λy=>(bk.bkL es new l).map λl=>y::l:=by simp only[bk.bkL];cases bk es new x<;>simp;cases bk.bkL es new l<;>rfl
@[simp] theorem JPa(n live):J6e n live none=none:=rfl
@[simp] theorem JEd(n live e s):J6e n live (some (e,s))=(clean n live s).map λs=>(e,s):=by simp only[J6e];cases clean n live s<;>rfl
attribute [simp ↓] JJ Option.bind_none Ja7 JKO JMr JJS JEI JLL JL4 JM4 JNi JHJ JBF JNc JKw JEP JLp JGz JMP JHP JMe JKJ
attribute [simp] clean Jof JbI J4R fin fin.finL J3h J4s JbD J0N J0N.entsOfL JbW J4w Jf1 J4r unp
end Go.Am
end
section
namespace Go.Am
inductive Fr where
 |sq (b:J0Y)
 |bl (id:Nat)
 |td (n:Nat) (live:List Nat)
 |lo (n:Nat) (live:List Nat) (c:J0Y)
noncomputable def again(T:J3J)(n:Nat)(live:List Nat)(c:J0Y)(o:Option St):Option Out:=match o with
 |some s=>X T (.lp n live c) s
 |none=>none
section
variable (T:J3J) (f:AFn) (m:Nat) (k:List Fr)
theorem JNX(live c s):X T (.tidy live c) s=J6e s.sto.length live (X T c s):=by rw[Jbf];rfl
end
open Classical in
noncomputable def Jf{σ ρ:Type}(f:σ->Option (σ⊕ρ))(s:σ):Option ρ:=
 let e:Nat->σ->Option ρ:=λn=>n.rec (λ_=>none) λ_ ih s=>match f s with
  |some (.inl s')=>ih s'
  |some (.inr r)=>some r
  |none=>none
 if h: ∃n r,e n s=some r then e (Classical.choose h) s else none
def J26{σ ρ:Type}(f:σ->Option (σ⊕ρ)):Nat->σ->Option ρ
 |0,_=>none
 |n+1,s=>match f s with
  |some (.inl s')=>J26 f n s'
  |some (.inr r)=>some r
  |none=>none
section
variable {σ ρ:Type} {f:σ->Option (σ⊕ρ)}
theorem Jun(n:Nat): ∀s:σ,(Nat.rec (motive:=λ_=>σ->Option ρ) (λ_=>none) (λ_ ih s=>match f s with
  |some (.inl s')=>ih s'
  |some (.inr r)=>some r
  |none=>none) n) s=J26 f n s:=by
 induction n with
 |zero=>intro s;rfl
 |succ n ih=>intro s;simp only[J26];split<;>first|rfl|exact ih _
theorem Joo: ∀{n:Nat} {s:σ} {r:ρ} (m:Nat),J26 f n s=some r->J26 f (n+m) s=some r
 |0,_,_,_,h=>by cases h
 |n+1,s,r,m,h=>by
  rw[show n+1+m=(n+m)+1 by omega];simp only[J26]at h⊢;split at h
  ·exact Joo m h
  ·exact h
  ·cases h
theorem JKc{n m:Nat}{s:σ}{r r':ρ}(h:J26 f n s=some r)(e:J26 f m s=some r'):r=r':=by have a:=Joo m h;have b:=Joo n e;rw[Nat.add_comm m n]at b;rw[a]at b;injection b
theorem J2r{s:σ}{r:ρ}:Jf f s=some r↔ ∃n,J26 f n s=some r:=by
 unfold Jf;dsimp only;constructor
 ·intro h;split at h
  ·exact⟨_,by rw[<-Jun];exact h⟩
  ·cases h
 ·rintro⟨n,h⟩;have e: ∃n r,(Nat.rec (motive:=λ_=>σ->Option ρ) (λ_=>none) (λ_ ih s=>match f s with
   |some (.inl s')=>ih s'
   |some (.inr r)=>some r
   |none=>none) n) s=some r:=⟨n,r,by rw[Jun];exact h⟩
  rw[dif_pos e];obtain⟨r',hr⟩:=Classical.choose_spec e;rw[hr];rw[Jun]at hr;rw[JKc hr h]
theorem J6t{s:σ}{r:ρ}(h:f s=some (.inr r)):Jf f s=some r:=J2r.2 ⟨1,by simp only[J26,h]⟩
theorem Jap{s s':σ}(h:f s=some (.inl s')):Jf f s=Jf f s':=by
 have e: ∀r,Jf f s=some r↔Jf f s'=some r:=by
  intro r;rw[J2r,J2r];constructor
  ·rintro⟨n,hn⟩;cases n with
   |zero=>cases hn
   |succ n=>simp only[J26,h]at hn;exact⟨n,hn⟩
  ·rintro⟨n,hn⟩;exact⟨n+1,by simp only[J26,h];exact hn⟩
 cases hs:Jf f s with
 |some r=>exact((e r).1 hs).symm
 |none=>
  cases hs':Jf f s' with
  |none=>rfl
  |some r=>rw[(e r).2 hs']at hs;cases hs
theorem JoP{P:σ->ρ->Prop}(h1: ∀s r,f s=some (.inr r)->P s r)(h2: ∀s s' r,f s=some (.inl s')->P s' r->P s r){s:σ}{r:ρ}(h:Jf f s=some r):P s r:=by
 obtain⟨n,hn⟩:=J2r.1 h;clear h
 induction n generalizing s with
 |zero=>cases hn
 |succ n ih=>
  simp only[J26]at hn;split at hn
  ·rename_i h;exact h2 _ _ _ h (ih hn)
  ·rename_i h;injection hn with hn;subst hn;exact h1 _ _ h
  ·cases hn
end
end Go.Am
end
section
namespace Go.Am
section
variable {α:Type}
def idx(l:List α)(n:Int):Option α:=if 0<=n then l[n.toNat]? else none
def inb(k:Nat)(n:Int):Option Unit:=if 0<=n/\n<k then some ()else none
def Jy(bytes:Nat)(l e:List α):Option (List α):=if J61 (l.length+e.length) bytes=true then some (l++e)else none
def J1g(bytes:Nat)(l:List α):Option (List α):=if J61 l.length bytes=true then some l else none
def JOw(bytes:Nat)(l e:List α):Option (List α):=if 0<e.length/\J61 (l.length+e.length) bytes=true then some (l++e)else none
def mkS(bytes:Nat)(n m:Int)(z:α):Option (List α):=if 0<=n/\n<=m/\bytes*m<=281474976710656/\m<=281474976710656 then some (List.replicate n.toNat z)else none
def JuE(x:Option Int)(top e:Nat):Option Nat:=match x with
 |none=>some e
 |some n=>if 0<=n/\n<=top then some n.toNat else none
def Jr3(n:Nat)(lo hi:Option Int):Option (Nat×Nat):=match JuE hi n n with
 |none=>none
 |some h=>match JuE lo h 0 with
  |none=>none
  |some l=>some (l,h)
def J0z(l:List α)(lo hi:Option Int):Option (List α):=match Jr3 l.length lo hi with
 |some c=>some ((l.drop c.1).take (c.2-c.1))
 |none=>none
def JNz(k:IntKind)(x y:Int):Option Int:=if y=0 then none else some (k.wrap (x.tdiv y))
def JnN(x y:Int):Option Int:=if y=0 then none else some (x.tmod y)
def JrM(k:IntKind)(x y:Int):Option Int:=if y<0 then none else some (k.wrap (x*2^(min y.toNat k.bits)))
def Jn3(k:IntKind)(x y:Int):Option Int:=if y<0 then none else some (x.fdiv (2^(min y.toNat k.bits)))
def JAo(k:IntKind)(x y:Int):Int:=k.wrap (BitVec.ofInt k.bits x&&&BitVec.ofInt k.bits y).toNat
def orI(k:IntKind)(x y:Int):Int:=k.wrap (BitVec.ofInt k.bits x|||BitVec.ofInt k.bits y).toNat
def JgH(k:IntKind)(x y:Int):Int:=k.wrap (BitVec.ofInt k.bits x^^^BitVec.ofInt k.bits y).toNat
def JJV(k:IntKind)(n:Int):Int:=k.wrap (BitVec.ofInt k.bits (if k.signed then -1 else k.max)^^^BitVec.ofInt k.bits n).toNat
def J6n(a b:List UInt8):Option (List UInt8):=if a.length+b.length<=4611686018427387904 then some (a++b)else none
def Jow(l:List UInt8)(n:Int):Option Int:=if 0<=n then(match l[n.toNat]? with|some u=>some (u.toNat:Int)|none=>none)else none
def JLF{k:Nat}(v:Vector α k)(n:Int):Option α:=if 0<=n/\n<k then v[n.toNat]? else none
def toStr(l:List Int):List UInt8:=l.map λn=>UInt8.ofNat n.toNat
def toByt(l:List UInt8):List Int:=l.map λu=>(u.toNat:Int)
def JaZ(x y:Int):Int:=if y<x then y else x
def J1P(x y:Int):Int:=if y>x then y else x
end
@[reducible] def cat(a b:List PV):List PV:=a++b
def r_i(k:IntKind)(n:Int):List PV:=[.i k n]
def r_b(x:Bool):List PV:=[.b x]
def r_s(l:List UInt8):List PV:=[.s l]
def JQ8{α:Type}(esz:Nat)(r:α->List PV)(l:List α):List PV:=[.sl esz (l.map r)]
def J9S{α:Type}{n:Nat}(r:α->List PV)(v:Vector α n):List PV:=(v.toList.map r).flatten
section
variable {α:Type}
theorem J7U(cs:List α)(off size:Nat):sub cs off size=if off+size<=cs.length then some ((cs.drop off).take size)else none:=by
 unfold sub;split
 ·rename_i h;obtain⟨rfl,rfl⟩:=h;simp
 ·rfl
theorem J9A(cs:List α)(off:Nat)(vs:List α):spl cs off vs=if off+vs.length<=cs.length then some (cs.take off++vs++cs.drop (off+vs.length))else none:=by
 unfold spl;split
 ·rename_i h;obtain⟨rfl,h⟩:=h;rw[if_pos (by omega)];simp[<-h]
 ·rfl
theorem Jw3{cs:List α}{n:Nat}(h:cs.length=n):sub cs 0 n=some cs:=by subst h;rw[J7U];simp
theorem JFJ{cs vs:List α}(h:cs.length=vs.length):spl cs 0 vs=some vs:=by rw[J9A];simp[h]
theorem JJH{a b c:List α}{off size:Nat}(h1:a.length=off)(h2:b.length=size):sub (a++(b++c)) off size=some b:=by subst h1 h2;rw[J7U,if_pos (by simp)];simp
theorem JIa{b c:List α}{size:Nat}(h2:b.length=size):sub (b++c) 0 size=some b:=JJH (a:=[]) rfl h2
theorem JIP{a b c v:List α}{off:Nat}(h1:a.length=off)(h2:b.length=v.length):spl (a++(b++c)) off v=some (a++(v++c)):=by subst h1;rw[J9A,if_pos (by simp;omega),<-h2];simp
theorem JIl{b c v:List α}(h2:b.length=v.length):spl (b++c) 0 v=some (v++c):=JIP (a:=[]) rfl h2
theorem JFq{cs e r:List α}{a m k n:Nat}(h1:sub cs a m=some e)(h2:sub e k n=some r):sub cs (a+k) n=some r:=by
 rw[J7U]at h1 h2⊢;split at h1
 ·injection h1 with h1;subst h1;split at h2
  ·rename_i h3 h4;injection h2 with h2;subst h2;simp at h4;rw[if_pos (by omega),List.drop_take,List.take_take,JjT]
   congr 2
   omega
  ·cases h2
 ·cases h1
theorem JFY{cs g e v cs':List α}{a m k:Nat}(h1:sub cs a m=some g)(h2:spl g k v=some e)(h3:spl cs a e=some cs'):spl cs (a+k) v=some cs':=by
 rw[J7U]at h1;rw[J9A]at h2 h3⊢;split at h1
 ·rename_i h4;injection h1 with h1;subst h1;split at h2
  ·rename_i h5;injection h2 with h2;subst h2;simp at h5;split at h3
   ·injection h3 with h3;subst h3;rw[if_pos (by omega)]
    congr 1
    simp only[J8q,J6W,J9m,List.take_take,List.drop_take,JjT,J7D];have e1:cs.take (a+k)=cs.take a++(cs.drop a).take k:=List.take_add ..;rw[e1,J7D];rw[show min k m=k by omega]
    congr 3
    have e2:cs.drop (a+k+v.length)=(cs.drop (a+(k+v.length))).take (m-(k+v.length))++cs.drop (a+m):=by have:=Jou (m-(k+v.length)) (cs.drop (a+(k+v.length)));rw[JjT]at this;rw[show a+(k+v.length)+(m-(k+v.length))=a+m by omega]at this;rw[this];congr 1;omega
    rw[e2]
    congr 2
    omega
   ·cases h3
  ·cases h2
 ·cases h1
theorem Jb9{β:Type}(g:α->β)(cs:List α)(off size:Nat):sub (cs.map g) off size=(sub cs off size).map (List.map g):=by rw[J7U,J7U];simp only[J1M];split<;>simp[List.map_drop,JrP]
theorem Jbi{β:Type}(g:α->β)(cs:List α)(off:Nat)(vs:List α):spl (cs.map g) off (vs.map g)=(spl cs off vs).map (List.map g):=by rw[J9A,J9A];simp only[J1M];split<;>simp[List.map_drop,JrP]
theorem JmY{n k w:Nat}{r:α->List PV}(hr: ∀x,(r x).length=w){v:Vector α n}{x:α}(h:v[k]?=some x):sub (J9S r v) (k*w) w=some (r x):=by
 have g: ∀(l:List α) (k:Nat) (x:α),l[k]?=some x->sub ((l.map r).flatten) (k*w) w=some (r x):=by
  intro l
  induction l with
  |nil=>intro k x h;simp at h
  |cons y l ih=>
   intro k x h;cases k with
   |zero=>
    simp at h;subst h;rw[Jr5,J0I,J8u];exact JIa (hr _)
   |succ k=>
    simp at h;have:=ih k x h;rw[J0I,J8u];rw[J7U]at this⊢;split at this
    ·injection this with this;have e:(k+1)*w=w+k*w:=by rw[zQ8];omega
     rw[e,if_pos (by simp[hr];simp at*;omega)];have e2:w+k*w=(r y).length+k*w:=by rw[hr]
     rw[e2,JLD,this]
    ·cases this
 exact g _ _ _ (by rw[<-h];simp)
theorem JJd{n k w:Nat}{r:α->List PV}(hr: ∀x,(r x).length=w){v:Vector α n}(h:k<n)(y:α):spl (J9S r v) (k*w) (r y)=some (J9S r (v.setIfInBounds k y)):=by
 have g: ∀(l:List α) (k:Nat),k<l.length->spl ((l.map r).flatten) (k*w) (r y)=some (((l.set k y).map r).flatten):=by
  intro l
  induction l with
  |nil=>intro k h;simp at h
  |cons z l ih=>
   intro k h;cases k with
   |zero=>
    rw[Jr5,J0I,J8u];rw[JIl (by rw[hr,hr])];simp
   |succ k=>
    simp at h;have:=ih k h;rw[J0I,J8u];rw[J9A]at this⊢;split at this
    ·rename_i j;injection this with this;have e:(k+1)*w=(r z).length+k*w:=by rw[zQ8,hr];omega
     rw[e,if_pos (by simp[hr]at j⊢;omega)];simp only[List.set_cons_succ,J0I,J8u];rw[<-this];rw[show(r z).length+k*w+(r y).length=(r z).length+(k*w+(r y).length) by omega];simp only[List.take_length_add_append,JLD,J7D]
    ·cases this
 have h2:=g v.toList k (by simpa using h);unfold J9S;rw[h2]
 congr 3
 simp[Vector.setIfInBounds,Vector.toList]
theorem JOv{n w:Nat}{r:α->List PV}(hr: ∀x,(r x).length=w)(v:Vector α n):(J9S r v).length=n*w:=by
 have e: ∀l:List α,((l.map r).flatten).length=l.length*w:=by
  intro l
  induction l with
  |nil=>simp
  |cons x l ih=>simp[ih,hr,zQ8,Nat.add_comm]
 unfold J9S;rw[e];simp
end
theorem Jel: ∀l:List PV,unp (l.map AV.p)=some l
 |[]=>rfl
 |x::l=>by simp[unp,Jel l]
theorem Jq9(l:List PV):J3q true (l.map AV.p)=some (.data l):=by simp[J3q,Jel]
theorem J7Y: ∀l:List PV,(l.map AV.p).all J7C=true
 |[]=>rfl
 |x::l=>by simp
theorem Jww(m:Nat)(ids:List Nat)(sto:List Blk): ∀l:List PV,fin.finL m ids sto (l.map AV.p)=some (l.map AV.p)
 |[]=>rfl
 |x::l=>by simp[fin.finL,fin,Jww m ids sto l]
theorem JwC(l:List PV)(acc:List Ent):J0N.entsOfL (l.map AV.p) acc=acc:=Js2 (J7Y l)
theorem JIL{α:Type}{r:α->List PV}{l:List α}{n:Int}{x:α}(h:idx l n=some x):JtA (l.map r) n=some (r x):=by
 unfold idx at h;unfold JtA;split at h
 ·rename_i e;rw[if_pos e,J29,h];rfl
 ·cases h
theorem JGg{k:Nat}{n:Int}{u:Unit}(h:inb k n=some u):0<=n/\n<k:=by
 unfold inb at h;split at h
 ·assumption
 ·cases h
theorem JJU{α:Type}{k:Nat}{v:Vector α k}{n:Int}{x:α}(h:JLF v n=some x):(0<=n/\n<k)/\v[n.toNat]?=some x:=by
 unfold JLF at h;split at h
 ·exact⟨by assumption,h⟩
 ·cases h
theorem JMX{α:Type}{r:α->List PV}{esz bytes b:Nat}{w:Bool}{l e g:List α}{y:AV}{s:St}(h:Jy bytes l g=some e)(hb:s.sto[b]?=some (.arr w esz (l.map r)))(hy:(J2w esz y).run s=some (g.map r)):
  (J7u esz bytes (.slr b 0 l.length) y).run s=some ⟨.slr b 0 e.length,[(b,.arr w esz (e.map r))]⟩:=by
 unfold Jy at h;split at h
 ·rename_i hr;injection h with h;subst h;simp only[J7u,J1i,hb,JJ,run_bind,hy];rw[if_pos ⟨by trivial,by trivial,by simp,by simpa using hr⟩];simp[JE]
 ·cases h
theorem Jjy: ∀l:List Int,J85 (l.map (r_i .u8))=some (toStr l)
 |[]=>rfl
 |x::l=>by simp[J85,r_i,Jjy l,toStr]
theorem JrQ(l:List UInt8):l.map J4b=(toByt l).map (r_i .u8):=by simp[toByt,J4b,r_i,Function.comp_def]
theorem JJQ{α:Type}{bytes:Nat}{l e:List α}(h:J1g bytes l=some e):J61 l.length bytes=true/\e=l:=by
 unfold J1g at h;split at h
 ·injection h with h;exact⟨by assumption,h.symm⟩
 ·cases h
theorem JN7{α:Type}{bytes:Nat}{n m:Int}{z:α}{l:List α}(h:mkS bytes n m z=some l):(0<=n/\n<=m/\bytes*m<=281474976710656/\m<=281474976710656)/\l=List.replicate n.toNat z:=by
 unfold mkS at h;split at h
 ·injection h with h;exact⟨by assumption,h.symm⟩
 ·cases h
end Go.Am
end
section
set_option linter.unusedSimpArgs false
set_option linter.unusedVariables false
namespace Go.Am
open Go.RowKit
theorem JLA{σ:List Blk}{g:Gh}{w w':World}(hi:Inv ⟨σ,g,w⟩)(hb:Below w.heap.size w w'):
  Inv ⟨σ,g,w'⟩/\J0h ⟨σ,g,w⟩ ⟨σ,g,w'⟩:=by
 have hk: ∀(r:Nat) x,w.heap[r]?=some x->w'.heap[r]?=some x:=λr x h=>by rw[hb.block r (J1v h)];exact h
 have hc: ∀r o v,J0B w r o=some v->J0B w' r o=some v:=by
  intro r o v h;have hr:r<w.heap.size:=by
   unfold J0B at h;split at h
   ·rename_i hx;exact J1v hx
   ·cases h
  unfold J0B at h⊢;rw[hb.block r hr];exact h
 have t:J0h ⟨σ,g,w⟩ ⟨σ,g,w'⟩:=by
  refine⟨⟨hb.size,λr c e fz h=>⟨c,hk r _ h,rfl,λ_ _=>rfl⟩,λr x h _=>hk r x h,hb.os,hb.output⟩,λ_ _ h=>h,λ_ _ h=>.inl h,λr o ⟨b,hb⟩=>.inl ⟨b,hb⟩,zQ0 _,λ_ cs h=>⟨⟨cs,h,rfl⟩,rfl⟩,
   λ_ wm _ rows h=>⟨wm,rows,h,id,zQ0 _,λ_=>rfl⟩⟩
 exact⟨J7v hi t (λ_=>False) (λ_ _=>⟨rfl,rfl⟩) (λ_ r o v _ _ h=>hc r o v h) (λ_ _ h=>h.elim) (λ_ _ _ _ h=>h.elim)
  (λ_ _ _ _ h=>h.elim) (λr o h=>Nat.lt_of_lt_of_le (hi.const r o h).1 hb.size) (λ_ _ _ _ h=>h.elim) (λ_ _ _ h j=>(j h).elim),t⟩
theorem JNg{T:J3J}{f:FuncId}{g:List AV->List Blk->Option Res}(h:T f=some (.prim g))(args blks):AF T f args blks=g args blks:=by unfold AF Jam;rw[h]
def JO1(a:Option AFn)(k:Option J9r)(g q:Option (List AV->List Blk->Option Res)):Option Entry:=
 match a with
 |some a=>some (.fn a)
 |none=>match k with
  |some k=>some (.fork k)
  |none=>match g with
   |some g=>some (.prim g)
   |none=>q.map .prim
theorem JjL{a:Option AFn}{k:Option J9r}{g q:Option (List AV->List Blk->Option Res)}{e:Entry}(h:JO1 a k g q=some e):
  (∃x,a=some x/\e=.fn x)\/(∃x,k=some x/\e=.fork x)\/(∃x,g=some x/\e=.prim x)\/(∃x,q=some x/\e=.prim x):=by
 cases a with
 |some a=>exact .inl ⟨a,rfl,by injection h with h;exact h.symm⟩
 |none=>
  cases k with
  |some k=>exact .inr (.inl ⟨k,rfl,by injection h with h;exact h.symm⟩)
  |none=>
   cases g with
   |some g=>exact .inr (.inr (.inl ⟨g,rfl,by injection h with h;exact h.symm⟩))
   |none=>
    cases q with
    |some q=>exact .inr (.inr (.inr ⟨q,rfl,by injection h with h;exact h.symm⟩))
    |none=>cases h
theorem JPI(x y:Bool):J1w [.b] [.b x] [.b y]=some (decide (x=y)):=by simp only[J1w,Jk6];cases x<;>cases y<;>rfl
theorem JPE(k:IntKind)(x y:Int):J1w [.i k] [.i k x] [.i k y]=some (decide (x=y)):=by by_cases h:x=y<;>simp[J1w,Jk6,h]
theorem JPC(x y:List UInt8):J1w [.s] [.s x] [.s y]=some (decide (x=y)):=by by_cases h:x=y<;>simp[J1w,Jk6,h]
theorem JFr{p q:Prop} [Decidable p] [Decidable q]: ∀{k1 k2:List KD} {a1 a2 b1 b2:List PV},J1w k1 a1 b1=some (decide p)->J1w k2 a2 b2=some (decide q)->J1w (k1++k2) (cat a1 a2) (cat b1 b2)=some (decide (p/\q)):=by
 have e: ∀(k1 k2:List KD) (a1 a2 b1 b2:List PV) (r s:Bool),J1w k1 a1 b1=some r->J1w k2 a2 b2=some s->J1w (k1++k2) (a1++a2) (b1++b2)=some (r&&s):=by
  intro k1
  induction k1 with
  |nil=>
   intro k2 a1 a2 b1 b2 r s h1 h2;cases a1<;>cases b1<;>simp[J1w]at h1;subst h1;simpa using h2
  |cons k ks ih=>
   intro k2 a1 a2 b1 b2 r s h1 h2;cases a1 with
   |nil=>simp[J1w]at h1
   |cons a a1=>
    cases b1 with
    |nil=>simp[J1w]at h1
    |cons b b1=>
     simp only[J1w]at h1;split at h1
     ·rename_i u c hu hc;injection h1 with h1;subst h1;simp only[JdO,J1w,hu,ih _ _ _ _ _ _ _ hc h2,Bool.and_assoc]
     ·cases h1
 intro k1 k2 a1 a2 b1 b2 h1 h2;rw[e _ _ _ _ _ _ _ _ h1 h2,Bool.decide_and]
theorem JOF{α:Type} [DecidableEq α]{n:Nat}{ks:List KD}{r:α->List PV}(h: ∀x y,J1w ks (r x) (r y)=some (decide (x=y)))(v w:Vector α n):
  J1w (List.replicate n ks).flatten (J9S r v) (J9S r w)=some (decide (v=w)):=by
 have j: ∀(l g:List α),l.length=g.length->J1w (List.replicate l.length ks).flatten (l.map r).flatten (g.map r).flatten=some (decide (l=g)):=by
  intro l
  induction l with
  |nil=>intro g h1;cases g with
   |nil=>simp[J1w]
   |cons a g=>simp at h1
  |cons a l ih=>
   intro g h1;cases g with
   |nil=>simp at h1
   |cons b g=>
    have h2:=JFr (h a b) (ih g (by simpa using h1));simp only[Jrb,List.replicate_succ,J8u,J0I];rw[show(decide (a::l=b::g))=decide (a=b/\l=g) by simp];exact h2
 have h3:=j v.toList w.toList (by simp);rw[show v.toList.length=n by simp]at h3;rw[show decide (v=w)=decide (v.toList=w.toList) by apply decide_eq_decide.2;exact⟨λe=>by rw[e],λe=>Vector.toList_inj.1 e⟩]
 exact h3
end Go.Am
end
section
namespace Go.Am
def J1(k:IntKind)(a c:Int):Int:=k.wrap (a+c)
def JG(k:IntKind)(a c:Int):Int:=k.wrap (a-c)
def J3f(k:IntKind)(a c:Int):Int:=k.wrap (a*c)
def JQ9(k:IntKind)(n:Int):Int:=k.wrap (0-n)
def cvI(k:IntKind)(n:Int):Int:=k.wrap n
def eqI(a c:Int):Bool:=decide (a=c)
def neI(a c:Int):Bool:= !decide (a=c)
def ltI(a c:Int):Bool:=decide (a<c)
def leI(a c:Int):Bool:=decide (a<=c)
def gtI(a c:Int):Bool:=decide (a>c)
def geI(a c:Int):Bool:=decide (a>=c)
def eqS(a c:List UInt8):Bool:=decide (a=c)
def neS(a c:List UInt8):Bool:= !decide (a=c)
def ltS(a c:List UInt8):Bool:=Op.bytesLess a c
def leS(a c:List UInt8):Bool:=Op.bytesLess a c||decide (a=c)
def gtS(a c:List UInt8):Bool:= !(Op.bytesLess a c||decide (a=c))
def geS(a c:List UInt8):Bool:= !Op.bytesLess a c
def eqB(a c:Bool):Bool:=decide (a=c)
def Jq(x:Bool):Bool:= !x
def J0{α:Type}(l:List α):Int:=l.length
def JPU{α:Type}(c:Bool)(x y:α):α:=if c=true then x else y
def lat{α:Type}(l:List α)(i:Nat):Option α:=l[i]?
def J0w{α:Type}(l:List α)(i:Nat)(x:α):List α:=l.set i x
def vat{α:Type}{n:Nat}(l:Vector α n)(i:Nat):Option α:=l[i]?
def JoO{α:Type}{n:Nat}(l:Vector α n)(i:Nat)(x:α):Vector α n:=l.setIfInBounds i x
inductive Ty where
 |b
 |i (k:IntKind)
 |s
 |l (t:Ty)
 |pr (a c:Ty)
 |ar (n:Nat) (t:Ty)
 |u
 |f
 deriving DecidableEq
@[reducible] def Ty.D:Ty->Type
 | .b=>Bool
 | .i _=>Int
 | .s=>List UInt8
 | .l t=>List t.D
 | .pr a c=>a.D×c.D
 | .ar n t=>Vector t.D n
 | .u=>Unit
 | .f=>Unit
def Ty.sz:Ty->Nat
 | .b=>1
 | .i _=>1
 | .s=>1
 | .l _=>1
 | .pr a c=>a.sz+c.sz
 | .ar n t=>n*t.sz
 | .u=>0
 | .f=>1
def cel:(t:Ty)->t.D->List PV
 | .b,x=>[.b x]
 | .i k,x=>[.i k x]
 | .s,x=>[.s x]
 | .l t,x=>[.sl t.sz (x.map (cel t))]
 | .pr a c,x=>cel a x.1++cel c x.2
 | .ar _ t,x=>J9S (cel t) x
 | .u,_=>[]
 | .f,_=>[.nf]
theorem J1H: ∀(t:Ty) (x:t.D),(cel t x).length=t.sz
 | .b,_=>rfl
 | .i _,_=>rfl
 | .s,_=>rfl
 | .l _,_=>rfl
 | .pr a c,x=>by simp only[cel,J8q,J1H a,J1H c,Ty.sz]
 | .ar n t,x=>by simp only[cel,Ty.sz];exact JOv (J1H t) x
 | .u,_=>rfl
 | .f,_=>rfl
def Ty.eqd:(t:Ty)->DecidableEq t.D
 | .b=>inferInstanceAs (DecidableEq Bool)
 | .i _=>inferInstanceAs (DecidableEq Int)
 | .s=>inferInstanceAs (DecidableEq (List UInt8))
 | .l t=>have:=t.eqd;inferInstanceAs (DecidableEq (List t.D))
 | .pr a c=>have:=a.eqd;have:=c.eqd;inferInstanceAs (DecidableEq (a.D×c.D))
 | .ar n t=>have:=t.eqd;inferInstanceAs (DecidableEq (Vector t.D n))
 | .u=>inferInstanceAs (DecidableEq Unit)
 | .f=>inferInstanceAs (DecidableEq Unit)
def eqT(t:Ty)(x y:t.D):Bool:=have:=t.eqd;decide (x=y)
theorem J1A{t:Ty}{x y:t.D}:eqT t x y=true↔x=y:=by simp[eqT]
def Ty.zero:(t:Ty)->t.D
 | .b=>false
 | .i _=>(0:Int)
 | .s=>[]
 | .l _=>[]
 | .pr a c=>(a.zero,c.zero)
 | .ar n t=>Vector.replicate n t.zero
 | .u=>()
 | .f=>()
def Ty.ks:Ty->Option (List KD)
 | .b=>some [.b]
 | .i k=>some [.i k]
 | .s=>some [.s]
 | .l _=>none
 | .pr a c=>match a.ks,c.ks with
   |some x,some y=>some (x++y)
   |_,_=>none
 | .ar n t=>match t.ks with
   |some x=>some (List.replicate n x).flatten
   |none=>none
 | .u=>some []
 | .f=>none
theorem Jpy: ∀(t:Ty) {ks:List KD} (x y:t.D),t.ks=some ks->J1w ks (cel t x) (cel t y)=some (eqT t x y)
 | .b,ks,x,y,h=>by injection h with h;subst h;exact JPI x y
 | .i k,ks,x,y,h=>by injection h with h;subst h;exact JPE k x y
 | .s,ks,x,y,h=>by injection h with h;subst h;exact JPC x y
 | .l _,_,_,_,h=>by cases h
 | .pr a c,ks,x,y,h=>by
   simp only[Ty.ks]at h;split at h
   ·rename_i p q hp hq;injection h with h;subst h;have h1:=Jpy a x.1 y.1 hp;have h2:=Jpy c x.2 y.2 hq;unfold eqT at h1 h2;have e1:(have:=a.eqd;decide (x.1=y.1))= @decide _ (a.eqd x.1 y.1):=rfl;have:= @JFr _ _ (a.eqd x.1 y.1) (c.eqd x.2 y.2) _ _ _ _ _ _ h1 h2;simp only[cel];refine this.trans (congrArg some ?_);unfold eqT;apply decide_eq_decide.2;exact⟨fun⟨e,f⟩=>Prod.ext e f,λe=>by rw[e];exact⟨rfl,rfl⟩⟩
   ·cases h
 | .ar n t,ks,x,y,h=>by
   simp only[Ty.ks]at h;split at h
   ·rename_i p hp;injection h with h;subst h;have:= @JOF t.D t.eqd n p (cel t) (λx y=>by have:=Jpy t x y hp;exact this) x y;simp only[cel];refine this.trans (congrArg some ?_);unfold eqT;apply decide_eq_decide.2;rfl
   ·cases h
 | .u,ks,x,y,h=>by injection h with h;subst h;rfl
 | .f,_,_,_,h=>by cases h
inductive Sp where
 |f (off:Nat)
 |a (i esz:Nat)
 deriving DecidableEq
def spo:List Sp->Nat
 |[]=>0
 | .f o::r=>o+spo r
 | .a i e::r=>i*e+spo r
def spf:Nat->List Sp->Nat×List Sp
 |o,.f k::r=>spf (o+k) r
 |o,r=>(o,r)
theorem JzV: ∀(o:Nat) (p:List Sp),(spf o p).1+spo (spf o p).2=o+spo p
 |o,[]=>rfl
 |o,.f k::r=>by simp only[spf,JzV,spo];omega
 |o,.a i e::r=>rfl
section
variable {R:Type}
def prt:(t:Ty)->t.D->(off:Nat)->List Sp->(w:Ty)->(w.D->Option R)->Option R
 |t,x,off,p,w,k=>
  if h:t=w/\off=0/\p=[]then k (h.1▸x)
  else match t,x with
   | .pr a c,x=>if off+(if p=[]then w.sz else 1)<=a.sz then prt a x.1 off p w k
     else if a.sz<=off then prt c x.2 (off-a.sz) p w k
     else none
   | .ar _ t,x=>if p=[]then(vat x (off/t.sz)).bind λy=>prt t y (off%t.sz) p w k
     else match off,p with
      |0,.a i e::r=>if e=t.sz then(vat x i).bind λy=>prt t y (spf 0 r).1 (spf 0 r).2 w k else none
      |_,_=>none
   |_,_=>none
def pst:(t:Ty)->t.D->(off:Nat)->List Sp->(w:Ty)->w.D->(t.D->Option R)->Option R
 |t,x,off,p,w,v,k=>
  if h:t=w/\off=0/\p=[]then k (h.1.symm▸v)
  else match t,x,k with
   | .pr a c,x,k=>if off+(if p=[]then w.sz else 1)<=a.sz then pst a x.1 off p w v λy=>k (y,x.2)
     else if a.sz<=off then pst c x.2 (off-a.sz) p w v λy=>k (x.1,y)
     else none
   | .ar _ t,x,k=>if p=[]then(vat x (off/t.sz)).bind λy=>pst t y (off%t.sz) p w v λy=>k (JoO x (off/t.sz) y)
     else match off,p with
      |0,.a i e::r=>if e=t.sz then(vat x i).bind λy=>pst t y (spf 0 r).1 (spf 0 r).2 w v λy=>k (JoO x i y)else none
      |_,_=>none
   |_,_,_=>none
end
theorem JKY{α:Type}{a b v:List α}{off n:Nat}(h:sub a off n=some v):sub (a++b) off n=some v:=by
 rw[J7U]at h⊢;split at h
 ·rename_i hl;injection h with h;rw[if_pos (by simp;omega),<-h,List.drop_append_of_le_length (by omega),List.take_append_of_le_length (by simp;omega)]
 ·cases h
theorem JJz{α:Type}{a b v:List α}{off n:Nat}(e:a.length<=off)(h:sub b (off-a.length) n=some v):sub (a++b) off n=some v:=by
 rw[J7U]at h⊢;split at h
 ·injection h with h;rw[if_pos (by simp;omega),<-h,List.drop_append,List.drop_of_length_le e];simp
 ·cases h
theorem JLG{α:Type}{a b v e:List α}{off:Nat}(h:spl a off v=some e):spl (a++b) off v=some (e++b):=by
 rw[J9A]at h⊢;split at h
 ·rename_i hl;injection h with h;rw[if_pos (by simp;omega),<-h,List.take_append_of_le_length (by omega),List.drop_append_of_le_length (by omega)];simp
 ·cases h
theorem JIW{α:Type}{a b v e:List α}{off:Nat}(g:a.length<=off)(h:spl b (off-a.length) v=some e):spl (a++b) off v=some (a++e):=by
 rw[J9A]at h⊢;split at h
 ·injection h with h;rw[if_pos (by simp;omega),<-h,List.take_append,List.take_of_length_le g,List.drop_append,List.drop_of_length_le (by omega)];simp;omega
 ·cases h
theorem JGi{α:Type}{n i:Nat}{x:Vector α n}{y:α}(h:x[i]?=some y):i<n:=by
 rcases zQ1 i n with h1|h1
 ·exact h1
 ·rw[Vector.getElem?_eq_none h1]at h;cases h
theorem J9D{R:Type}{t w:Ty}{x:t.D}{off:Nat}{p:List Sp}{k:w.D->Option R}{r:R}(e:t=w/\off=0/\p=[])(h:k (e.1▸x)=some r):
  ∃y,sub (cel t x) (off+spo p) w.sz=some (cel w y)/\k y=some r:=by
 obtain⟨rfl,rfl,rfl⟩:=e;exact⟨x,by simpa[spo]using Jw3 (J1H _ x),h⟩
theorem J9B{R:Type}{t w:Ty}{x:t.D}{off:Nat}{p:List Sp}{v:w.D}{k:t.D->Option R}{r:R}(e:t=w/\off=0/\p=[])(h:k (e.1.symm▸v)=some r):
  ∃y,spl (cel t x) (off+spo p) (cel w v)=some (cel t y)/\k y=some r:=by
 obtain⟨rfl,rfl,rfl⟩:=e;exact⟨v,by simpa[spo]using JFJ ((J1H _ x).trans (J1H _ v).symm),h⟩
theorem J9E{R:Type}: ∀{t:Ty} {x:t.D} {off:Nat} {p:List Sp} {w:Ty} {k:w.D->Option R} {r:R},prt t x off p w k=some r->
  ∃y,sub (cel t x) (off+spo p) w.sz=some (cel w y)/\k y=some r
 | .pr a c,x,off,p,w,k,r,h=>by
   unfold prt at h;by_cases g:Ty.pr a c=w/\off=0/\p=[]
   ·rw[dif_pos g]at h;exact J9D g h
   ·rw[dif_neg g]at h;dsimp only at h;by_cases h1:off+(if p=[]then w.sz else 1)<=a.sz
    ·rw[if_pos h1]at h;obtain⟨y,q1,q2⟩:=J9E h;exact⟨y,JKY q1,q2⟩
    ·rw[if_neg h1]at h;by_cases h2:a.sz<=off
     ·rw[if_pos h2]at h;obtain⟨y,q1,q2⟩:=J9E h;refine⟨y,JJz (by rw[J1H];omega) ?_,q2⟩;rw[J1H,show off+spo p-a.sz=off-a.sz+spo p by omega];exact q1
     ·rw[if_neg h2]at h;cases h
 | .ar n t,x,off,p,w,k,r,h=>by
   unfold prt at h;by_cases g:Ty.ar n t=w/\off=0/\p=[]
   ·rw[dif_pos g]at h;exact J9D g h
   ·rw[dif_neg g]at h;dsimp only at h;by_cases hp:p=[]
    ·rw[if_pos hp]at h;obtain⟨z,hz,h⟩:=J2s.1 h;obtain⟨y,h1,h2⟩:=J9E h;refine⟨y,?_,h2⟩;have:=JFq (JmY (J1H t) hz) h1;rw[<-this,hp];simp only[spo,J7w];show sub (J9S (cel t) x) _ _=_
     congr 1
     rw[Jrw];exact(Nat.div_add_mod off t.sz).symm
    ·rw[if_neg hp]at h;split at h
     ·rename_i _ i e q _;split at h
      ·rename_i he;obtain⟨z,hz,h⟩:=J2s.1 h;obtain⟨y,h1,h2⟩:=J9E h;refine⟨y,?_,h2⟩;have:=JFq (JmY (J1H t) hz) h1;rw[<-this];show sub (J9S (cel t) x) _ _=_
       congr 1
       have:=JzV 0 q;simp only[spo,he];omega
      ·cases h
     ·cases h
 | .b,x,off,p,w,k,r,h=>by unfold prt at h;split at h;next g=>exact J9D g h
                          next=>cases h
 | .i _,x,off,p,w,k,r,h=>by unfold prt at h;split at h;next g=>exact J9D g h
                            next=>cases h
 | .s,x,off,p,w,k,r,h=>by unfold prt at h;split at h;next g=>exact J9D g h
                          next=>cases h
 | .l _,x,off,p,w,k,r,h=>by unfold prt at h;split at h;next g=>exact J9D g h
                            next=>cases h
 | .u,x,off,p,w,k,r,h=>by unfold prt at h;split at h;next g=>exact J9D g h
                          next=>cases h
 | .f,x,off,p,w,k,r,h=>by unfold prt at h;split at h;next g=>exact J9D g h
                          next=>cases h
theorem Jbp{R:Type}: ∀{t:Ty} {x:t.D} {off:Nat} {p:List Sp} {w:Ty} {v:w.D} {k:t.D->Option R} {r:R},pst t x off p w v k=some r->
  ∃y,spl (cel t x) (off+spo p) (cel w v)=some (cel t y)/\k y=some r
 | .pr a c,x,off,p,w,v,k,r,h=>by
   unfold pst at h;by_cases g:Ty.pr a c=w/\off=0/\p=[]
   ·rw[dif_pos g]at h;exact J9B g h
   ·rw[dif_neg g]at h;dsimp only at h;by_cases h1:off+(if p=[]then w.sz else 1)<=a.sz
    ·rw[if_pos h1]at h;obtain⟨y,q1,q2⟩:=Jbp h;exact⟨(y,x.2),JLG q1,q2⟩
    ·rw[if_neg h1]at h;by_cases h2:a.sz<=off
     ·rw[if_pos h2]at h;obtain⟨y,q1,q2⟩:=Jbp h;refine⟨(x.1,y),JIW (by rw[J1H];omega) ?_,q2⟩;rw[J1H,show off+spo p-a.sz=off-a.sz+spo p by omega];exact q1
     ·rw[if_neg h2]at h;cases h
 | .ar n t,x,off,p,w,v,k,r,h=>by
   unfold pst at h;by_cases g:Ty.ar n t=w/\off=0/\p=[]
   ·rw[dif_pos g]at h;exact J9B g h
   ·rw[dif_neg g]at h;dsimp only at h;by_cases hp:p=[]
    ·rw[if_pos hp]at h;obtain⟨z,hz,h⟩:=J2s.1 h;obtain⟨y,h1,h2⟩:=Jbp h;refine⟨_,?_,h2⟩;have:=JFY (JmY (J1H t) hz) h1 (JJd (J1H t) (JGi hz) y);subst hp;simp only[spo,J7w]at this⊢;rw[Jrw,Nat.div_add_mod]at this;exact this
    ·rw[if_neg hp]at h;split at h
     ·rename_i _ i e q _;split at h
      ·rename_i he;obtain⟨z,hz,h⟩:=J2s.1 h;obtain⟨y,h1,h2⟩:=Jbp h;refine⟨_,?_,h2⟩;have:=JFY (JmY (J1H t) hz) h1 (JJd (J1H t) (JGi hz) y);have e1:=JzV 0 q;simp only[spo,he];rw[show i*t.sz+((spf 0 q).1+spo (spf 0 q).2)=0+(i*t.sz+spo q) by omega]at this;exact this
      ·cases h
     ·cases h
 | .b,x,off,p,w,v,k,r,h=>by unfold pst at h;split at h;next g=>exact J9B g h
                            next=>cases h
 | .i _,x,off,p,w,v,k,r,h=>by unfold pst at h;split at h;next g=>exact J9B g h
                              next=>cases h
 | .s,x,off,p,w,v,k,r,h=>by unfold pst at h;split at h;next g=>exact J9B g h
                            next=>cases h
 | .l _,x,off,p,w,v,k,r,h=>by unfold pst at h;split at h;next g=>exact J9B g h
                              next=>cases h
 | .u,x,off,p,w,v,k,r,h=>by unfold pst at h;split at h;next g=>exact J9B g h
                            next=>cases h
 | .f,x,off,p,w,v,k,r,h=>by unfold pst at h;split at h;next g=>exact J9B g h
                            next=>cases h
end Go.Am
end
section
namespace Go.Am
inductive TC where
 |d (t:Ty) (x:t.D)
 |sc (t:Ty) (rows:List t.D)
 |np
 |nf
 |un
 |ptr (b:Nat) (p:List Sp)
 |cp (t:Ty) (x:t.D) (p:List Sp)
 |slr (b:Nat)
 |slo (b n:Nat)
 |ep (b i:Nat) (p:List Sp)
 |epo (b e i:Nat) (p:List Sp)
 |fn (f:FuncId)
inductive TA where
 |c (x:TC)
 |dt (t:Ty) (x:t.D)
 |m (t:Ty) (cs:List TC)
 |fn (f:FuncId) (first caps:List TC)
inductive TV where
 |a (x:TA)
 |tup (vs:List TA)
inductive TB where
 |dead
 |box (t:Ty) (x:t.D)
 |mbox (t:Ty) (cs:List TC)
 |arr (w:Bool) (t:Ty) (rows:List t.D)
structure TSt where
 env:List (Nat×TV)
 sto:List TB
def hdP:List PV->PV
 |[c]=>c
 |_=>.np
def lnB:TB->Nat
 | .arr _ _ rows=>rows.length
 |_=>0
def lnO:Option TB->Nat
 |some x=>lnB x
 |none=>0
def lns(sto:List TB)(b:Nat):Nat:=lnO sto[b]?
section
variable (L:Nat->Nat)
def J0b:TC->AV
 | .d t x=>.p (hdP (cel t x))
 | .sc t rows=>.p (.slc t.sz (rows.map (cel t)))
 | .np=>.p .np
 | .nf=>.p .nf
 | .un=>.unk
 | .ptr b p=>.ptr b (spo p)
 | .cp t x p=>.cp (cel t x) (spo p)
 | .slr b=>.slr b 0 (L b)
 | .slo b n=>.slr b 0 n
 | .ep b i p=>.ep b (L b) i (spo p)
 | .epo b e i p=>.ep b e i (spo p)
 | .fn f=>.fn f [] []
def J1b:TA->AV
 | .c x=>J0b L x
 | .dt t x=>.data (cel t x)
 | .m _ cs=>.agg (cs.map (J0b L))
 | .fn f a c=>.fn f (a.map (J0b L)) (c.map (J0b L))
def J04:TV->AV
 | .a x=>J1b L x
 | .tup vs=>.tup (vs.map (J1b L))
def J0s:TB->Blk
 | .dead=>.dead
 | .box t x=>.box ((cel t x).map .p)
 | .mbox _ cs=>.box (cs.map (J0b L))
 | .arr w t rows=>.arr w t.sz (rows.map (cel t))
end
def J4d(L:Nat->Nat)(env:List (Nat×TV)):List (Nat×AV):=env.map λx=>(x.1,J04 L x.2)
def Js(s:TSt):St:=⟨J4d (lns s.sto) s.env,s.sto.map (J0s (lns s.sto))⟩
section
variable (L:Nat->Nat)
theorem Jic(t x):J0s L (.box t x)=.box ((cel t x).map .p):=rfl
theorem Jih(t cs):J0s L (.mbox t cs)=.box (cs.map (J0b L)):=rfl
theorem JCQ(w t rows):J0s L (.arr w t rows)=.arr w t.sz (rows.map (cel t)):=rfl
theorem J6j(b p):J04 L (.a (.c (.ptr b p)))=.ptr b (spo p):=rfl
theorem Jb5(t x p):J04 L (.a (.c (.cp t x p)))=.cp (cel t x) (spo p):=rfl
theorem J4y(b):J04 L (.a (.c (.slr b)))=.slr b 0 (L b):=rfl
theorem Jbj(b i p):J04 L (.a (.c (.ep b i p)))=.ep b (L b) i (spo p):=rfl
theorem e_i(k x):J04 L (.a (.c (.d (.i k) x)))=.p (.i k x):=rfl
theorem e_b(x):J04 L (.a (.c (.d .b x)))=.p (.b x):=rfl
theorem e_s(x):J04 L (.a (.c (.d .s x)))=.p (.s x):=rfl
theorem e_l(t x):J04 L (.a (.c (.d (.l t) x)))=.p (.sl t.sz (x.map (cel t))):=rfl
theorem JNu(f):J04 L (.a (.c (.fn f)))=.fn f [] []:=rfl
theorem JHL(t x):J04 L (.a (.dt t x))=.data (cel t x):=rfl
theorem JKo(f a c):J04 L (.a (.fn f a c))=.fn f (a.map (J0b L)) (c.map (J0b L)):=rfl
theorem e_m(t cs):J04 L (.a (.m t cs))=.agg (cs.map (J0b L)):=rfl
end
theorem JBk{t:Ty}(h:t.sz=1)(x:t.D):cel t x=[hdP (cel t x)]:=by
 have:=J1H t x;rw[h]at this
 match hc:cel t x,this with
 |[c],_=>rfl
def kC(b n:Nat):TC->TC
 | .slr c=>if c=b then .slo b n else .slr c
 | .ep c i p=>if c=b then .epo b n i p else .ep c i p
 |x=>x
def kA(b n:Nat):TA->TA
 | .c x=>.c (kC b n x)
 | .dt t x=>.dt t x
 | .m t cs=>.m t (cs.map (kC b n))
 | .fn f a c=>.fn f (a.map (kC b n)) (c.map (kC b n))
def kV(b n:Nat):TV->TV
 | .a x=>.a (kA b n x)
 | .tup vs=>.tup (vs.map (kA b n))
def kB(b n:Nat):TB->TB
 | .mbox t cs=>.mbox t (cs.map (kC b n))
 |x=>x
def wS(b:Nat)(x:TB)(s:TSt):TSt:=⟨s.env,s.sto.set b x⟩
def wN(b:Nat)(x:TB)(s:TSt):TSt:=⟨s.env.map λy=>(y.1,kV b (lns s.sto b) y.2),(s.sto.map (kB b (lns s.sto b))).set b x⟩
def J0E(d:Option Nat)(v:TV)(s:TSt):TSt:=
 match d with
 |some d=>⟨(d,v)::s.env,s.sto⟩
 |none=>s
section
variable {L L':Nat->Nat} {b:Nat}
theorem k_C(h: ∀c,c≠b->L' c=L c)(x:TC):J0b L' (kC b (L b) x)=J0b L x:=by
 cases x with
 |slr c=>
  by_cases e:c=b
  ·subst e;simp only[kC,if_pos,J0b]
  ·simp only[kC,if_neg e,J0b,h c e]
 |ep c i p=>
  by_cases e:c=b
  ·subst e;simp only[kC,if_pos,J0b]
  ·simp only[kC,if_neg e,J0b,h c e]
 |_=>rfl
theorem JOs(h: ∀c,c≠b->L' c=L c)(xs:List TC):(xs.map (kC b (L b))).map (J0b L')=xs.map (J0b L):=by rw[J7E];exact JvG λx _=>k_C h x
theorem k_A(h: ∀c,c≠b->L' c=L c)(x:TA):J1b L' (kA b (L b) x)=J1b L x:=by cases x<;>simp only[kA,J1b,k_C h,JOs h]
theorem k_V(h: ∀c,c≠b->L' c=L c)(x:TV):J04 L' (kV b (L b) x)=J04 L x:=by cases x<;>simp only[kV,J04,k_A h,J7E,Function.comp_def]
theorem k_B(h: ∀c,c≠b->L' c=L c)(x:TB):J0s L' (kB b (L b) x)=J0s L x:=by cases x<;>simp only[kB,J0s,JOs h]
theorem JOV(b n:Nat)(x:TB):lnB (kB b n x)=lnB x:=by cases x<;>rfl
theorem JNW(sto:List TB)(b n c:Nat):lns (sto.map (kB b n)) c=lns sto c:=by
 unfold lns;rw[J29];cases sto[c]? with
 |none=>rfl
 |some x=>exact JOV b n x
theorem JGf(sto:List TB)(b:Nat)(x:TB)(c:Nat)(h:c≠b):lns (sto.set b x) c=lns sto c:=by unfold lns;rw[JjD (λe=>h e.symm)]
theorem JCW{sto:List TB}{b:Nat}(h:b<sto.length)(x:TB):lns (sto.set b x) b=lnB x:=by unfold lns;rw[Jnp h];rfl
theorem JLX(b:Nat)(x:TB)(s:TSt):Js (wN b x s)=⟨(Js s).env,(Js s).sto.set b (J0s (lns (wN b x s).sto) x)⟩:=by
 have h: ∀c,c≠b->lns (wN b x s).sto c=lns s.sto c:=λc hc=>by unfold wN;rw[JGf _ _ _ _ hc,JNW]
 unfold Js
 congr 1
 ·show J4d _ (s.env.map λy=>(y.1,kV b (lns s.sto b) y.2))=J4d _ s.env;unfold J4d;rw[J7E];exact JvG λy _=>by simp only[Function.comp,k_V h]
 ·show((s.sto.map (kB b (lns s.sto b))).set b x).map _=_;rw[List.map_set,J7E]
  congr 1
  exact JvG λy _=>k_B h y
theorem Jh5{b:Nat}{x:TB}{s:TSt}(h:lnB x=lns s.sto b):lns (wS b x s).sto=lns s.sto:=by
 funext c
 by_cases hc:c=b
 ·subst hc;unfold wS;rcases zQ1 c s.sto.length with hl|hl
  ·rw[JCW hl,h]
  ·rw[List.set_eq_of_length_le hl]
 ·exact JGf _ _ _ _ hc
theorem JjQ{b:Nat}{x:TB}{s:TSt}(h:lnB x=lns s.sto b):Js (wS b x s)=⟨(Js s).env,(Js s).sto.set b (J0s (lns s.sto) x)⟩:=by unfold Js;rw[Jh5 h];unfold wS;rw[List.map_set]
theorem J8C{s s1:TSt}{ws:List (Nat×Blk)}(h:Js s1=⟨(Js s).env,upd ws (Js s).sto⟩)(d:Option Nat)(v:TV):put d ⟨J04 (lns s1.sto) v,ws⟩ (Js s)=Js (J0E d v s1):=by
 cases d with
 |none=>exact h.symm
 |some d=>
  simp only[put,J0E];have h1:(Js s1).env=(Js s).env:=by rw[h]
  have h2:(Js s1).sto=upd ws (Js s).sto:=by rw[h]
  unfold Js at h1 h2⊢;simp only[J4d,J0I]at h1 h2⊢;rw[h1,h2]
end
theorem JhK{s:TSt}(d:Option Nat)(v:TV):put d ⟨J04 (lns s.sto) v,[]⟩ (Js s)=Js (J0E d v s):=J8C rfl d v
def tlk(n:Nat):List (Nat×TV)->Option TV
 |[]=>none
 |(m,v)::r=>if n=m then some v else tlk n r
theorem Jdr(L:Nat->Nat)(n:Nat): ∀env:List (Nat×TV),lk n (J4d L env)=(tlk n env).map (J04 L)
 |[]=>rfl
 |(m,v)::r=>by
  simp only[J4d,J0I,lk,tlk];split
  ·rfl
  ·exact Jdr L n r
theorem J1G(s:TSt)(b:Nat):(Js s).sto[b]?=(s.sto[b]?).map (J0s (lns s.sto)):=by unfold Js;rw[J29]
theorem J5l{sto:List TB}{b:Nat}{w:Bool}{t:Ty}{rows:List t.D}(h:sto[b]?=some (.arr w t rows)):lns sto b=rows.length:=by unfold lns;rw[h];rfl
inductive TO where
 |t (n:Nat)
 |c (x:TV)
def erO:TO->Opd
 | .t n=>.t n
 | .c x=>.c (J04 (λ_=>0) x)
def JM7:TC->Bool
 | .d _ _| .sc _ _| .np| .nf| .un| .fn _=>true
 |_=>false
def JzU:TA->Bool
 | .c x=>JM7 x
 | .dt _ _=>true
 | .m _ _=>false
 | .fn _ a c=>a.isEmpty&&c.isEmpty
def Jpt:TV->Bool
 | .a x=>JzU x
 | .tup vs=>vs.isEmpty
theorem JL0{L L':Nat->Nat}{v:TV}(h:Jpt v=true):J04 L v=J04 L' v:=by
 cases v with
 |a x=>
  cases x with
  |c x=>cases x<;>first|rfl|(simp[Jpt,JzU,JM7]at h)
  |dt t x=>rfl
  |m t cs=>simp[Jpt,JzU]at h
  |fn f a c=>
   simp[Jpt,JzU]at h;obtain⟨rfl,rfl⟩:=h;rfl
 |tup vs=>
  simp[Jpt]at h;subst h;rfl
def tev:TO->TSt->Option TV
 | .t n,s=>tlk n s.env
 | .c x,_=>if Jpt x=true then some x else none
theorem J0d{x:TO}{s:TSt}{v:TV}(h:tev x s=some v):(ev (erO x)).run (Js s)=some (J04 (lns s.sto) v):=by
 cases x with
 |t n=>
  simp only[erO,ev,J7p];show(lk n (J4d (lns s.sto) s.env)).bind _=_;rw[Jdr,show tlk n s.env=some v from h];rfl
 |c x=>
  simp only[tev]at h;split at h
  ·rename_i hf;injection h with h;subst h;simp only[erO,ev,JE];rw[JL0 hf]
  ·cases h
end Go.Am
end
section
namespace Go.Am
@[reducible] def vi(k:IntKind)(n:Int):TV:=.a (.c (.d (.i k) n))
@[reducible] def vb(x:Bool):TV:=.a (.c (.d .b x))
@[reducible] def vs(l:List UInt8):TV:=.a (.c (.d .s l))
@[reducible] def vl(t:Ty)(l:List t.D):TV:=.a (.c (.d (.l t) l))
def uv:TV:=.tup []
def mkv(agg:Bool)(t:Ty)(x:t.D):TV:=if agg=true then .a (.dt t x)else .a (.c (.d t x))
def Ok{R:Type}(m:RM Eff)(d:Option Nat)(s:TSt)(k:TSt->Option R)(r:R):Prop:= ∃e s',m.run (Js s)=some e/\put d e (Js s)=Js s'/\k s'=some r
def asm:(t:Ty)->List TC->Option t.D
 | .pr a c,l=>match asm a (l.take a.sz),asm c (l.drop a.sz)with
   |some x,some y=>some (x,y)
   |_,_=>none
 | .ar _ _,_=>none
 | .u,l=>if l.isEmpty=true then some ()else none
 |t,l=>match l with
  |[.d t' x]=>if h:t'=t then some (h▸x)else none
  |_=>none
def Jrp:(t:Ty)->t.D->Option (List TC)
 | .pr a c,x=>match Jrp a x.1,Jrp c x.2 with
   |some l,some q=>some (l++q)
   |_,_=>none
 | .ar _ _,_=>none
 | .u,_=>some []
 |t,x=>some [.d t x]
theorem JnX(L:Nat->Nat): ∀{t:Ty} {l:List TC} {x:t.D},asm t l=some x->l.map (J0b L)=(cel t x).map .p
 | .pr a c,l,x,h=>by
   simp only[asm]at h;split at h
   ·rename_i y z hy hz;injection h with h;subst h;have h1:=JnX L hy;have h2:=JnX L hz;simp only[cel,J9p,<-h1,<-h2];rw[<-J9p,Jou]
   ·cases h
 | .ar _ _,_,_,h=>by cases h
 | .u,l,x,h=>by
   simp only[asm]at h;split at h
   ·rename_i e;rw[List.isEmpty_iff.1 e];rfl
   ·cases h
 | .b,l,x,h=>by
   simp only[asm]at h;split at h
   ·split at h
    ·rename_i e;subst e;injection h with h;subst h;rfl
    ·cases h
   ·cases h
 | .i _,l,x,h=>by
   simp only[asm]at h;split at h
   ·split at h
    ·rename_i e;subst e;injection h with h;subst h;rfl
    ·cases h
   ·cases h
 | .s,l,x,h=>by
   simp only[asm]at h;split at h
   ·split at h
    ·rename_i e;subst e;injection h with h;subst h;rfl
    ·cases h
   ·cases h
 | .l _,l,x,h=>by
   simp only[asm]at h;split at h
   ·split at h
    ·rename_i e;subst e;injection h with h;subst h;rfl
    ·cases h
   ·cases h
 | .f,l,x,h=>by
   simp only[asm]at h;split at h
   ·split at h
    ·rename_i e;subst e;injection h with h;subst h;rfl
    ·cases h
   ·cases h
theorem Jit(L:Nat->Nat): ∀{t:Ty} {x:t.D} {l:List TC},Jrp t x=some l->l.map (J0b L)=(cel t x).map .p
 | .pr a c,x,l,h=>by
   simp only[Jrp]at h;split at h
   ·rename_i y z hy hz;injection h with h;subst h;have h1:=Jit L hy;have h2:=Jit L hz;simp only[cel,J9p,<-h1,<-h2]
   ·cases h
 | .ar _ _,_,_,h=>by cases h
 | .u,x,l,h=>by injection h with h;subst h;rfl
 | .b,x,l,h=>by injection h with h;subst h;rfl
 | .i _,x,l,h=>by injection h with h;subst h;rfl
 | .s,x,l,h=>by injection h with h;subst h;rfl
 | .l _,x,l,h=>by injection h with h;subst h;rfl
 | .f,x,l,h=>by injection h with h;subst h;rfl
def zcs:Ty->List TC
 | .pr a c=>zcs a++zcs c
 | .ar n t=>(List.replicate n (zcs t)).flatten
 | .u=>[]
 |t=>[.d t t.zero]
theorem Jhd(L:Nat->Nat): ∀t:Ty,(zcs t).map (J0b L)=(cel t t.zero).map .p
 | .pr a c=>by simp only[zcs,J9p,Jhd L a,Jhd L c,Ty.zero,cel]
 | .ar n t=>by
   have ih:=Jhd L t;have e:cel (.ar n t) (Ty.ar n t).zero=(List.replicate n (cel t t.zero)).flatten:=by simp only[cel,J9S,Ty.zero,Vector.toList_replicate,Jrv]
   rw[e];simp only[zcs,List.map_flatten,Jrv,ih]
 | .u=>rfl
 | .b=>rfl
 | .i _=>rfl
 | .s=>rfl
 | .l _=>rfl
 | .f=>rfl
def mkb(t:Ty)(cs:List TC):TB:=match asm t cs with
 |some x=>.box t x
 |none=>.mbox t cs
theorem Jpa(L:Nat->Nat)(t:Ty)(cs:List TC):J0s L (mkb t cs)=.box (cs.map (J0b L)):=by
 unfold mkb;split
 ·rename_i x hx;rw[Jic,JnX L hx]
 ·rfl
theorem Jpm(t:Ty)(cs:List TC):lnB (mkb t cs)=0:=by unfold mkb;split<;>rfl
def JHC:TC->Bool
 | .ptr _ _| .cp _ _ _| .slr _| .slo _ _| .ep _ _ _| .epo _ _ _ _| .un| .fn _=>true
 |_=>false
theorem JvM(L:Nat->Nat): ∀{cs:List TC},cs.any JHC=true->unp (cs.map (J0b L))=none
 |[],h=>by simp at h
 |x::r,h=>by
  simp only[List.any_cons,JvQ]at h;rcases h with h|h
  ·cases x<;>simp[JHC]at h<;>rfl
  ·have:=JvM L h;cases x<;>simp[J0b,unp,this]
def mka(agg:Bool)(t:Ty)(cs:List TC):Option TV:=
 if agg=true then
  match asm t cs with
  |some x=>some (.a (.dt t x))
  |none=>if cs.any JHC=true then some (.a (.m t cs))else none
 else match cs with
  |[c]=>some (.a (.c c))
  |_=>none
theorem JhQ(L:Nat->Nat){agg:Bool}{t:Ty}{cs:List TC}{v:TV}(h:mka agg t cs=some v):J3q agg (cs.map (J0b L))=some (J04 L v):=by
 unfold mka at h;split at h
 ·rename_i ha;subst ha;split at h
  ·rename_i x hx;injection h with h;subst h;rw[JnX L hx,Jq9];rfl
  ·split at h
   ·rename_i hr;injection h with h;subst h;simp only[J3q,JvM L hr,if_true];rfl
   ·cases h
 ·rename_i ha;split at h
  ·injection h with h;subst h;have:agg=false:=by simpa using ha
   subst this;rfl
  ·cases h
def tcs:TV->Option (List TC)
 | .a (.c .un)=>none
 | .a (.c x)=>some [x]
 | .a (.dt t x)=>Jrp t x
 | .a (.m _ cs)=>some cs
 | .a (.fn f [] [])=>some [.fn f]
 |_=>none
theorem Jnf(L:Nat->Nat){v:TV}{cs:List TC}(h:tcs v=some cs):cellsOf (J04 L v)=some (cs.map (J0b L)):=by
 cases v with
 |a x=>
  cases x with
  |c x=>
   cases x<;>cases h<;>rfl
  |dt t x=>
   simp only[J04,J1b,cellsOf];rw[Jit L h]
  |m t cs=>
   injection h with h;subst h;rfl
  |fn f a c=>
   cases a with
   |nil=>cases c with
    |nil=>injection h with h;subst h;rfl
    |cons y c=>cases h
   |cons y a=>cases h
 |tup vs=>cases h
def tdv(t:Ty):TV->Option t.D
 | .a (.c (.d t' x))=>if h:t'=t then some (h▸x)else none
 | .a (.dt t' x)=>if h:t'=t then some (h▸x)else none
 |_=>none
def agv:TV->Bool
 | .a (.dt _ _)=>true
 |_=>false
theorem JOX(L:Nat->Nat){t:Ty}{v:TV}{x:t.D}(h:tdv t v=some x):J04 L v=if agv v=true then .data (cel t x)else .p (hdP (cel t x)):=by
 unfold tdv at h;split at h
 ·split at h
  ·rename_i e;subst e;injection h with h;subst h;rfl
  ·cases h
 ·split at h
  ·rename_i e;subst e;injection h with h;subst h;rfl
  ·cases h
 ·cases h
def JjV:List Sp->Option Nat
 |[]=>some 0
 | .f o::r=>match JjV r with
   |some n=>some (o+n)
   |none=>none
 | .a _ _::_=>none
theorem Jik: ∀{p:List Sp} {n:Nat},JjV p=some n->spo p=n
 |[],n,h=>by injection h with h
 | .f o::r,n,h=>by
   simp only[JjV]at h;split at h
   ·rename_i m hm;injection h with h;simp only[spo,Jik hm,h]
   ·cases h
 | .a _ _::_,_,h=>by cases h
section
variable {R:Type}
def JGO(agg:Bool)(t:Ty)(v:TV)(d:Option Nat)(s:TSt)(k:TSt->Option R):Option R:=
 if agg=true\/t.sz=1 then
  match v with
  | .a (.c (.cp t0 x p))=>prt t0 x (spf 0 p).1 (spf 0 p).2 t λy=>k (J0E d (mkv agg t y) s)
  | .a (.c (.ptr b p))=>match s.sto[b]? with
    |some (.box t0 x)=>prt t0 x (spf 0 p).1 (spf 0 p).2 t λy=>k (J0E d (mkv agg t y) s)
    |some (.mbox _ cs)=>match JjV p with
     |some off=>match sub cs off t.sz with
      |some l=>match mka agg t l with
       |some v=>k (J0E d v s)
       |none=>none
      |none=>none
     |none=>none
    |_=>none
  | .a (.c (.ep b i p))=>match s.sto[b]? with
    |some (.arr _ t0 rows)=>(lat rows i).bind λrow=>prt t0 row (spf 0 p).1 (spf 0 p).2 t λy=>k (J0E d (mkv agg t y) s)
    |_=>none
  |_=>none
 else none
theorem Jin(L:Nat->Nat){agg:Bool}{t:Ty}(h:agg=true\/t.sz=1)(y:t.D):J4h agg (cel t y)=some (J04 L (mkv agg t y)):=by
 unfold mkv;split
 ·rename_i ha;subst ha;rfl
 ·rename_i ha;have:agg=false:=by simpa using ha
  subst this;have:=h.resolve_left (by simp);rw[JBk this];rfl
theorem JDc(p:List Sp):(spf 0 p).1+spo (spf 0 p).2=spo p:=by have:=JzV 0 p;omega
theorem JLt{agg:Bool}{t:Ty}{v:TV}{d:Option Nat}{s:TSt}{k:TSt->Option R}{r:R}(h:JGO agg t v d s k=some r):Ok (J43 agg t.sz (J04 (lns s.sto) v)) d s k r:=by
 unfold JGO at h;split at h
 ·rename_i ha;split at h
  ·rename_i t0 x p;obtain⟨y,h1,h2⟩:=J9E h;rw[JDc]at h1;refine⟨_,_,?_,JhK d (mkv agg t y),h2⟩;simp only[J6j,Jb5,Jbj,J4y,J43,h1,Jin (lns s.sto) ha,val];rfl
  ·rename_i b p;split at h
   ·rename_i t0 x hb;obtain⟨y,h1,h2⟩:=J9E h;rw[JDc]at h1;refine⟨_,_,?_,JhK d (mkv agg t y),h2⟩;have hc:J3q agg ((cel t y).map .p)=J4h agg (cel t y):=by
     unfold J3q J4h;split
     ·rw[Jel]
     ·cases hcel:cel t y with
      |nil=>rfl
      |cons a l=>cases l<;>rfl
    simp only[J6j,Jb5,Jbj,J4y,J43,J1i,J1G,hb,J1o,JJ,J0s,Jb9,h1,hc,Jin (lns s.sto) ha,val];rfl
   ·rename_i cs hb;split at h
    ·rename_i off ho;split at h
     ·rename_i l hl;split at h
      ·rename_i v hv;refine⟨_,_,?_,JhK d v,h⟩;simp only[J6j,Jb5,Jbj,J4y,J43,J1i,J1G,hb,J1o,JJ,J0s,Jb9,Jik ho,hl,JhQ (lns s.sto) hv,val];rfl
      ·cases h
     ·cases h
    ·cases h
   ·cases h
  ·rename_i b i p;split at h
   ·rename_i w t0 rows hb;obtain⟨row,hr,h⟩:=J2s.1 h;have hr:rows[i]?=some row:=hr;obtain⟨y,h1,h2⟩:=J9E h;rw[JDc]at h1;refine⟨_,_,?_,JhK d (mkv agg t y),h2⟩;simp only[J6j,Jb5,Jbj,J4y,J43,J1i,J1G,hb,J1o,JJ,J0s,J5l hb,J1M,if_true,J29,hr,h1,Jin (lns s.sto) ha,val];rfl
   ·cases h
  ·cases h
 ·cases h
end
end Go.Am
end
section
namespace Go.Am
section
variable {R:Type}
def fzC:(t:Ty)->List TC->TSt->(t.D->TSt->Option R)->Option R
 | .pr a c,l,s,k=>fzC a (l.take a.sz) s λx s=>fzC c (l.drop a.sz) s λy s=>k (x,y) s
 | .ar _ _,_,_,_=>none
 | .u,l,s,k=>if l.isEmpty=true then k () s else none
 | .l e,l,s,k=>match l with
   |[.d t' x]=>if h:t'=.l e then k (h▸x) s else none
   |[.slr b]=>match s.sto[b]? with
    |some (.arr _ e' rows)=>if h:e'=e then k (h▸rows) (wS b (.arr false e' rows) s)else none
    |_=>none
   |_=>none
 |t,l,s,k=>match l with
  |[.d t' x]=>if h:t'=t then k (h▸x) s else none
  |_=>none
def tfz(t:Ty)(v:TV)(s:TSt)(k:t.D->TSt->Option R):Option R:=
 match v with
 | .a (.dt t' x)=>if h:t'=t then k (h▸x) s else none
 | .a (.c x)=>fzC t [x] s k
 | .a (.m _ cs)=>fzC t cs s k
 |_=>none
def Fzd(s s':TSt)(ws:List (Nat×Blk)):Prop:=s'.env=s.env/\lns s'.sto=lns s.sto/\Js s'=⟨(Js s).env,upd ws (Js s).sto⟩/\(∀(b:Nat) (t:Ty) (rows:List t.D) (w:Bool),s'.sto[b]?=some (TB.arr w t rows)-> ∃w',s.sto[b]?=some (TB.arr w' t rows))/\(∀(b:Nat) (t:Ty) (rows:List t.D),s.sto[b]?=some (TB.arr false t rows)->s'.sto[b]?=some (TB.arr false t rows))/\ ∀x∈ws,∃(t:Ty) (rows:List t.D),s'.sto[x.1]?=some (TB.arr false t rows)
theorem Fzd.refl(s:TSt):Fzd s s []:=⟨rfl,rfl,rfl,λb t rows w h=>⟨w,h⟩,λb t rows h=>h,λx h=>by cases h⟩
theorem Fzd.trans{s1 e j:TSt}{a c:List (Nat×Blk)}(h:Fzd s1 e a)(k:Fzd e j c):Fzd s1 j (a++c):=by
 obtain⟨h1,h2,h3,h4,h5,q⟩:=h;obtain⟨q1,q2,q3,o,g,n⟩:=k;refine⟨q1.trans h1,q2.trans h2,?_,λb t rows w h=>?_,λb t rows h=>g b t rows (h5 b t rows h),λx hx=>?_⟩
 ·rw[q3,h3,J1t]
 ·obtain⟨w',h⟩:=o b t rows w h;exact h4 b t rows w' h
 ·rcases J1Q.1 hx with hx|hx
  ·obtain⟨t,rows,h⟩:=q x hx;exact⟨t,rows,g _ t rows h⟩
  ·exact n x hx
theorem JvJ{s:TSt}{b:Nat}{w:Bool}{t:Ty}{rows:List t.D}(hb:s.sto[b]?=some (.arr w t rows)):Fzd s (wS b (.arr false t rows) s) [(b,.arr false t.sz (rows.map (cel t)))]:=by
 have hl:lnB (.arr false t rows)=lns s.sto b:=by rw[J5l hb];rfl
 have hs:(wS b (.arr false t rows) s).sto[b]?=some (.arr false t rows):=by unfold wS;rw[Jnp (Je hb)]
 have ho: ∀c,c≠b->(wS b (.arr false t rows) s).sto[c]?=s.sto[c]?:=λc hc=>by unfold wS;rw[JjD (λe=>hc e.symm)]
 refine⟨rfl,Jh5 hl,JjQ hl,λc t' g w' h=>?_,λc t' g h=>?_,λx hx=>?_⟩
 ·by_cases hc:c=b
  ·subst hc;rw[hs]at h;injection h with h;injection h with h1 h2 h3;subst h2;have h3:=eq_of_heq h3;subst h3;exact⟨w,hb⟩
  ·rw[ho c hc]at h;exact⟨w',h⟩
 ·by_cases hc:c=b
  ·subst hc;rw[hb]at h;injection h with h;injection h with h1 h2 h3;subst h2;have h3:=eq_of_heq h3;subst h3;exact hs
  ·rw[ho c hc];exact h
 ·simp only[JqU]at hx;subst hx;exact⟨t,rows,hs⟩
theorem JMM(x y:List AV)(st:St):(fz.fzL (x++y)).run st=((fz.fzL x).run st).bind λa=>((fz.fzL y).run st).map λc=>(a.1++c.1,a.2++c.2):=by
 induction x with
 |nil=>simp only[Jbd,fz.fzL,JE,JJ];cases(fz.fzL y).run st<;>rfl
 |cons v x ih=>
  simp only[JdO,fz.fzL,run_bind,ih];cases(fz.fz1 v).run st with
  |none=>rfl
  |some a=>
   simp only[JJ];cases(fz.fzL x).run st with
   |none=>rfl
   |some c=>
    simp only[JJ];cases(fz.fzL y).run st with
    |none=>rfl
    |some e=>simp[JE]
theorem Jo8{L:Nat->Nat}{t t':Ty}{x:t'.D}(h:t'=t)(h1:t.sz=1)(st:St):(fz.fzL ([TC.d t' x].map (J0b L))).run st=some (cel t (h▸x),[]):=by subst h;have e:=JBk h1 x;simp only[J0I,List.map_nil,J0b,fz.fzL,fz.fz1,run_bind,JE,JJ,J52];rw[<-e]
theorem JmK: ∀{t:Ty} {l:List TC} {s0 s:TSt} {w0:List (Nat×Blk)} {k:t.D->TSt->Option R} {r:R},Fzd s0 s w0->fzC t l s k=some r->
  ∃y s' ws,(fz.fzL (l.map (J0b (lns s0.sto)))).run (Js s0)=some (cel t y,ws)/\Fzd s0 s' (w0++ws)/\k y s'=some r
 | .pr a c,l,s0,s,w0,k,r,g,h=>by
   simp only[fzC]at h;obtain⟨x,s1,w1,e1,o,h⟩:=JmK g h;obtain⟨y,q,w2,e2,v,h⟩:=JmK o h;refine⟨(x,y),q,w1++w2,?_,by rw[<-J7D];exact v,h⟩;have:=JMM ((l.take a.sz).map (J0b (lns s0.sto))) ((l.drop a.sz).map (J0b (lns s0.sto))) (Js s0);rw[<-J9p,Jou,e1,e2]at this;exact this
 | .ar _ _,_,_,_,_,_,_,_,h=>by cases h
 | .u,l,s0,s,w0,k,r,g,h=>by
   simp only[fzC]at h;split at h
   ·rename_i j;refine⟨(),s,[],?_,by rw[J52];exact g,h⟩;rw[List.isEmpty_iff.1 j];rfl
   ·cases h
 | .l e,l,s0,s,w0,k,r,g,h=>by
   simp only[fzC]at h;split at h
   ·split at h
    ·rename_i j;exact⟨_,s,[],Jo8 j rfl _,by rw[J52];exact g,h⟩
    ·cases h
   ·rename_i b;split at h
    ·rename_i w e' rows hb;split at h
     ·rename_i j;subst j;obtain⟨w',n⟩:=g.2.2.2.1 b _ rows w hb;refine⟨rows,_,[(b,.arr false e'.sz (rows.map (cel e')))],?_,g.trans (JvJ hb),h⟩;simp only[J0I,List.map_nil,J0b,fz.fzL,fz.fz1,run_bind,J1i,J1G,n,J1o,JJ,J0s,J5l n,J1M,zQ6,if_true,Jn0,JE];rfl
     ·cases h
    ·cases h
   ·cases h
 | .b,l,s0,s,w0,k,r,g,h=>by
   simp only[fzC]at h;split at h
   ·split at h
    ·rename_i j;exact⟨_,s,[],Jo8 j rfl _,by rw[J52];exact g,h⟩
    ·cases h
   ·cases h
 | .i _,l,s0,s,w0,k,r,g,h=>by
   simp only[fzC]at h;split at h
   ·split at h
    ·rename_i j;exact⟨_,s,[],Jo8 j rfl _,by rw[J52];exact g,h⟩
    ·cases h
   ·cases h
 | .s,l,s0,s,w0,k,r,g,h=>by
   simp only[fzC]at h;split at h
   ·split at h
    ·rename_i j;exact⟨_,s,[],Jo8 j rfl _,by rw[J52];exact g,h⟩
    ·cases h
   ·cases h
 | .f,l,s0,s,w0,k,r,g,h=>by
   simp only[fzC]at h;split at h
   ·split at h
    ·rename_i j;exact⟨_,s,[],Jo8 j rfl _,by rw[J52];exact g,h⟩
    ·cases h
   ·cases h
theorem JQ5(x:AV)(hx:(∀cs,x≠.data cs)/\ ∀cs,x≠.agg cs)(st:St){y:List PV}{ws:List (Nat×Blk)}(h:(fz.fzL [x]).run st=some (y,ws)):(fz x).run st=some (y,ws):=by
 simp only[fz.fzL,run_bind,JE]at h;cases x with
 |p c=>simpa[fz,fz.fz1,JE]using h
 |slr b i n=>
  simp only[fz,fz.fz1]at h⊢;obtain⟨a,h1,h⟩:=J2s.1 h;simp at h;rw[h1];simp[<-h]
 |data cs=>exact absurd rfl (hx.1 cs)
 |agg cs=>exact absurd rfl (hx.2 cs)
 |_=>simp[fz.fz1,JLx]at h
theorem JJk{t:Ty}{v:TV}{s0 s:TSt}{w0:List (Nat×Blk)}{k:t.D->TSt->Option R}{r:R}(e:Fzd s0 s w0)(h:tfz t v s k=some r):
  ∃y s' ws,(fz (J04 (lns s0.sto) v)).run (Js s0)=some (cel t y,ws)/\Fzd s0 s' (w0++ws)/\k y s'=some r:=by
 unfold tfz at h;split at h
 ·split at h
  ·rename_i g;subst g;exact⟨_,s,[],rfl,by rw[J52];exact e,h⟩
  ·cases h
 ·rename_i x;obtain⟨y,s',ws,h1,h2,h3⟩:=JmK e h;refine⟨y,s',ws,JQ5 _ ⟨λcs=>?_,λcs=>?_⟩ _ h1,h2,h3⟩<;>cases x<;>simp[J0b,J04,J1b]
 ·obtain⟨y,s',ws,h1,h2,h3⟩:=JmK e h;exact⟨y,s',ws,h1,h2,h3⟩
 ·cases h
end
end Go.Am
end
section
namespace Go.Am
section
variable {R:Type}
theorem JnD(L:Nat->Nat){t:Ty}{v:TV}{x:t.D}(h:tdv t v=some x)(ha:agv v=true\/t.sz=1):cellsOf (J04 L v)=some ((cel t x).map .p):=by
 rw[JOX L h];split
 ·rfl
 ·rename_i hn;rw[JBk (ha.resolve_left hn)];rfl
def JBV(t:Ty)(x u:TV)(d:Option Nat)(s:TSt)(k:TSt->Option R):Option R:=
 match x with
 | .a (.c (.ptr b p))=>match s.sto[b]? with
   |some (.box t0 y)=>match tdv t u with
    |some z=>if agv u=true\/t.sz=1 then pst t0 y (spf 0 p).1 (spf 0 p).2 t z λg=>k (J0E d uv (wS b (.box t0 g) s))else none
    |none=>match JjV p,Jrp t0 y,tcs u with
     |some off,some cs,some l=>if l.length=t.sz then
       match spl cs off l with
       |some cs'=>k (J0E d uv (wS b (mkb t0 cs') s))
       |none=>none
      else none
     |some off,none,some l=>if off=0/\l.length=t0.sz/\l.length=t.sz then k (J0E d uv (wS b (mkb t0 l) s))else none
     |_,_,_=>none
   |some (.mbox t0 cs)=>match JjV p,tcs u with
    |some off,some l=>if l.length=t.sz then
      match spl cs off l with
      |some cs'=>k (J0E d uv (wS b (mkb t0 cs') s))
      |none=>none
     else none
    |_,_=>none
   |_=>none
 | .a (.c (.ep b i p))=>tfz t u s λz s1=>match s1.sto[b]? with
   |some (.arr true t0 rows)=>(lat rows i).bind λrow=>pst t0 row (spf 0 p).1 (spf 0 p).2 t z λe=>k (J0E d uv (wS b (.arr true t0 (J0w rows i e)) s1))
   |_=>none
 |_=>none
theorem JOZ(L:Nat->Nat):J04 L uv=J2a:=rfl
theorem Jpw{s:TSt}{b:Nat}{t:Ty}{x:t.D}(h:s.sto[b]?=some (.box t x)):lns s.sto b=0:=by unfold lns;rw[h];rfl
theorem JBt{s:TSt}{b:Nat}{t:Ty}{cs:List TC}(h:s.sto[b]?=some (.mbox t cs)):lns s.sto b=0:=by unfold lns;rw[h];rfl
theorem J9o{s:TSt}{b:Nat}(h:s.sto[b]?=some .dead):lns s.sto b=0:=by unfold lns;rw[h];rfl
theorem Jtt{m:RM Eff}{d:Option Nat}{s:TSt}{k:TSt->Option R}{r:R}{b:Nat}{x:TB}{v:TV}(hl:lnB x=lns s.sto b)(hm:m.run (Js s)=some ⟨J04 (lns s.sto) v,[(b,J0s (lns s.sto) x)]⟩)
  (h:k (J0E d v (wS b x s))=some r):Ok m d s k r:=by
 refine⟨_,_,hm,?_,h⟩;have e:=Jh5 hl;rw[<-e];refine J8C ?_ d v;rw[JjQ hl,e];rfl
theorem JId{m:RM Eff}{d:Option Nat}{s:TSt}{k:TSt->Option R}{r:R}{b:Nat}{x:TB}{v:TV}(hm:m.run (Js s)=some ⟨J04 (lns (wN b x s).sto) v,[(b,J0s (lns (wN b x s).sto) x)]⟩)
  (h:k (J0E d v (wN b x s))=some r):Ok m d s k r:=
 ⟨_,_,hm,J8C (JLX b x s) d v,h⟩
theorem J1X{m:RM Eff}{d:Option Nat}{s:TSt}{k:TSt->Option R}{r:R}{v:TV}(hm:m.run (Js s)=some ⟨J04 (lns s.sto) v,[]⟩)(h:k (J0E d v s)=some r):Ok m d s k r:=
 ⟨_,_,hm,JhK d v,h⟩
theorem JD0{m:RM Eff}{d:Option Nat}{s s':TSt}{ws:List (Nat×Blk)}{k:TSt->Option R}{r:R}{v:TV}(f:Fzd s s' ws)(hm:m.run (Js s)=some ⟨J04 (lns s.sto) v,ws⟩)(h:k (J0E d v s')=some r):Ok m d s k r:=by refine⟨_,_,hm,?_,h⟩;rw[<-f.2.1];exact J8C f.2.2.1 d v
theorem JID{t:Ty}{x u:TV}{d:Option Nat}{s:TSt}{k:TSt->Option R}{r:R}(h:JBV t x u d s k=some r):Ok (J3A t.sz (J04 (lns s.sto) x) (J04 (lns s.sto) u)) d s k r:=by
 unfold JBV at h;split at h
 ·rename_i b p;split at h
  ·rename_i t0 y hb;split at h
   ·rename_i z hz;split at h
    ·rename_i ha;obtain⟨q,h1,h2⟩:=Jbp h;rw[JDc]at h1;refine Jtt (x:=.box t0 q) (v:=uv) (Jpw hb).symm ?_ h2;simp only[J6j,Jb5,Jbj,J4y,J3A,J1i,J1G,hb,J1o,JJ,J0s,JnD (lns s.sto) hz ha,J1M,J1H,if_true,Jbi,h1,JE];rfl
    ·cases h
   ·split at h
    ·rename_i off cs l ho hc hl;split at h
     ·rename_i hn;split at h
      ·rename_i cs' hs;refine Jtt (x:=mkb t0 cs') (v:=uv) ((Jpm _ _).trans (Jpw hb).symm) ?_ h;rw[Jpa];simp only[J6j,Jb5,Jbj,J4y,J3A,J1i,J1G,hb,J1o,JJ,J0s,Jnf (lns s.sto) hl,J1M,hn,if_true,Jik ho,<-Jit (lns s.sto) hc,Jbi,hs,JE];rfl
      ·cases h
     ·cases h
    ·rename_i off l ho _ hl;split at h
     ·rename_i o;obtain⟨rfl,h1,h2⟩:=o;refine Jtt (x:=mkb t0 l) (v:=uv) ((Jpm _ _).trans (Jpw hb).symm) ?_ h;rw[Jpa];have he:spl ((cel t0 y).map AV.p) 0 (l.map (J0b (lns s.sto)))=some (l.map (J0b (lns s.sto))):=JFJ (by rw[J1M,J1M,J1H,h1]);simp only[J6j,Jb5,Jbj,J4y,J3A,J1i,J1G,hb,J1o,JJ,J0s,Jnf (lns s.sto) hl,J1M,h2,if_true,Jik ho,he,JE];rfl
     ·cases h
    ·cases h
  ·rename_i t0 cs hb;split at h
   ·rename_i off l ho hl;split at h
    ·rename_i hn;split at h
     ·rename_i cs' hs;refine Jtt (x:=mkb t0 cs') (v:=uv) ((Jpm _ _).trans (JBt hb).symm) ?_ h;rw[Jpa];simp only[J6j,Jb5,Jbj,J4y,J3A,J1i,J1G,hb,J1o,JJ,J0s,Jnf (lns s.sto) hl,J1M,hn,if_true,Jik ho,Jbi,hs,JE];rfl
     ·cases h
    ·cases h
   ·cases h
  ·cases h
 ·rename_i b i p;obtain⟨z,s1,ws,h1,f,h⟩:=JJk (Fzd.refl s) h;rw[Jbd]at f;split at h
  ·rename_i t0 rows hb;obtain⟨row,hr,h⟩:=J2s.1 h;have hr:rows[i]?=some row:=hr;obtain⟨g,q1,q2⟩:=Jbp h;rw[JDc]at q1;obtain⟨w',j⟩:=f.2.2.2.1 b _ rows true hb;have hw:w'=true:=by
    cases w' with
    |true=>rfl
    |false=>
     have:=f.2.2.2.2.1 b _ rows j;rw[hb]at this;injection this with this;injection this with this;cases this
   subst hw;have n:(ws.all λy=>y.1 !=b)=true:=by rw[Jre];intro y hy;obtain⟨t',rows',hf⟩:=f.2.2.2.2.2 y hy;rw[bne_iff_ne];intro e;rw[e,hb]at hf;injection hf with hf;injection hf with hf;cases hf
   have hl:lnB (.arr true t0 (J0w rows i g))=lns s1.sto b:=by rw[J5l hb];simp[lnB,J0w]
   refine⟨⟨J2a,ws++[(b,.arr true t0.sz ((J0w rows i g).map (cel t0)))]⟩,_,?_,?_,q2⟩
   ·simp only[J6j,Jb5,Jbj,J4y,J3A,J1i,J1G,j,J1o,JJ,J0s,J5l j,J1M,if_true,J29,hr,run_bind,h1,J1H,n,and_self,q1,JE,List.map_set,J0w]
   ·rw[<-JOZ (lns (wS b (.arr true t0 (J0w rows i g)) s1).sto)];refine J8C ?_ d uv;rw[JjQ hl,f.2.2.1,J1t];rfl
  ·cases h
 ·cases h
def tpv:List (Nat×Ty×TO)->TSt->Option (List (Nat×(w:Ty)×w.D))
 |[],_=>some []
 |(off,w,o)::r,s=>match tev o s with
  |some v=>match tdv w v with
   |some z=>if agv v=true\/w.sz=1 then
     match tpv r s with
     |some l=>some ((off,⟨w,z⟩)::l)
     |none=>none
    else none
   |none=>none
  |none=>none
def JzO(t:Ty):t.D->List (Nat×(w:Ty)×w.D)->(t.D->Option R)->Option R
 |x,[],k=>k x
 |x,(off,⟨w,z⟩)::r,k=>pst t x off [] w z λe=>JzO t e r k
def tpc:List (Nat×Ty×TO)->TSt->Option (List (Nat×Nat×List TC))
 |[],_=>some []
 |(off,w,o)::r,s=>match tev o s with
  |some v=>match tcs v with
   |some l=>match tpc r s with
    |some q=>some ((off,w.sz,l)::q)
    |none=>none
   |none=>none
  |none=>none
def JtX:List (Nat×Nat×List TC)->List TC->Option (List TC)
 |[],cs=>some cs
 |(off,n,c)::r,cs=>if c.length=n then
   match spl cs off c with
   |some cs'=>JtX r cs'
   |none=>none
  else none
def erP(parts:List (Nat×Ty×TO)):List (Nat×Nat×Opd):=parts.map λx=>(x.1,x.2.1.sz,erO x.2.2)
theorem JCa{s:TSt}: ∀{parts:List (Nat×Ty×TO)} {l:List (Nat×Nat×List TC)},tpc parts s=some l->
  (J53 (erP parts)).run (Js s)=some (l.map λx=>(x.1,x.2.1,x.2.2.map (J0b (lns s.sto))))
 |[],l,h=>by injection h with h;subst h;rfl
 |(off,w,o)::r,l,h=>by
  simp only[tpc]at h;split at h
  ·rename_i v hv;split at h
   ·rename_i c hc;split at h
    ·rename_i q hq;injection h with h;subst h;have ih:=JCa hq;simp only[erP,J0I,J53,run_bind,J0d hv,JJ,Jnf (lns s.sto) hc];rw[show(r.map λx=>(x.1,x.2.1.sz,erO x.2.2))=erP r from rfl,ih];rfl
    ·cases h
   ·cases h
  ·cases h
theorem JJv{s:TSt}: ∀{parts:List (Nat×Ty×TO)} {l:List (Nat×(w:Ty)×w.D)},tpv parts s=some l->
  (J53 (erP parts)).run (Js s)=some (l.map λx=>(x.1,x.2.1.sz,(cel x.2.1 x.2.2).map .p))
 |[],l,h=>by injection h with h;subst h;rfl
 |(off,w,o)::r,l,h=>by
  simp only[tpv]at h;split at h
  ·rename_i v hv;split at h
   ·rename_i z hz;split at h
    ·rename_i ha;split at h
     ·rename_i q hq;injection h with h;subst h;have ih:=JJv hq;simp only[erP,J0I,J53,run_bind,J0d hv,JJ,JnD (lns s.sto) hz ha];rw[show(r.map λx=>(x.1,x.2.1.sz,erO x.2.2))=erP r from rfl,ih];rfl
     ·cases h
    ·cases h
   ·cases h
  ·cases h
theorem JA5{t:Ty}: ∀{l:List (Nat×(w:Ty)×w.D)} {x:t.D} {k:t.D->Option R} {r:R},JzO t x l k=some r->
  ∃y,J68 (l.map λx=>(x.1,x.2.1.sz,(cel x.2.1 x.2.2).map .p)) ((cel t x).map .p)=some ((cel t y).map .p)/\k y=some r
 |[],x,k,r,h=>⟨x,rfl,h⟩
 |(off,⟨w,z⟩)::q,x,k,r,h=>by
  simp only[JzO]at h;obtain⟨e,h1,h2⟩:=Jbp h;obtain⟨y,h3,h4⟩:=JA5 h2;refine⟨y,?_,h4⟩;simp only[J0I,J68,J1M,J1H,if_true];rw[Jbi,show off=off+spo []from rfl,h1];exact h3
theorem JqM(L:Nat->Nat): ∀{l:List (Nat×Nat×List TC)} {cs cs':List TC},JtX l cs=some cs'->
  J68 (l.map λx=>(x.1,x.2.1,x.2.2.map (J0b L))) (cs.map (J0b L))=some (cs'.map (J0b L))
 |[],cs,cs',h=>by injection h with h;subst h;rfl
 |(off,n,c)::q,cs,cs',h=>by
  simp only[JtX]at h;split at h
  ·rename_i hn;split at h
   ·rename_i e hs;simp only[J0I,J68,J1M,hn,if_true,Jbi,hs,J1o];exact JqM L h
   ·cases h
  ·cases h
def JBO(t:Ty)(parts:List (Nat×Ty×TO))(d:Option Nat)(s:TSt)(k:TSt->Option R):Option R:=
 match tpv parts s with
 |some l=>JzO t t.zero l λy=>k (J0E d (.a (.dt t y)) s)
 |none=>match tpc parts s with
  |some l=>match JtX l (zcs t)with
   |some cs'=>match mka true t cs' with
    |some v=>k (J0E d v s)
    |none=>none
   |none=>none
  |none=>none
theorem JJc(F:Orc)(new:Nat){t:Ty}{parts:List (Nat×Ty×TO)}{d:Option Nat}{s:TSt}{k:TSt->Option R}{r:R}(h:JBO t parts d s k=some r):Ok (opR F (.build (cel t t.zero) (erP parts)) new) d s k r:=by
 unfold JBO at h;split at h
 ·rename_i l hl;obtain⟨y,h1,h2⟩:=JA5 h;refine J1X (v:=.a (.dt t y)) ?_ h2;simp only[opR,run_bind,JJv hl,JJ,h1,Jq9,val,JE];rfl
 ·split at h
  ·rename_i l hl;split at h
   ·rename_i cs' hf;split at h
    ·rename_i v hv;refine J1X (v:=v) ?_ h;simp only[opR,run_bind,JCa hl,JJ,<-Jhd (lns s.sto) t,JqM (lns s.sto) hf,JhQ (lns s.sto) hv,val,JE]
    ·cases h
   ·cases h
  ·cases h
def JBM(agg:Bool)(off:Nat)(t:Ty)(v:TV)(d:Option Nat)(s:TSt)(k:TSt->Option R):Option R:=
 if agg=true\/t.sz=1 then
  match v with
  | .a (.dt t0 x)=>prt t0 x off [] t λy=>k (J0E d (mkv agg t y) s)
  | .a (.m _ cs)=>match sub cs off t.sz with
    |some l=>match mka agg t l with
     |some v=>k (J0E d v s)
     |none=>none
    |none=>none
  |_=>none
 else none
theorem JIT{agg:Bool}{off:Nat}{t:Ty}{v:TV}{d:Option Nat}{s:TSt}{k:TSt->Option R}{r:R}(h:JBM agg off t v d s k=some r):Ok (val (J8Q agg off t.sz (J04 (lns s.sto) v))) d s k r:=by
 unfold JBM at h;split at h
 ·rename_i ha;split at h
  ·rename_i t0 x;obtain⟨y,h1,h2⟩:=J9E h;refine J1X (v:=mkv agg t y) ?_ h2;simp only[spo,J7w]at h1;simp only[JHL,e_m,J8Q,h1,Jin (lns s.sto) ha,val,JE]
  ·rename_i cs;split at h
   ·rename_i l hl;split at h
    ·rename_i v hv;refine J1X (v:=v) ?_ h;simp only[JHL,e_m,J8Q,Jb9,hl,J1o,JhQ (lns s.sto) hv,val,JE]
    ·cases h
   ·cases h
  ·cases h
 ·cases h
end
end Go.Am
end
section
namespace Go.Am
section
variable {R:Type}
theorem JuW{α:Type} [BEq α] [LawfulBEq α] [DecidableEq α](x y:α):(x==y)=decide (x=y):=by by_cases h:x=y<;>simp[h]
def Vl(m:Option AV)(s:TSt)(kk:TV->Option R)(r:R):Prop:= ∃v,m=some (J04 (lns s.sto) v)/\kk v=some r
theorem Vl.ok{m:Option AV}{d:Option Nat}{s:TSt}{k:TSt->Option R}{r:R}(h:Vl m s (λv=>k (J0E d v s)) r):Ok (val m) d s k r:=by obtain⟨v,h1,h2⟩:=h;refine J1X (v:=v) ?_ h2;rw[h1];rfl
def JLc(op:BinOp)(k:IntKind)(a c:Int)(kk:TV->Option R):Option R:=
 match op with
 | .add=>kk (vi k (J1 k a c))
 | .sub=>kk (vi k (JG k a c))
 | .mul=>kk (vi k (J3f k a c))
 | .quo=>(JNz k a c).bind λq=>kk (vi k q)
 | .rem=>(JnN a c).bind λq=>kk (vi k q)
 | .and=>kk (vi k (JAo k a c))
 | .or=>kk (vi k (orI k a c))
 | .xor=>kk (vi k (JgH k a c))
 | .eql=>kk (vb (eqI a c))
 | .neq=>kk (vb (neI a c))
 | .lss=>kk (vb (ltI a c))
 | .leq=>kk (vb (leI a c))
 | .gtr=>kk (vb (gtI a c))
 | .geq=>kk (vb (geI a c))
 |_=>none
def JK2(op:BinOp)(a c:List UInt8)(kk:TV->Option R):Option R:=
 match op with
 | .add=>(J6n a c).bind λq=>kk (vs q)
 | .eql=>kk (vb (eqS a c))
 | .neq=>kk (vb (neS a c))
 | .lss=>kk (vb (ltS a c))
 | .leq=>kk (vb (leS a c))
 | .gtr=>kk (vb (gtS a c))
 | .geq=>kk (vb (geS a c))
 |_=>none
inductive TBT where
 |plain
 |bool
 |flat (t:Ty)
 |nilp
 |nilf
def erT:TBT->BT
 | .plain=>.plain
 | .bool=>.bool
 | .flat t=>.flat (t.ks.getD [])
 | .nilp=>.nilp
 | .nilf=>.nilf
def Jcb(op:BinOp)(x:Bool)(kk:TV->Option R):Option R:=
 match op with
 | .eql=>kk (vb x)
 | .neq=>kk (vb (Jq x))
 |_=>none
def JKt(op:BinOp)(bt:TBT)(x y:TV)(kk:TV->Option R):Option R:=
 match bt with
 | .plain=>match x,y with
   | .a (.c (.d (.i k) a)),.a (.c (.d (.i j) c))=>match op with
     | .shl=>(JrM k a c).bind λq=>kk (vi k q)
     | .shr=>(Jn3 k a c).bind λq=>kk (vi k q)
     |_=>if k=j then JLc op k a c kk else none
   | .a (.c (.d .s a)),.a (.c (.d .s c))=>JK2 op a c kk
   |_,_=>none
 | .bool=>match x,y with
   | .a (.c (.d .b a)),.a (.c (.d .b c))=>Jcb op (eqB a c) kk
   |_,_=>none
 | .flat t=>match x,y with
   | .a (.dt g a),.a (.dt e c)=>if h:g=t/\e=t/\t.ks.isSome=true then Jcb op (eqT t (h.1▸a) (h.2.1▸c)) kk else none
   |_,_=>none
 | .nilp=>match x with
   | .a (.c .np)=>Jcb op true kk
   | .a (.c (.ptr _ _))=>Jcb op false kk
   | .a (.c (.cp _ _ _))=>Jcb op false kk
   | .a (.c (.ep _ _ _))=>Jcb op false kk
   |_=>none
 | .nilf=>match x with
   | .a (.c .nf)=>Jcb op true kk
   | .a (.fn _ _ _)=>Jcb op false kk
   | .a (.c (.fn _))=>Jcb op false kk
   | .a (.c (.d .f _))=>Jcb op true kk
   |_=>none
theorem Jpu{op:BinOp}{x:Bool}{s:TSt}{kk:TV->Option R}{r:R}(h:Jcb op x kk=some r):Vl (J8m op (some x)) s kk r:=by
 unfold Jcb at h;split at h
 ·exact⟨_,rfl,h⟩
 ·exact⟨_,rfl,h⟩
 ·cases h
theorem JMa{op:BinOp}{k:IntKind}{a c:Int}{s:TSt}{kk:TV->Option R}{r:R}(h:JLc op k a c kk=some r):Vl ((JrR op k a c).map .p) s kk r:=by
 unfold JLc at h;split at h<;>first
  |exact⟨_,rfl,h⟩
  |(obtain⟨q,h1,h⟩:=J2s.1 h
    refine⟨_,?_,h⟩
    first|unfold JNz at h1|unfold JnN at h1
    split at h1
    ·cases h1
    ·rename_i e;injection h1 with h1;simp only[JrR,if_neg e,h1,J1o,e_i])
  |(refine⟨_,?_,h⟩;simp only[JrR,JuW,J1o,e_b,bne,eqI,neI,ltI,leI,gtI,geI];done)
  |cases h
theorem JNk{op:BinOp}{a c:List UInt8}{s:TSt}{kk:TV->Option R}{r:R}(h:JK2 op a c kk=some r):Vl ((JrH op a c).map .p) s kk r:=by
 unfold JK2 at h;split at h<;>first
  |(obtain⟨q,h1,h⟩:=J2s.1 h
    refine⟨_,?_,h⟩;unfold J6n at h1;split at h1
    ·rename_i e;injection h1 with h1;simp only[JrH,if_pos e,h1,J1o,e_s]
    ·cases h1)
  |(refine⟨_,?_,h⟩;simp only[JrH,JuW,J1o,e_b,eqS,neS,ltS,leS,gtS,geS];done)
  |cases h
theorem JMQ{op:BinOp}{bt:TBT}{x y:TV}{s:TSt}{kk:TV->Option R}{r:R}(h:JKt op bt x y kk=some r):Vl (Jcf op (erT bt) (J04 (lns s.sto) x) (J04 (lns s.sto) y)) s kk r:=by
 unfold JKt at h;split at h
 ·split at h
  ·rename_i k a n c;simp only[e_i,erT,Jcf];split at h
   ·obtain⟨q,h1,h⟩:=J2s.1 h;unfold JrM at h1;split at h1
    ·cases h1
    ·rename_i e;injection h1 with h1;exact⟨_,by simp only[Jdx,if_neg e,h1,J1o,e_i],h⟩
   ·obtain⟨q,h1,h⟩:=J2s.1 h;unfold Jn3 at h1;split at h1
    ·cases h1
    ·rename_i e;injection h1 with h1;exact⟨_,by simp only[Jdx,if_neg e,h1,J1o,e_i],h⟩
   ·split at h
    ·rename_i hk;subst hk;simp only[if_true];cases op<;>first|exact JMa h|cases h
    ·cases h
  ·exact JNk h
  ·cases h
 ·split at h
  ·rename_i a c;simp only[e_b,erT,Jcf,JuW];exact Jpu h
  ·cases h
 ·split at h
  ·rename_i t o a j c;split at h
   ·rename_i e;obtain⟨rfl,rfl,h1⟩:=e;obtain⟨ks,g⟩:=JHp.1 h1;simp only[JHL,erT,Jcf,g,Juo,Jpy _ a c g];exact Jpu h
   ·cases h
  ·cases h
 ·split at h<;>first|exact Jpu h|cases h
 ·split at h<;>first|exact Jpu h|cases h
def tUn(op:UnOp)(x:TV)(kk:TV->Option R):Option R:=
 match op,x with
 | .neg,.a (.c (.d (.i k) n))=>kk (vi k (JQ9 k n))
 | .xor,.a (.c (.d (.i k) n))=>kk (vi k (JJV k n))
 | .not,.a (.c (.d .b x))=>kk (vb (Jq x))
 |_,_=>none
theorem JOK{op:UnOp}{x:TV}{s:TSt}{kk:TV->Option R}{r:R}(h:tUn op x kk=some r):Vl (unP op (J04 (lns s.sto) x)) s kk r:=by unfold tUn at h;split at h<;>first|exact⟨_,rfl,h⟩|cases h
def tMm(mx:Bool)(x y:TV)(kk:TV->Option R):Option R:=
 match x,y with
 | .a (.c (.d (.i k) a)),.a (.c (.d (.i _) c))=>kk (vi k (if mx=true then J1P a c else JaZ a c))
 |_,_=>none
theorem JP1{mx:Bool}{x y:TV}{s:TSt}{kk:TV->Option R}{r:R}(h:tMm mx x y kk=some r):Vl (mmP mx (J04 (lns s.sto) x) (J04 (lns s.sto) y)) s kk r:=by
 unfold tMm at h;split at h
 ·exact⟨_,by cases mx<;>rfl,h⟩
 ·cases h
def tls(t:Ty)(v:TV)(s:TSt):Option (List t.D):=
 match v with
 | .a (.c (.d (.l t') l))=>if h:t'=t then some (h▸l)else none
 | .a (.c (.d .s l))=>if h:t=.i .u8 then some (h▸(toByt l:List (Ty.i .u8).D))else none
 | .a (.c (.slr b))=>match s.sto[b]? with
   |some (.arr _ t' rows)=>if h:t'=t then some (h▸rows)else none
   |_=>none
 |_=>none
theorem Jsj{t:Ty}{v:TV}{s:TSt}{l:List t.D}(h:tls t v s=some l):(J2w t.sz (J04 (lns s.sto) v)).run (Js s)=some (l.map (cel t)):=by
 unfold tls at h;split at h
 ·split at h
  ·rename_i e;subst e;injection h with h;subst h
   simp only[e_l,J2w,if_true,JE]
  ·cases h
 ·split at h
  ·rename_i e;subst e;injection h with h;subst h
   simp only[e_s,J2w,Ty.sz,if_true,JE,JrQ];rfl
  ·cases h
 ·rename_i b;split at h
  ·rename_i w t' rows hb;split at h
   ·rename_i e;subst e;injection h with h;subst h
    simp only[J4y,J2w,J1i,J1G,hb,J1o,JJ,J0s,J5l hb,J1M,zQ6,and_self,if_true,JE,Jn0]
   ·cases h
  ·cases h
 ·cases h
def JHy(k:CK)(x:TV)(d:Option Nat)(new:Nat)(s:TSt)(kk:TSt->Option R):Option R:=
 match k with
 | .int k=>match x with
   | .a (.c (.d (.i _) n))=>kk (J0E d (vi k (cvI k n)) s)
   |_=>none
 | .same=>match x with
   | .a (.c (.d .s l))=>kk (J0E d (vs l) s)
   |_=>none
 | .toStr=>match tls (.i .u8) x s with
   |some l=>kk (J0E d (vs (toStr l)) s)
   |none=>none
 | .toBytes own=>match x with
   | .a (.c (.d .s l))=>if own=true then kk (J0E d (.a (.c (.slr new))) (wN new (.arr true (.i .u8) (toByt l)) s))else kk (J0E d (vl (.i .u8) (toByt l)) s)
   |_=>none
theorem JKC(F:Orc){k:CK}{x:TO}{v:TV}{d:Option Nat}{new:Nat}{s:TSt}{kk:TSt->Option R}{r:R}(hx:tev x s=some v)(hn:k=.toBytes true->new<s.sto.length)(h:JHy k v d new s kk=some r):Ok (opR F (.conv k (erO x)) new) d s kk r:=by
 unfold JHy at h;split at h
 ·split at h
  ·refine J1X (v:=vi _ _) ?_ h;simp only[opR,run_bind,J0d hx,JJ,e_i,JE,cvI]
  ·cases h
 ·split at h
  ·refine J1X (v:=vs _) ?_ h;simp only[opR,run_bind,J0d hx,JJ,e_s,JE]
  ·cases h
 ·split at h
  ·rename_i l hl;refine J1X (v:=vs _) ?_ h;have:=Jsj hl;have e:l.map (cel (.i .u8))=l.map (r_i .u8):=rfl;rw[e]at this;simp only[opR,run_bind,J0d hx,JJ,this,Jjy,e_s,JE,Ty.sz];rw[show(J2w 1 (J04 (lns s.sto) v)).run (Js s)=some (l.map (r_i .u8))from this];simp only[JJ,Jjy,JE]
  ·cases h
 ·rename_i own;split at h
  ·rename_i l;split at h
   ·rename_i ho;subst ho;refine JId (x:=.arr true (.i .u8) (toByt l)) (v:=.a (.c (.slr new))) ?_ h;simp only[opR,run_bind,J0d hx,JJ,e_s,if_true,JE,J4y,J0s,JrQ];have e:lns (wN new (TB.arr true (Ty.i IntKind.u8) (toByt l)) s).sto new=l.length:=by unfold wN;rw[JCW (by simpa using hn rfl)];simp[lnB,toByt]
    rw[e];rfl
   ·rename_i ho;have:own=false:=by simpa using ho
    subst this;refine J1X (v:=vl _ _) ?_ h;simp only[opR,run_bind,J0d hx,JJ,e_s,J5h,if_false,JE,e_l,JrQ];rfl
  ·cases h
end
end Go.Am
end
section
namespace Go.Am
section
variable {R:Type}
theorem JFT(p q:List Sp):spo (p++q)=spo p+spo q:=by
 induction p with
 |nil=>simp[spo]
 |cons x p ih=>cases x<;>simp only[JdO,spo,ih]<;>omega
def JBh(off:Nat)(x:TV)(kk:TV->Option R):Option R:=
 match x with
 | .a (.c (.ptr b p))=>kk (.a (.c (.ptr b (p++[.f off]))))
 | .a (.c (.cp t x p))=>kk (.a (.c (.cp t x (p++[.f off]))))
 | .a (.c (.ep b i p))=>kk (.a (.c (.ep b i (p++[.f off]))))
 |_=>none
theorem JJ3{off:Nat}{x:TV}{s:TSt}{kk:TV->Option R}{r:R}(h:JBh off x kk=some r):Vl (JoI off (J04 (lns s.sto) x)) s kk r:=by
 unfold JBh at h;split at h<;>first
  |(refine⟨_,?_,h⟩;simp only[J6j,Jb5,Jbj,JoI,JFT,spo,J7w];done)
  |cases h
def JB3(len esz:Nat)(x i:TV)(kk:TV->Option R):Option R:=
 match i with
 | .a (.c (.d (.i _) n))=>(inb len n).bind λ_=>match x with
   | .a (.c (.ptr b p))=>kk (.a (.c (.ptr b (p++[.a n.toNat esz]))))
   | .a (.c (.cp t x p))=>kk (.a (.c (.cp t x (p++[.a n.toNat esz]))))
   | .a (.c (.ep b i p))=>kk (.a (.c (.ep b i (p++[.a n.toNat esz]))))
   |_=>none
 |_=>none
theorem JJf{len esz:Nat}{x i:TV}{s:TSt}{kk:TV->Option R}{r:R}(h:JB3 len esz x i kk=some r):Vl (JoU len esz (J04 (lns s.sto) x) (J04 (lns s.sto) i)) s kk r:=by
 unfold JB3 at h;split at h
 ·obtain⟨_,h1,h⟩:=J2s.1 h;have e:=JGg h1;split at h<;>first
   |(refine⟨_,?_,h⟩;simp only[J6j,Jb5,Jbj,e_i,JoU,if_pos e,JFT,spo,J7w];done)
   |cases h
 ·cases h
def JBR(t:Ty)(x i:TV)(s:TSt)(kk:TV->Option R):Option R:=
 match i with
 | .a (.c (.d (.i _) n))=>match x with
   | .a (.c (.d (.l t') l))=>if t'=t then(idx l n).bind λy=>kk (.a (.c (.cp t' y [])))else none
   | .a (.c (.slr b))=>match s.sto[b]? with
     |some (.arr _ t' rows)=>if t'=t then(inb rows.length n).bind λ_=>kk (.a (.c (.ep b n.toNat [])))else none
     |_=>none
   |_=>none
 |_=>none
theorem JIQ{t:Ty}{x i:TV}{d:Option Nat}{s:TSt}{k:TSt->Option R}{r:R}(h:JBR t x i s (λv=>k (J0E d v s))=some r):Ok (J6d t.sz (J04 (lns s.sto) x) (J04 (lns s.sto) i)) d s k r:=by
 unfold JBR at h;split at h
 ·split at h
  ·split at h
   ·rename_i e;subst e;obtain⟨y,h1,h⟩:=J2s.1 h;refine J1X (v:=.a (.c (.cp _ y []))) ?_ h;simp only[e_l,e_i,Jb5,J6d,if_true,JIL h1,JE,spo]
   ·cases h
  ·rename_i b;split at h
   ·rename_i w t' rows hb;split at h
    ·rename_i e;subst e;obtain⟨_,h1,h⟩:=J2s.1 h;have e:=JGg h1;refine J1X (v:=.a (.c (.ep b _ []))) ?_ h;simp only[J4y,e_i,Jbj,J6d,J1i,J1G,hb,J1o,JJ,J0s,J5l hb,J1M,zQ6,true_and];rw[if_pos e];rfl
    ·cases h
   ·cases h
  ·cases h
 ·cases h
def JGy(x i:TV)(kk:TV->Option R):Option R:=
 match x,i with
 | .a (.c (.d .s l)),.a (.c (.d (.i _) n))=>(Jow l n).bind λu=>kk (vi .u8 u)
 |_,_=>none
theorem JLP(F:Orc){x i:TO}{g e:TV}{d:Option Nat}{new:Nat}{s:TSt}{k:TSt->Option R}{r:R}(hx:tev x s=some g)(hi:tev i s=some e)(h:JGy g e (λv=>k (J0E d v s))=some r):Ok (opR F (.sidx (erO x) (erO i)) new) d s k r:=by
 unfold JGy at h;split at h
 ·rename_i l o n;obtain⟨u,h1,h⟩:=J2s.1 h;refine J1X (v:=vi .u8 u) ?_ h;simp only[opR,run_bind,J0d hx,J0d hi,JJ,e_s,e_i];unfold Jow at h1;split at h1
  ·rename_i j;rw[if_pos j];split at h1
   ·rename_i q hq;injection h1 with h1;rw[hq,<-h1];rfl
   ·cases h1
  ·cases h1
 ·cases h
def JHY(j:Int)(k:Nat->Option R):Nat->Option R
 |0=>none
 |m+1=>if eqI j m=true then k m else JHY j k m
theorem JG6{j:Int}{k:Nat->Option R}{r:R}: ∀{n:Nat},JHY j k n=some r-> ∃m,m<n/\j=m/\k m=some r
 |0,h=>by cases h
 |n+1,h=>by
  simp only[JHY]at h;split at h
  ·rename_i e;exact⟨n,by omega,by simpa[eqI]using e,h⟩
  ·obtain⟨m,h1,h2,h3⟩:=JG6 h;exact⟨m,by omega,h2,h3⟩
def JHZ(agg:Bool)(len:Nat)(t:Ty)(x i:TV)(d:Option Nat)(s:TSt)(k:TSt->Option R):Option R:=
 if agg=true\/t.sz=1 then
  match x,i with
  | .a (.dt (.ar n t') v),.a (.c (.d (.i _) j))=>if h:t'=t/\n=len then(JLF v j).bind λy=>k (J0E d (mkv agg t (h.1▸y)) s)else none
  | .a (.m _ cs),.a (.c (.d (.i _) j))=>JHY j (λm=>match sub cs (m*t.sz) t.sz with
    |some l=>match mka agg t l with
     |some v=>k (J0E d v s)
     |none=>none
    |none=>none) len
  |_,_=>none
 else none
theorem JKW(F:Orc){agg:Bool}{len:Nat}{t:Ty}{x i:TO}{g e:TV}{d:Option Nat}{new:Nat}{s:TSt}{k:TSt->Option R}{r:R}(hx:tev x s=some g)(hi:tev i s=some e)(h:JHZ agg len t g e d s k=some r):
  Ok (opR F (.aidx agg len t.sz (erO x) (erO i)) new) d s k r:=by
 unfold JHZ at h;split at h
 ·rename_i ha;split at h
  ·rename_i n t' v w j;split at h
   ·rename_i q;obtain⟨rfl,rfl⟩:=q;obtain⟨y,h1,h⟩:=J2s.1 h;obtain⟨h2,h3⟩:=JJU h1;refine J1X (v:=mkv agg t' y) ?_ h;simp only[opR,run_bind,J0d hx,J0d hi,JJ,JHL,e_i,if_pos h2,J8Q];rw[show cel (.ar n t') v=J9S (cel t') v from rfl,JmY (J1H t') h3];simp only[Jin (lns s.sto) ha,val,JE]
   ·cases h
  ·rename_i t0 cs w j;obtain⟨m,h1,o,h3⟩:=JG6 h;clear h;subst o;split at h3
   ·rename_i l hl;split at h3
    ·rename_i v hv;refine J1X (v:=v) ?_ h3;have h2:(0:Int)<=m/\(m:Int)<len:=by omega
     simp only[opR,run_bind,J0d hx,J0d hi,JJ,e_m,e_i,if_pos h2,J8Q,Int.toNat_natCast,Jb9,hl,J1o,JhQ (lns s.sto) hv,val,JE]
    ·cases h3
   ·cases h3
  ·cases h
 ·cases h
def JHs(x:TV)(i:Nat)(kk:TV->Option R):Option R:=
 match x with
 | .tup vs=>match vs[i]? with
   |some v=>kk (.a v)
   |none=>none
 |_=>none
theorem JLy{x:TV}{i:Nat}{s:TSt}{kk:TV->Option R}{r:R}(h:JHs x i kk=some r):Vl (Jsh i (J04 (lns s.sto) x)) s kk r:=by
 unfold JHs at h;split at h
 ·split at h
  ·rename_i v hv;refine⟨_,?_,h⟩;simp only[J04,Jsh,J29,hv,J1o]
  ·cases h
 ·cases h
def JK7(str:Bool)(x:TV)(s:TSt)(kk:TV->Option R):Option R:=
 match str,x with
 |true,.a (.c (.d .s l))=>kk (vi .i64 (J0 l))
 |false,.a (.c (.d (.l _) l))=>kk (vi .i64 (J0 l))
 |false,.a (.c (.slr b))=>match s.sto[b]? with
  |some (.arr _ _ rows)=>kk (vi .i64 (J0 rows))
  |_=>none
 |false,.a (.c (.slo _ n))=>kk (vi .i64 n)
 |_,_=>none
theorem JMf{str:Bool}{x:TV}{s:TSt}{kk:TV->Option R}{r:R}(h:JK7 str x s kk=some r):Vl (Juh str (J04 (lns s.sto) x)) s kk r:=by
 unfold JK7 at h;split at h
 ·exact⟨_,rfl,h⟩
 ·exact⟨_,by simp only[e_l,Juh,J1M,e_i,J0],h⟩
 ·split at h
  ·rename_i hb;exact⟨_,by simp only[J4y,Juh,J5l hb,e_i,J0],h⟩
  ·cases h
 ·exact⟨_,rfl,h⟩
 ·cases h
theorem Juy{s:TSt}{new:Nat}(hn:new<s.sto.length){w:Bool}{t:Ty}{rows:List t.D}:lns (wN new (TB.arr w t rows) s).sto new=rows.length:=by unfold wN;rw[JCW (by simpa using hn)];rfl
theorem Jsi{m:RM Eff}{d:Option Nat}{s:TSt}{k:TSt->Option R}{r:R}{new:Nat}{t:Ty}{rows:List t.D}(hn:new<s.sto.length)
  (hm:m.run (Js s)=some ⟨.slr new 0 rows.length,[(new,.arr true t.sz (rows.map (cel t)))]⟩) (h:k (J0E d (.a (.c (.slr new))) (wN new (.arr true t rows) s))=some r):Ok m d s k r:=by
 refine JId (x:=.arr true t rows) (v:=.a (.c (.slr new))) ?_ h;rw[hm,J4y,Juy hn];rfl
def JrS(own:Bool)(t:Ty)(bytes:Nat)(l c:TV)(d:Option Nat)(new:Nat)(s:TSt)(k:TSt->Option R):Option R:=
 match l,c with
 | .a (.c (.d (.i _) n)),.a (.c (.d (.i _) m))=>(mkS bytes n m t.zero).bind λrows=>
   if own=true then k (J0E d (.a (.c (.slr new))) (wN new (.arr true t rows) s))else k (J0E d (vl t rows) s)
 |_,_=>none
theorem JEV(F:Orc){own:Bool}{t:Ty}{bytes:Nat}{l c:TO}{e g:TV}{d:Option Nat}{new:Nat}{s:TSt}{k:TSt->Option R}{r:R}(hl:tev l s=some e)(hc:tev c s=some g)(hn:own=true->new<s.sto.length)
  (h:JrS own t bytes e g d new s k=some r):Ok (opR F (.mkslice own t.sz bytes (cel t t.zero) (erO l) (erO c)) new) d s k r:=by
 unfold JrS at h;split at h
 ·obtain⟨rows,h1,h3⟩:=J2s.1 h;obtain⟨h2,rfl⟩:=JN7 h1;clear h;split at h3
  ·rename_i ho;subst ho;refine Jsi (hn rfl) ?_ h3;simp only[opR,run_bind,J0d hl,J0d hc,JJ,e_i,if_pos h2,if_true,JE,JjJ,Jrv]
  ·rename_i ho;have:own=false:=by simpa using ho
   subst this;refine J1X (v:=vl t _) ?_ h3;simp only[opR,run_bind,J0d hl,J0d hc,JJ,e_i,if_pos h2,J5h,if_false,JE,e_l,Jrv]
 ·cases h
def JI4(t:Ty)(bytes:Nat)(x y:TV)(d:Option Nat)(s:TSt)(k:TSt->Option R):Option R:=
 match x with
 | .a (.c (.slr b))=>match s.sto[b]? with
   |some (.arr w t' rows)=>if h:t'=t then
     match tls t' y s with
     |some l=>(Jy bytes rows l).bind λm=>k (J0E d (.a (.c (.slr b))) (wN b (.arr w t' m) s))
     |none=>none
    else none
   |_=>none
 |_=>none
theorem JGk{t:Ty}{bytes:Nat}{x y:TV}{d:Option Nat}{s:TSt}{k:TSt->Option R}{r:R}(h:JI4 t bytes x y d s k=some r):Ok (J7u t.sz bytes (J04 (lns s.sto) x) (J04 (lns s.sto) y)) d s k r:=by
 unfold JI4 at h;split at h
 ·rename_i b;split at h
  ·rename_i w t' rows hb;split at h
   ·rename_i g;subst g;split at h
    ·rename_i l hl;obtain⟨m,h1,h⟩:=J2s.1 h;refine JId (x:=.arr w t' m) (v:=.a (.c (.slr b))) ?_ h;have e:(Js s).sto[b]?=some (.arr w t'.sz (rows.map (cel t'))):=by rw[J1G,hb];rfl
     have:=JMX h1 e (Jsj hl);rw[J4y,J5l hb,this,J4y,Juy (Je hb)];rfl
    ·cases h
   ·cases h
  ·cases h
 ·cases h
def JHS(t:Ty)(bytes:Nat)(y:TV)(d:Option Nat)(new:Nat)(s:TSt)(k:TSt->Option R):Option R:=
 match tls t y s with
 |some l=>(J1g bytes l).bind λm=>k (J0E d (.a (.c (.slr new))) (wN new (.arr true t m) s))
 |none=>none
theorem JKf(F:Orc){t:Ty}{bytes:Nat}{z:List PV}{y:TO}{e:TV}{d:Option Nat}{new:Nat}{s:TSt}{k:TSt->Option R}{r:R}(hy:tev y s=some e)(hn:new<s.sto.length)(h:JHS t bytes e d new s k=some r):Ok (opR F (.appn t.sz bytes z (erO y)) new) d s k r:=by
 unfold JHS at h;split at h
 ·rename_i l hl;obtain⟨m,h1,h3⟩:=J2s.1 h;obtain⟨h2,rfl⟩:=JJQ h1;refine Jsi hn ?_ h3;simp only[opR,run_bind,J0d hy,JJ,Jsj hl,J1M,h2,if_true,JE]
 ·cases h
def JHW(t:Ty)(bytes:Nat)(x y:TV)(d:Option Nat)(s:TSt)(k:TSt->Option R):Option R:=
 match y with
 | .a (.c (.d (.i _) n))=>if 0<=n then JI4 t bytes x (vl t (List.replicate n.toNat t.zero)) d s k else none
 |_=>none
theorem JKT(F:Orc){t:Ty}{bytes:Nat}{x y:TO}{g j:TV}{d:Option Nat}{new:Nat}{s:TSt}{k:TSt->Option R}{r:R}(hx:tev x s=some g)(hy:tev y s=some j)(h:JHW t bytes g j d s k=some r):Ok (opR F (.appz t.sz bytes (cel t t.zero) (erO x) (erO y)) new) d s k r:=by
 unfold JHW at h;split at h
 ·rename_i n;split at h
  ·rename_i o;obtain⟨e,s',h1,h2,h3⟩:=JGk h;refine⟨e,s',?_,h2,h3⟩;simp only[opR,run_bind,J0d hx,J0d hy,JJ,e_i,zrs,if_pos o];rw[e_l,Jrv]at h1;exact h1
  ·cases h
 ·cases h
def JHi(t:Ty)(bytes:Nat)(x y:TV)(d:Option Nat)(new:Nat)(s:TSt)(k:TSt->Option R):Option R:=
 match x with
 | .a (.c (.sc t' rows))=>if h:t'=t then
    match tls t' y s with
    |some l=>(JOw bytes rows l).bind λm=>k (J0E d (.a (.c (.slr new))) (wN new (.arr true t' m) s))
    |none=>none
   else none
 |_=>none
theorem JKL(F:Orc){t:Ty}{bytes:Nat}{z:List PV}{x y:TO}{e g:TV}{d:Option Nat}{new:Nat}{s:TSt}{k:TSt->Option R}{r:R}(hx:tev x s=some e)(hy:tev y s=some g)(hn:new<s.sto.length)(h:JHi t bytes e g d new s k=some r):
  Ok (opR F (.appc t.sz bytes z (erO x) (erO y)) new) d s k r:=by
 unfold JHi at h;split at h
 ·rename_i t' rows;split at h
  ·rename_i j;subst j;split at h
   ·rename_i l hl;obtain⟨m,h1,h⟩:=J2s.1 h;unfold JOw at h1;split at h1
    ·rename_i h2;injection h1 with h1;subst h1;refine Jsi hn ?_ h;simp only[opR,run_bind,J0d hx,J0d hy,JJ];show(JC4 t'.sz bytes (.p (.slc t'.sz (rows.map (cel t')))) _ new).run _=_;simp only[JC4,run_bind,Jsj hl,JJ,J1M,true_and,h2,and_self,if_true,JE,J8q,J9p]
    ·cases h1
   ·cases h
  ·cases h
 ·cases h
def tbn(x:Option TO)(s:TSt):Option (Option (IntKind×Int)):=
 match x with
 |none=>some none
 |some o=>match tev o s with
  |some (.a (.c (.d (.i k) n)))=>some (some (k,n))
  |_=>none
def bv(x:Option (IntKind×Int)):Option AV:=x.map λy=>.p (.i y.1 y.2)
theorem Jiz{x:Option TO}{s:TSt}{y:Option (IntKind×Int)}(h:tbn x s=some y):(evo (x.map erO)).run (Js s)=some (bv y):=by
 cases x with
 |none=>injection h with h;subst h;rfl
 |some o=>
  simp only[tbn]at h;split at h
  ·rename_i k n ho;injection h with h;subst h;simp only[J1o,evo,run_bind,J0d ho,JJ,JE,bv,e_i]
  ·cases h
theorem JOE(x:Option (IntKind×Int))(top d:Nat):J64 (bv x) top d=JuE (x.map (·.2)) top d:=by cases x<;>rfl
theorem JJ5(n:Nat)(lo hi:Option (IntKind×Int)):JnV n (bv lo) (bv hi)=Jr3 n (lo.map (·.2)) (hi.map (·.2)):=by unfold JnV Jr3;simp only[JOE];rfl
inductive TSK where
 |str
 |sl (t:Ty)
def erK:TSK->SK
 | .str=>.str
 | .sl t=>.sl t.sz
def JLr(t:Ty)(x:TV)(s:TSt)(kk:List t.D->TSt->Option R):Option R:=
 match x with
 | .a (.c (.d (.l t') l))=>if h:t'=t then kk (h▸l) s else none
 | .a (.c (.slr b))=>match s.sto[b]? with
   |some (.arr _ t' rows)=>if h:t'=t then kk (h▸rows) (wS b (.arr false t' rows) s)else none
   |_=>none
 |_=>none
theorem JMZ{t:Ty}{x:TV}{s:TSt}{kk:List t.D->TSt->Option R}{r:R}(h:JLr t x s kk=some r):
  ∃l s' ws,Fzd s s' ws/\kk l s'=some r/\((J04 (lns s.sto) x=.p (.sl t.sz (l.map (cel t)))/\ws=[])\/
   ∃b,J04 (lns s.sto) x=.slr b 0 l.length/\(fz (.slr b 0 l.length)).run (Js s)=some ([.sl t.sz (l.map (cel t))],ws)):=by
 unfold JLr at h;split at h
 ·split at h
  ·rename_i e;subst e;exact⟨_,s,[],Fzd.refl s,h,.inl ⟨e_l _ _ _,rfl⟩⟩
  ·cases h
 ·rename_i b;split at h
  ·rename_i w t' rows hb;split at h
   ·rename_i e;subst e;refine⟨_,_,_,JvJ hb,h,.inr ⟨b,by rw[J4y,J5l hb],?_⟩⟩;simp only[fz,J1i,J1G,hb,J1o,JJ,J0s,J1M,zQ6,if_true,Jn0,JE]
   ·cases h
  ·cases h
 ·cases h
def JDG(e:TSK)(x:TV)(lo hi mx:Option (IntKind×Int))(d:Option Nat)(s:TSt)(k:TSt->Option R):Option R:=
 match e with
 | .str=>match x,mx with
   | .a (.c (.d .s l)),none=>(J0z l (lo.map (·.2)) (hi.map (·.2))).bind λq=>k (J0E d (vs q) s)
   |_,_=>none
 | .sl t=>JLr t x s λl s1=>match mx with
   |none=>(J0z l (lo.map (·.2)) (hi.map (·.2))).bind λq=>k (J0E d (vl t q) s1)
   |some (_,n)=>match lo,hi with
    |none,some (_,h)=>if h=l.length/\n=l.length then k (J0E d (.a (.c (.sc t l))) s1)else none
    |_,_=>none
theorem JFQ{α:Type}{l q:List α}{lo hi:Option Int}(h:J0z l lo hi=some q): ∃c,Jr3 l.length lo hi=some c/\q=(l.drop c.1).take (c.2-c.1):=by
 unfold J0z at h;split at h
 ·rename_i c hc;injection h with h;exact⟨c,hc,h.symm⟩
 ·cases h
theorem JJ4(F:Orc){o:TSK}{x:TO}{n:TV}{lo hi mx:Option TO}{l j m:Option (IntKind×Int)}{d:Option Nat}{new:Nat}{s:TSt}{k:TSt->Option R}{r:R}(hx:tev x s=some n)(hl:tbn lo s=some l)(w:tbn hi s=some j)(hm:tbn mx s=some m)
  (h:JDG o n l j m d s k=some r):Ok (opR F (.slice (erK o) (erO x) (lo.map erO) (hi.map erO) (mx.map erO)) new) d s k r:=by
 unfold JDG at h;split at h
 ·split at h
  ·rename_i l0;obtain⟨q,h1,h⟩:=J2s.1 h;obtain⟨c,hc,rfl⟩:=JFQ h1;refine J1X (v:=vs _) ?_ h;have g:bv none=none:=rfl;simp only[opR,run_bind,J0d hx,Jiz hl,Jiz w,Jiz hm,JJ,e_s,erK,g,J4W,JbU,val,JJ5,hc,JE]
  ·cases h
 ·rename_i t;obtain⟨y,s1,ws,f,h,hv⟩:=JMZ h
  have e: ∀(res:AV),J4W (.sl t.sz) (.p (.sl t.sz (y.map (cel t)))) (bv l) (bv j) (bv m)=some res->
    (opR F (.slice (erK (.sl t)) (erO x) (lo.map erO) (hi.map erO) (mx.map erO)) new).run (Js s)=some ⟨res,ws⟩:=by
   intro res hr;simp only[opR,run_bind,J0d hx,Jiz hl,Jiz w,Jiz hm,JJ,erK];rcases hv with⟨hv,rfl⟩|⟨b,hv,hf⟩
   ·simp only[hv,hr,val,JE]
   ·simp only[hv,run_bind,hf,JJ,hr,JE]
  split at h
  ·obtain⟨q,h2,h⟩:=J2s.1 h;obtain⟨c,hc,rfl⟩:=JFQ h2;refine JD0 (v:=vl t _) f (e _ ?_) h;have g:bv none=none:=rfl;simp only[g,J4W,Jc2,if_true,J1M,JJ5,hc,e_l,JrP,List.map_drop]
  ·split at h
   ·split at h
    ·rename_i z;refine JD0 (v:=.a (.c (.sc t y))) f (e _ ?_) h;simp only[bv,Option.map_none,J1o,J4W,JzC,J1M,z,and_self,if_true];rfl
    ·cases h
   ·cases h
end
end Go.Am
end
section
namespace Go.Am
section
variable {R:Type}
def JIp(t:Ty):List (Nat×TO)->TSt->TSt->(List (Nat×t.D)->TSt->Option R)->Option R
 |[],_,s,k=>k [] s
 |(i,o)::r,s0,s,k=>match tev o s0 with
  |some v=>tfz t v s λz s'=>JIp t r s0 s' λl e=>k ((i,z)::l) e
  |none=>none
theorem JFE{t:Ty}: ∀{parts:List (Nat×TO)} {s0 s:TSt} {w0:List (Nat×Blk)} {k:List (Nat×t.D)->TSt->Option R} {r:R},Fzd s0 s w0->JIp t parts s0 s k=some r->
  ∃l s' ws,(fzs (parts.map λx=>erO x.2)).run (Js s0)=some (l.map λx=>cel t x.2,ws)/\Fzd s0 s' (w0++ws)/\l.map (·.1)=parts.map (·.1)/\k l s'=some r
 |[],s0,s,w0,k,r,f,h=>⟨[],s,[],rfl,by rw[J52];exact f,rfl,h⟩
 |(i,o)::q,s0,s,w0,k,r,f,h=>by
  simp only[JIp]at h;split at h
  ·rename_i v hv;obtain⟨z,s1,w1,h1,e,h⟩:=JJk f h;obtain⟨l,g,w2,h2,j,h3,h⟩:=JFE e h;refine⟨(i,z)::l,g,w1++w2,?_,by rw[<-J7D];exact j,by simp[h3],h⟩;simp only[J0I,fzs,run_bind,J0d hv,JJ,h1,h2,JE]
  ·cases h
def JsL{α:Type}:List (Nat×α)->List α->Option (List α)
 |[],rows=>some rows
 |(i,c)::r,rows=>if i<rows.length then JsL r (rows.set i c)else none
theorem Jwz{t:Ty}: ∀{l:List (Nat×t.D)} {rows rows':List t.D},JsL l rows=some rows'->
  J7x t.sz ((l.map (·.1)).zip (l.map λx=>cel t x.2)) (rows.map (cel t))=some (rows'.map (cel t))/\rows'.length=rows.length
 |[],rows,rows',h=>by injection h with h;subst h;exact⟨rfl,rfl⟩
 |(i,c)::q,rows,rows',h=>by
  simp only[JsL]at h;split at h
  ·rename_i e;obtain⟨h1,h2⟩:=Jwz h;refine⟨?_,by simpa using h2⟩;simp only[J0I,List.zip_cons_cons,J7x,J1H,true_and,J1M,if_pos e];rw[<-List.map_set];exact h1
  ·cases h
def JHm(own:Bool)(t:Ty)(n:Nat)(parts:List (Nat×TO))(d:Option Nat)(new:Nat)(s:TSt)(k:TSt->Option R):Option R:=
 JIp t parts s s λl s1=>match JsL l (List.replicate n t.zero)with
  |some rows=>if own=true then k (J0E d (.a (.c (.slr new))) (wN new (.arr true t rows) s1))else k (J0E d (vl t rows) s1)
  |none=>none
theorem JKq(F:Orc){own:Bool}{t:Ty}{n:Nat}{parts:List (Nat×TO)}{d:Option Nat}{new:Nat}{s:TSt}{k:TSt->Option R}{r:R}(hn:own=true->new<s.sto.length)
  (h:JHm own t n parts d new s k=some r):Ok (opR F (.lits own t.sz n (cel t t.zero) (parts.map λx=>(x.1,erO x.2))) new) d s k r:=by
 unfold JHm at h;obtain⟨l,s1,ws,h1,f,h2,h3⟩:=JFE (Fzd.refl s) h;rw[Jbd]at f;clear h;split at h3
 ·rename_i rows hp;obtain⟨q1,q2⟩:=Jwz hp;rw[JjJ]at q2;rw[Jrv]at q1;have e1:(parts.map λx=>(x.1,erO x.2)).map (·.2)=parts.map λx=>erO x.2:=by simp
  have e2:(parts.map λx=>(x.1,erO x.2)).map (·.1)=l.map (·.1):=by rw[h2];simp
  split at h3
  ·rename_i ho;subst ho;have e:new<s1.sto.length:=by have:=congrArg (λst=>st.sto.length) f.2.2.1;simp only[Js,J1M,Jbl]at this;rw[this];exact hn rfl
   refine⟨⟨J04 (lns (wN new (.arr true t rows) s1).sto) (.a (.c (.slr new))),ws++[(new,.arr true t.sz (rows.map (cel t)))]⟩,_,?_,J8C ?_ d _,h3⟩
   ·rw[J4y,Juy e];simp only[opR,run_bind,e1,h1,JJ,e2,q1,if_true,JE,q2]
   ·rw[JLX,f.2.2.1,J1t];rfl
  ·rename_i ho;have:own=false:=by simpa using ho
   subst this;refine JD0 (v:=vl t rows) f ?_ h3;simp only[opR,run_bind,e1,h1,JJ,e2,q1,J5h,if_false,JE,e_l]
 ·cases h3
def J9h(s:TSt):Nat->Nat->Bool
 |_,0=>true
 |new,k+1=>(match s.sto[new]? with
  |some .dead=>true
  |_=>false)&&J9h s (new+1) k
theorem JCi{s:TSt}: ∀{k new:Nat},J9h s new k=true->(JcX new k).run (Js s)=some ()
 |0,_,_=>rfl
 |k+1,new,h=>by
  simp only[J9h,JY]at h;obtain⟨h1,h2⟩:=h;split at h1
  ·rename_i hd;simp only[JcX,J1i,J1G,hd,J1o,JJ,J0s];exact JCi h2
  ·cases h1
theorem J7s{s:TSt}: ∀{k new:Nat},J9h s new k=true-> ∀j,j<k->s.sto[new+j]?=some .dead
 |0,_,_,j,hj=>by omega
 |k+1,new,h,j,hj=>by
  simp only[J9h,JY]at h;obtain⟨h1,h2⟩:=h;cases j with
  |zero=>
   split at h1
   ·rename_i hd;exact hd
   ·cases h1
  |succ j=>
   have:=J7s h2 j (by omega);rw[<-this];congr 1;omega
theorem Jvv{m:RM Eff}{d:Option Nat}{s:TSt}{k:TSt->Option R}{r:R}{new:Nat}{x:TB}(hd:s.sto[new]?=some .dead)(e:lnB x=0)
  (hm:m.run (Js s)=some ⟨.ptr new 0,[(new,J0s (lns s.sto) x)]⟩) (h:k (J0E d (.a (.c (.ptr new []))) (wS new x s))=some r):Ok m d s k r:=by
 refine Jtt (x:=x) (v:=.a (.c (.ptr new []))) (e.trans (J9o hd).symm) ?_ h;rw[hm];rfl
def JFG(t:Ty)(d:Option Nat)(new:Nat)(s:TSt)(k:TSt->Option R):Option R:=k (J0E d (.a (.c (.ptr new []))) (wS new (.box t t.zero) s))
theorem JGJ(F:Orc){t:Ty}{d:Option Nat}{new:Nat}{s:TSt}{k:TSt->Option R}{r:R}(hd:s.sto[new]?=some .dead)(h:JFG t d new s k=some r):Ok (opR F (.newbox (cel t t.zero)) new) d s k r:=
 Jvv hd (x:=.box t t.zero) rfl rfl h
def JL8(t:Ty)(x:TV)(d:Option Nat)(new:Nat)(s:TSt)(k:TSt->Option R):Option R:=
 match tdv t x with
 |some z=>if agv x=true\/t.sz=1 then k (J0E d (.a (.c (.ptr new []))) (wS new (.box t z) s))else none
 |none=>match tcs x with
  |some cs=>if cs.length=t.sz then k (J0E d (.a (.c (.ptr new []))) (wS new (.mbox t cs) s))else none
  |none=>none
theorem JMh(F:Orc){t:Ty}{x:TO}{v:TV}{d:Option Nat}{new:Nat}{s:TSt}{k:TSt->Option R}{r:R}(hd:s.sto[new]?=some .dead)(hx:tev x s=some v)(h:JL8 t v d new s k=some r):Ok (opR F (.box t.sz (erO x)) new) d s k r:=by
 unfold JL8 at h;split at h
 ·rename_i z hz;split at h
  ·rename_i ha;refine Jvv hd (x:=.box t z) rfl ?_ h;simp only[opR,run_bind,J0d hx,JJ,JnD (lns s.sto) hz ha,J1M,J1H,if_true,JE,J0s]
  ·cases h
 ·split at h
  ·rename_i cs hc;split at h
   ·rename_i hn;refine Jvv hd (x:=.mbox t cs) rfl ?_ h;simp only[opR,run_bind,J0d hx,JJ,Jnf (lns s.sto) hc,J1M,hn,if_true,JE,J0s]
   ·cases h
  ·cases h
def Jah:List (Nat×Ty)->Nat->TSt->TSt
 |[],_,s=>s
 |(_,t)::r,n,s=>Jah r (n+1) (wS n (.arr true t []) s)
def Jrs:List (Nat×Ty)->Nat->List TC->List TC
 |[],_,cs=>cs
 |(off,_)::r,n,cs=>Jrs r (n+1) (cs.set off (.slr n))
def J9n(os:List (Nat×Ty)):List (Nat×Nat):=os.map λx=>(x.1,x.2.sz)
theorem JrI: ∀{os:List (Nat×Ty)} {new:Nat} {s:TSt},(∀j,j<os.length->s.sto[new+j]?=some .dead)->
  lns (Jah os new s).sto=lns s.sto/\Js (Jah os new s)=⟨(Js s).env,upd (J4B (J9n os) new) (Js s).sto⟩/\(∀b,(∀j,j<os.length->b≠new+j)->(Jah os new s).sto[b]?=s.sto[b]?)
 |[],_,s,_=>⟨rfl,rfl,λ_ _=>rfl⟩
 |(off,t)::q,new,s,h=>by
  have hd:s.sto[new]?=some .dead:=h 0 (by simp);have hl:lnB (.arr true t [])=lns s.sto new:=(J9o hd).symm;have e:=Jh5 hl;have ho: ∀c,c≠new->(wS new (.arr true t []) s).sto[c]?=s.sto[c]?:=λc hc=>by unfold wS;rw[JjD (λe=>hc e.symm)]
  obtain⟨h1,h2,h3⟩:=JrI (os:=q) (new:=new+1) (s:=wS new (.arr true t []) s) (λj hj=>by rw[ho _ (by omega)];have:=h (j+1) (by simp;omega);rw[<-this];congr 1;omega)
  refine⟨h1.trans e,?_,λb hb=>?_⟩
  ·simp only[Jah];rw[h2,JjQ hl];simp only[J9n,J0I,J4B];rfl
  ·simp only[Jah];rw[h3 b (λj hj=>by have:=hb (j+1) (by simp;omega);omega),ho b (by have:=hb 0 (by simp);omega)]
theorem Ju3{L:Nat->Nat}: ∀{os:List (Nat×Ty)} {new:Nat} {cs:List TC},(∀j,j<os.length->L (new+j)=0)->(Jrs os new cs).map (J0b L)=Jbg (J9n os) new (cs.map (J0b L))
 |[],_,_,_=>rfl
 |(off,t)::q,new,cs,h=>by
  simp only[Jrs,J9n,J0I,Jbg];rw[Ju3 (os:=q) (new:=new+1) (λj hj=>by have:=h (j+1) (by simp;omega);rw[<-this];congr 1;omega),List.map_set];have:J0b L (.slr new)=.slr new 0 0:=by simp only[J0b];rw[show L new=0 from h 0 (by simp)]
  rw[this];rfl
def JqS(t:Ty)(os:List (Nat×Ty))(d:Option Nat)(new:Nat)(s:TSt)(k:TSt->Option R):Option R:=k (J0E d (.a (.c (.ptr (new+os.length) []))) (wS (new+os.length) (.mbox t (Jrs os new (zcs t))) (Jah os new s)))
theorem JET(F:Orc){t:Ty}{os:List (Nat×Ty)}{d:Option Nat}{new:Nat}{s:TSt}{k:TSt->Option R}{r:R}(hd:J9h s new (os.length+1)=true)(h:JqS t os d new s k=some r):
  Ok (opR F (.newboxo (cel t t.zero) (J9n os)) new) d s k r:=by
 unfold JqS at h;generalize hc:zcs t=cs at h
 ·have g:=J7s hd;obtain⟨h1,h2,h3⟩:=JrI (os:=os) (new:=new) (s:=s) (λj hj=>g j (by omega));have hl:lnB (.mbox t (Jrs os new cs))=lns (Jah os new s).sto (new+os.length):=by rw[h1,J9o (g os.length (by omega))];rfl
  have e:=Jh5 hl;have el:(J9n os).length=os.length:=by simp[J9n]
  refine⟨⟨J04 (lns (wS (new+os.length) (.mbox t (Jrs os new cs)) (Jah os new s)).sto) (.a (.c (.ptr (new+os.length) []))),J4B (J9n os) new++[(new+os.length,.box (Jbg (J9n os) new ((cel t t.zero).map .p)))]⟩,_,?_,J8C ?_ d _,h⟩
  ·simp only[opR,JE,el];rfl
  ·rw[JjQ hl,h2,J1t];simp only[J0s];rw[Ju3 (λj hj=>by rw[h1];exact J9o (g j (by omega))),<-hc,Jhd];rfl
def Juf(t:Ty)(parts:List (Nat×Ty×TO))(os:List (Nat×Ty))(d:Option Nat)(new:Nat)(s:TSt)(k:TSt->Option R):Option R:=
 match tpc parts s with
 |some l=>match JtX l (Jrs os new (zcs t))with
  |some cs'=>match mka true t cs' with
   |some v=>k (J0E d v (Jah os new s))
   |none=>none
  |none=>none
 |none=>none
theorem JGF(F:Orc){t:Ty}{parts:List (Nat×Ty×TO)}{os:List (Nat×Ty)}{d:Option Nat}{new:Nat}{s:TSt}{k:TSt->Option R}{r:R}(hd:J9h s new os.length=true)(h:Juf t parts os d new s k=some r):
  Ok (opR F (.buildo (cel t t.zero) (erP parts) (J9n os)) new) d s k r:=by
 unfold Juf at h;split at h
 ·rename_i l hl;have e:=J7s hd;obtain⟨h1,h2,h3⟩:=JrI (os:=os) (new:=new) (s:=s) (λj hj=>e j (by omega));split at h
  ·rename_i cs' hf;split at h
   ·rename_i v hv;refine⟨⟨J04 (lns (Jah os new s).sto) v,J4B (J9n os) new⟩,_,?_,J8C h2 d _,h⟩;have e1:=Ju3 (L:=lns s.sto) (os:=os) (new:=new) (cs:=zcs t) (λj hj=>J9o (e j (by omega)));rw[Jhd]at e1;have e2:=JqM (lns s.sto) hf;rw[e1]at e2;simp only[opR,run_bind,JCa hl,JJ,e2,JhQ (lns s.sto) hv,JE,h1]
   ·cases h
  ·cases h
 ·cases h
def JJr(t:Ty)(d:Option Nat)(new:Nat)(s:TSt)(k:TSt->Option R):Option R:=k (J0E d (.a (.c (.slr new))) (wN new (.arr true t []) s))
theorem JIA(F:Orc){t:Ty}{x:Opd}{d:Option Nat}{new:Nat}{s:TSt}{k:TSt->Option R}{r:R}(hn:new<s.sto.length)(h:JJr t d new s k=some r):Ok (opR F (.mkarr t.sz x) new) d s k r:=
 Jsi (rows:=[]) hn rfl h
def tyB:Option TB->Ty
 |some (.box t _)=>t
 |some (.mbox t _)=>t
 |_=>.u
def JuR(t:Ty)(x:TV)(d:Option Nat)(new:Nat)(s:TSt)(k:TSt->Option R):Option R:=
 match x with
 | .a (.c (.ptr b p))=>match JjV p,(match s.sto[b]? with
    |some (.box t0 y)=>Jrp t0 y
    |some (.mbox _ cs)=>some cs
    |_=>none)with
   |some off,some cs=>match spl cs off [.slr new]with
    |some cs'=>k (J0E d uv (wS b (.mbox (tyB s.sto[b]?) cs') (wS new (.arr true t []) s)))
    |none=>none
   |_,_=>none
 |_=>none
theorem JGE(F:Orc){t:Ty}{x:TO}{v:TV}{d:Option Nat}{new:Nat}{s:TSt}{k:TSt->Option R}{r:R}(hd:s.sto[new]?=some .dead)(hx:tev x s=some v)(h:JuR t v d new s k=some r):Ok (opR F (.storen t.sz (erO x)) new) d s k r:=by
 unfold JuR at h;split at h
 ·rename_i b p;split at h
  ·rename_i off cs ho hc;split at h
   ·rename_i cs' hs;have hl:lnB (.arr true t [])=lns s.sto new:=(J9o hd).symm;have j:b≠new/\lns s.sto b=0/\(Js s).sto[b]?=some (.box (cs.map (J0b (lns s.sto)))):=by
     split at hc
     ·rename_i t0 y hb;refine⟨λe=>?_,Jpw hb,?_⟩
      ·rw[e,hd]at hb;injection hb with hb;cases hb
      ·rw[J1G,hb,Jit _ hc];rfl
     ·rename_i t0 w hb;injection hc with hc;subst hc;refine⟨λe=>?_,JBt hb,?_⟩
      ·rw[e,hd]at hb;injection hb with hb;cases hb
      ·rw[J1G,hb];rfl
     ·cases hc
    obtain⟨q,n,hb⟩:=j;have e1:=Jh5 hl;have g:lnB (.mbox (tyB s.sto[b]?) cs')=lns (wS new (.arr true t []) s).sto b:=by rw[e1,n];rfl
    refine⟨⟨J04 (lns (wS b (.mbox (tyB s.sto[b]?) cs') (wS new (.arr true t []) s)).sto) uv,(new,.arr true t.sz [])::[(b,.box (cs'.map (J0b (lns s.sto))))]⟩,_,?_,J8C ?_ d _,h⟩
    ·have e2:J0b (lns s.sto) (.slr new)=.slr new 0 0:=by simp only[J0b];rw[J9o hd]
     have o:spl (cs.map (J0b (lns s.sto))) (spo p) [.slr new 0 0]=some (cs'.map (J0b (lns s.sto))):=by rw[<-e2,Jik ho];have:=Jbi (J0b (lns s.sto)) cs off [TC.slr new];rw[hs]at this;exact this
     simp only[opR,run_bind,J0d hx,JJ,J6j,J3A,J1i,hb,cellsOf,Jrb,List.length_nil,zQ6,if_true,o,JE];rfl
    ·rw[JjQ g,JjQ hl,e1];rfl
   ·cases h
  ·cases h
 ·cases h
def JHD(c:Bool)(a b:Option TV)(kk:TV->Option R):Option R:=
 match a,b with
 |some (.a (.c (.d t x))),some (.a (.c (.d t' y)))=>if h:t'=t then kk (.a (.c (.d t (JPU c x (h▸y)))))else none
 |some x,some y=>if c=true then kk x else kk y
 |some x,none=>if c=true then kk x else none
 |none,some y=>if c=true then none else kk y
 |none,none=>none
theorem JLv(F:Orc){c a b:TO}{x:Bool}{d:Option Nat}{new:Nat}{s:TSt}{k:TSt->Option R}{r:R}(hc:tev c s=some (vb x))(h:JHD x (tev a s) (tev b s) (λv=>k (J0E d v s))=some r):Ok (opR F (.pick (erO c) (erO a) (erO b)) new) d s k r:=by
 have e: ∃v,(if x=true then tev a s else tev b s)=some v/\k (J0E d v s)=some r:=by
  unfold JHD at h;split at h
  ·rename_i t y t' z ha hb;split at h
   ·rename_i g;subst g;refine⟨_,?_,h⟩;rw[ha,hb];cases x<;>rfl
   ·cases h
  ·rename_i y z _ ha hb;split at h
   ·rename_i hx;exact⟨y,by rw[if_pos hx];exact ha,h⟩
   ·rename_i hx;exact⟨z,by rw[if_neg hx];exact hb,h⟩
  ·rename_i y ha hb;split at h
   ·rename_i hx;exact⟨y,by rw[if_pos hx];exact ha,h⟩
   ·cases h
  ·rename_i y ha hb;split at h
   ·cases h
   ·rename_i hx;exact⟨y,by rw[if_neg hx];exact hb,h⟩
  ·cases h
 obtain⟨v,h1,h2⟩:=e;refine J1X (v:=v) ?_ h2;simp only[opR,run_bind,J0d hc,JJ,e_b];cases x with
 |true=>
  rw[if_pos rfl]at h1;simp only[if_true,run_bind,J0d h1,JJ,JE]
 |false=>
  rw[if_neg (by simp)]at h1;simp only[J5h,if_false,run_bind,J0d h1,JJ,JE]
def tcl:List TO->TSt->Option (List TC)
 |[],_=>some []
 |o::r,s=>match tev o s with
  |some (.a (.c x))=>match tcl r s with
   |some l=>some (x::l)
   |none=>none
  |_=>none
theorem JBg{s:TSt}: ∀{xs:List TO} {l:List TC},tcl xs s=some l->(evs (xs.map erO)).run (Js s)=some (l.map (J0b (lns s.sto)))
 |[],l,h=>by injection h with h;subst h;rfl
 |o::q,l,h=>by
  simp only[tcl]at h;split at h
  ·rename_i x hx;split at h
   ·rename_i e hl;injection h with h;subst h;simp only[J0I,evs,run_bind,J0d hx,JJ,JBg hl,JE];rfl
   ·cases h
  ·cases h
def JKz(x:TV)(kk:TV->Option R):Option R:=
 match x with
 | .a (.c (.ptr b p))=>kk (.a (.c (.ptr b p)))
 | .a (.c (.cp t y p))=>kk (.a (.c (.cp t y p)))
 | .a (.c (.ep b i p))=>kk (.a (.c (.ep b i p)))
 | .a (.fn f a c)=>kk (.a (.fn f a c))
 | .a (.c (.fn f))=>kk (.a (.c (.fn f)))
 |_=>none
theorem JMk(F:Orc){x:TO}{v:TV}{d:Option Nat}{new:Nat}{s:TSt}{k:TSt->Option R}{r:R}(hx:tev x s=some v)(h:JKz v (λv=>k (J0E d v s))=some r):Ok (opR F (.nilchk (erO x)) new) d s k r:=by
 unfold JKz at h;split at h<;>first
  |(refine J1X (v:=_) ?_ h
    simp only[opR,run_bind,J0d hx,JJ,J6j,Jb5,Jbj,JKo,JNu,JE];done)
  |cases h
end
end Go.Am
end
section
namespace Go.Am
section
variable {R:Type}
def JLb(keep:Bool)(v:TV)(s:TSt)(kk:TA->TSt->Option R):Option R:=
 match v with
 | .a x=>if keep=true then kk x s else
   match x with
   | .c (.slr b)=>match s.sto[b]? with
     |some (.arr _ t' rows)=>kk (.c (.d (.l t') rows)) (wS b (.arr false t' rows) s)
     |_=>none
   | .c (.slo _ _)=>none
   | .m t cs=>fzC t cs s λx s'=>kk (.dt t x) s'
   |x=>kk x s
 | .tup _=>none
def JtI:List (TV×Bool)->TSt->(List TA->TSt->Option R)->Option R
 |[],s,kk=>kk [] s
 |(v,keep)::r,s,kk=>JLb keep v s λx s=>JtI r s λl s=>kk (x::l) s
theorem JMU{keep:Bool}{v:TV}{s0 s:TSt}{w0:List (Nat×Blk)}{kk:TA->TSt->Option R}{r:R}(f:Fzd s0 s w0)(h:JLb keep v s kk=some r):
  ∃x s' ws,(if keep=true then RM.ret (J04 (lns s0.sto) v,[])else J8w (J04 (lns s0.sto) v)).run (Js s0)=some (J1b (lns s0.sto) x,ws)/\Fzd s0 s' (w0++ws)/\kk x s'=some r:=by
 unfold JLb at h;split at h
 ·rename_i x;split at h
  ·rename_i hk;subst hk;exact⟨x,s,[],rfl,by rw[J52];exact f,h⟩
  ·rename_i hk;have:keep=false:=by simpa using hk
   subst this;simp only[J5h,if_false];split at h
   ·rename_i b;split at h
    ·rename_i w t' rows hb;obtain⟨w',e⟩:=f.2.2.2.1 b _ rows w hb;refine⟨_,_,[(b,.arr false t'.sz (rows.map (cel t')))],?_,f.trans (JvJ hb),h⟩;simp only[J4y,J8w,fz,run_bind,J1i,J1G,e,J1o,JJ,J0s,J5l e,J1M,zQ6,if_true,Jn0,JE];rfl
    ·cases h
   ·cases h
   ·obtain⟨y,s',ws,h1,h2,h3⟩:=JmK f h;refine⟨_,s',ws,?_,h2,h3⟩;simp only[e_m,J8w,fz,run_bind,h1,JJ,JE];rfl
   ·rename_i j k g;refine⟨x,s,[],?_,by rw[J52];exact f,h⟩;cases x with
    |c x=>
     cases x with
     |slr b=>exact absurd rfl (j b)
     |slo b n=>exact absurd rfl (k b n)
     |_=>rfl
    |m t cs=>exact absurd rfl (g t cs)
    |_=>rfl
 ·cases h
theorem JrC: ∀{vs:List (TV×Bool)} {s0 s:TSt} {w0:List (Nat×Blk)} {kk:List TA->TSt->Option R} {r:R},Fzd s0 s w0->JtI vs s kk=some r->
  ∃xs s' ws,(J3e (vs.map (·.2)) (vs.map λx=>J04 (lns s0.sto) x.1)).run (Js s0)=some (xs.map (J1b (lns s0.sto)),ws)/\Fzd s0 s' (w0++ws)/\kk xs s'=some r
 |[],s0,s,w0,kk,r,f,h=>⟨[],s,[],rfl,by rw[J52];exact f,h⟩
 |(v,keep)::q,s0,s,w0,kk,r,f,h=>by
  simp only[JtI]at h;obtain⟨x,s1,w1,h1,e,h⟩:=JMU f h;obtain⟨xs,g,w2,h2,j,h⟩:=JrC e h;refine⟨x::xs,g,w1++w2,?_,by rw[<-J7D];exact j,h⟩;cases keep with
  |true=>
   simp only[if_true,JE]at h1;injection h1 with h1;injection h1 with h1 h3;subst h3;simp only[J0I,J3e,run_bind,h2,JJ,JE,h1,Jbd]
  |false=>
   simp only[J5h,if_false]at h1;simp only[J0I,J3e,run_bind,h1,h2,JJ,JE]
theorem JcP: ∀(vs:List AV),J3e [] vs=J6A vs
 |[]=>rfl
 |x::r=>by simp only[J3e,J6A,JcP r]
theorem J8y: ∀(m:List Bool) (vs:List AV),(∀x∈m,x=false)->J3e m vs=J6A vs
 |[],vs,_=>JcP vs
 |b::m,[],_=>rfl
 |b::m,x::r,h=>by
  have:b=false:=h b (by simp);subst this;simp only[J3e,J6A,J8y m r (λx hx=>h x (by simp[hx]))]
def JBp(b:Nat)(l:List Nat):List Nat:=if l.any (λx=>x==b)=true then l else l++[b]
def JzQ(x:TC)(l:List Nat):Option (List Nat):=
 match x with
 | .ptr b _=>some (JBp b l)
 | .slr b=>some (JBp b l)
 | .slo b _=>some (JBp b l)
 | .ep _ _ _=>none
 | .epo _ _ _ _=>none
 |_=>some l
def Jgw:List TC->List Nat->Option (List Nat)
 |[],l=>some l
 |x::r,l=>match JzQ x l with
  |some l=>Jgw r l
  |none=>none
def JGA(x:TA)(l:List Nat):Option (List Nat):=
 match x with
 | .c x=>JzQ x l
 | .dt _ _=>some l
 | .m _ cs=>Jgw cs l
 | .fn _ a c=>match Jgw a l with
   |some l=>Jgw c l
   |none=>none
def Ji0:List TA->List Nat->Option (List Nat)
 |[],l=>some l
 |x::r,l=>match JGA x l with
  |some l=>Ji0 r l
  |none=>none
def Jfr(s:TSt):List Nat->List Nat->Option (List Nat)
 |[],acc=>some acc
 |b::r,acc=>match s.sto[b]? with
  |some (.mbox _ cs)=>match Jgw cs acc with
   |some acc=>Jfr s r acc
   |none=>none
  |some _=>Jfr s r acc
  |none=>none
theorem JDM(b:Nat)(l:List Nat):JbW (.whole b) (l.map .whole)=(JBp b l).map .whole:=by
 unfold JbW JBp;have:(l.map Ent.whole).any (λx=>x==.whole b)=l.any (λx=>x==b):=by
  rw[List.any_map]
  congr 1
  funext x
  simp only[Function.comp];by_cases h:x=b
  ·subst h;simp
  ·have h1:(x==b)=false:=by simpa using h
   have h2:(Ent.whole x==Ent.whole b)=false:=by simpa using h
   rw[h1,h2]
 rw[this];split<;>simp
section
variable (L:Nat->Nat)
theorem JA4{x:TC}{l g:List Nat}(h:JzQ x l=some g):J0N (J0b L x) (l.map .whole)=g.map .whole:=by
 unfold JzQ at h;split at h<;>first
  |(injection h with h;subst h;simp only[J0b,J0N,JDM];done)
  |(cases h;done)
  |skip
 injection h with h;subst h;rename_i k o q r j;cases x with
 |ptr b p=>exact absurd rfl (k b p)
 |slr b=>exact absurd rfl (o b)
 |slo b n=>exact absurd rfl (q b n)
 |ep b i p=>exact absurd rfl (r b i p)
 |epo b e i p=>exact absurd rfl (j b e i p)
 |_=>rfl
theorem Jb4: ∀{xs:List TC} {l e:List Nat},Jgw xs l=some e->J0N.entsOfL (xs.map (J0b L)) (l.map .whole)=e.map .whole
 |[],l,e,h=>by injection h with h;subst h;rfl
 |x::r,l,e,h=>by
  simp only[Jgw]at h;split at h
  ·rename_i g h1;simp only[J0I,J0N.entsOfL,JA4 L h1];exact Jb4 h
  ·cases h
theorem JL1{x:TA}{l e:List Nat}(h:JGA x l=some e):J0N (J1b L x) (l.map .whole)=e.map .whole:=by
 cases x with
 |c x=>exact JA4 L h
 |dt t x=>injection h with h;subst h;rfl
 |m t cs=>exact Jb4 L h
 |fn f a c=>
  simp only[JGA]at h;split at h
  ·rename_i g h1;simp only[J1b,J0N,Jb4 L h1];exact Jb4 L h
  ·cases h
theorem Jf8: ∀{xs:List TA} {l e:List Nat},Ji0 xs l=some e->J0N.entsOfL (xs.map (J1b L)) (l.map .whole)=e.map .whole
 |[],l,e,h=>by injection h with h;subst h;rfl
 |x::r,l,e,h=>by
  simp only[Ji0]at h;split at h
  ·rename_i g h1;simp only[J0I,J0N.entsOfL,JL1 L h1];exact Jf8 h
  ·cases h
end
theorem JqW{s0 s1:TSt}{ws:List (Nat×Blk)}(f:Fzd s0 s1 ws){b:Nat}{y:TB}(h:s1.sto[b]?=some y):(Jgz ws b).run (Js s0)=some (J0s (lns s0.sto) y):=by
 have h1:(Js s1).sto[b]?=some (J0s (lns s0.sto) y):=by rw[J1G,h,f.2.1];rfl
 rw[f.2.2.1]at h1;have e:b<(Js s0).sto.length:=by have:=Je h1;rw[Jbl]at this;exact this
 have:=J9I ws (Js s0).sto b e;simp only at h1;rw[h1]at this;simp only[Jgz,J1i,JF e,JJ];split at this
 ·rename_i z hz
  try rw[hz]
  simp only[JE];exact this.symm
 ·rename_i hz
  try rw[hz]
  simp only[JE];rw[JF e]at this;exact this.symm
theorem J9l{s0 s1:TSt}{ws:List (Nat×Blk)}(f:Fzd s0 s1 ws): ∀{r acc l:List Nat},Jfr s1 r acc=some l->(J3M ws (r.map .whole) (acc.map .whole)).run (Js s0)=some (l.map .whole)
 |[],acc,l,h=>by injection h with h;subst h;rfl
 |b::r,acc,l,h=>by
  simp only[Jfr]at h;split at h
  ·rename_i cs hb;split at h
   ·rename_i e ha;simp only[J0I,J3M,run_bind,JqW f hb,JJ,J0s,Jb4 (lns s0.sto) ha];exact J9l f h
   ·cases h
  ·rename_i x hn hb;simp only[J0I,J3M,run_bind,JqW f hb,JJ];cases x with
   |mbox t cs=>exact absurd rfl (hn t cs)
   |box t x=>
    simp only[J0s];rw[JwC];exact J9l f h
   |_=>exact J9l f h
  ·cases h
end
end Go.Am
end
section
namespace Go.Am
def kCs(K:List Nat)(L:Nat->Nat):TC->TC
 | .slr c=>if K.any (λx=>x==c)=true then .slo c (L c)else .slr c
 | .ep c i p=>if K.any (λx=>x==c)=true then .epo c (L c) i p else .ep c i p
 |x=>x
def kAs(K:List Nat)(L:Nat->Nat):TA->TA
 | .c x=>.c (kCs K L x)
 | .dt t x=>.dt t x
 | .m t cs=>.m t (cs.map (kCs K L))
 | .fn f a c=>.fn f (a.map (kCs K L)) (c.map (kCs K L))
def kVs(K:List Nat)(L:Nat->Nat):TV->TV
 | .a x=>.a (kAs K L x)
 | .tup vs=>.tup (vs.map (kAs K L))
def kBs(K:List Nat)(L:Nat->Nat):TB->TB
 | .mbox t cs=>.mbox t (cs.map (kCs K L))
 |x=>x
section
variable {K:List Nat} {L L':Nat->Nat} (h: ∀c,K.any (λx=>x==c)=false->L' c=L c)
include h
theorem JOi(x:TC):J0b L' (kCs K L x)=J0b L x:=by
 cases x with
 |slr c=>
  cases e:K.any (λx=>x==c)with
  |true=>simp only[kCs,e,if_true,J0b]
  |false=>simp only[kCs,e,J5h,if_false,J0b,h c e]
 |ep c i p=>
  cases e:K.any (λx=>x==c)with
  |true=>simp only[kCs,e,if_true,J0b]
  |false=>simp only[kCs,e,J5h,if_false,J0b,h c e]
 |_=>rfl
theorem JM5(xs:List TC):(xs.map (kCs K L)).map (J0b L')=xs.map (J0b L):=by rw[J7E];exact JvG λx _=>JOi h x
theorem JQ1(x:TA):J1b L' (kAs K L x)=J1b L x:=by cases x<;>simp only[kAs,J1b,JOi h,JM5 h]
theorem JQb(x:TV):J04 L' (kVs K L x)=J04 L x:=by cases x<;>simp only[kVs,J04,JQ1 h,J7E,Function.comp_def]
theorem JPX(x:TB):J0s L' (kBs K L x)=J0s L x:=by cases x<;>simp only[kBs,J0s,JM5 h]
end
theorem JN9(K:List Nat)(L:Nat->Nat)(x:TB):lnB (kBs K L x)=lnB x:=by cases x<;>rfl
theorem JMT(sto:List TB)(K:List Nat)(L:Nat->Nat)(c:Nat):lns (sto.map (kBs K L)) c=lns sto c:=by
 unfold lns;rw[J29];cases sto[c]? with
 |none=>rfl
 |some x=>exact JN9 K L x
def Jka(ws:List (Nat×Bool×TB))(sto:List TB):List TB:=ws.foldl (λσ x=>σ.set x.1 x.2.2) sto
def Jca(ws:List (Nat×Bool×TB))(s:TSt):TSt:=
 match ws with
 |[]=>s
 |ws=>
  let K:=(ws.filter λx=> !x.2.1).map (·.1)
  ⟨s.env.map λy=>(y.1,kVs K (lns s.sto) y.2),Jka ws (s.sto.map (kBs K (lns s.sto)))⟩
theorem JqG: ∀{ws:List (Nat×Bool×TB)} {sto:List TB} {c:Nat},c∉ws.map (·.1)->(Jka ws sto)[c]?=sto[c]?
 |[],_,_,_=>rfl
 |x::ws,sto,c,h=>by
  simp only[J0I,J2A,not_or]at h;show(Jka ws (sto.set x.1 x.2.2))[c]?=_;rw[JqG h.2,JjD (λe=>h.1 e.symm)]
theorem JG8: ∀{ws:List (Nat×Bool×TB)} {sto:List TB},(ws.map (·.1)).Nodup-> ∀x∈ws,x.1<sto.length->(Jka ws sto)[x.1]?=some x.2.2
 |[],_,_,x,hx,_=>by cases hx
 |y::ws,sto,hn,x,hx,hl=>by
  simp only[J0I,List.nodup_cons]at hn;show(Jka ws (sto.set y.1 y.2.2))[x.1]?=_;rcases J2A.1 hx with rfl|hx
  ·rw[JqG hn.1,Jnp hl]
  ·exact JG8 hn.2 x hx (by simpa using hl)
theorem JBf(f:TB->Blk): ∀(ws:List (Nat×Bool×TB)) (sto:List TB),(Jka ws sto).map f=upd (ws.map λx=>(x.1,f x.2.2)) (sto.map f)
 |[],_=>rfl
 |x::ws,sto=>by
  show(Jka ws (sto.set x.1 x.2.2)).map f=upd (ws.map λx=>(x.1,f x.2.2)) ((sto.map f).set x.1 (f x.2.2));rw[JBf f ws,List.map_set]
theorem JNb{ws:List (Nat×Bool×TB)}{s:TSt}(hn:(ws.map (·.1)).Nodup)(hl: ∀x∈ws,x.1<s.sto.length)(hf: ∀x∈ws,x.2.1=true->lnB x.2.2=lns s.sto x.1):
  Js (Jca ws s)=⟨(Js s).env,upd (ws.map λx=>(x.1,J0s (lns (Jca ws s).sto) x.2.2)) (Js s).sto⟩/\ ∀x∈ws,lns (Jca ws s).sto x.1=lnB x.2.2:=by
 cases ws with
 |nil=>exact⟨rfl,λx hx=>by cases hx⟩
 |cons h ws0=>
  generalize hw:h::ws0=ws at*;have e:Jca ws s=⟨s.env.map λy=>(y.1,kVs ((ws.filter λx=> !x.2.1).map (·.1)) (lns s.sto) y.2),Jka ws (s.sto.map (kBs ((ws.filter λx=> !x.2.1).map (·.1)) (lns s.sto)))⟩:=by subst hw;rfl
  have g: ∀x∈ws,lns (Jca ws s).sto x.1=lnB x.2.2:=λx hx=>by rw[e];unfold lns;rw[JG8 hn x hx (by simpa using hl x hx)];rfl
  have hk: ∀c,((ws.filter λx=> !x.2.1).map (·.1)).any (λx=>x==c)=false->lns (Jca ws s).sto c=lns s.sto c:=by
   intro c hc;by_cases hm:c∈ws.map (·.1)
   ·obtain⟨x,hx,rfl⟩:=J4i.1 hm;cases hx1:x.2.1 with
    |true=>rw[g x hx,hf x hx hx1]
    |false=>
     have:((ws.filter λx=> !x.2.1).map (·.1)).any (λy=>y==x.1)=true:=by rw[List.any_eq_true];exact⟨x.1,J4i.2 ⟨x,List.mem_filter.2 ⟨hx,by simp[hx1]⟩,rfl⟩,by simp⟩
     rw[hc]at this;cases this
   ·rw[e];have:=JMT s.sto ((ws.filter λx=> !x.2.1).map (·.1)) (lns s.sto) c;rw[<-this];unfold lns;rw[JqG hm]
  refine⟨?_,g⟩;generalize hL:lns (Jca ws s).sto=L' at*;unfold Js;rw[hL,e]
  congr 1
  ·show J4d L' (s.env.map λy=>(y.1,kVs _ (lns s.sto) y.2))=J4d _ s.env;unfold J4d;rw[J7E];exact JvG λy _=>by simp only[Function.comp,JQb hk]
  ·show(Jka ws (s.sto.map _)).map (J0s L')=_;rw[JBf,J7E]
   congr 1
   exact JvG λy _=>JPX hk y
theorem JGb(b:Nat): ∀(ids:List Nat) (k:Nat),J1S (.whole b) (ids.map .whole) k=J4r b ids k
 |[],_=>rfl
 |x::r,k=>by
  simp only[J0I,J1S,J4r];by_cases h:x=b
  ·subst h;simp
  ·simp[h,JGb b r (k+1)]
def JzM(ids:List Nat):TC->Option TC
 | .ptr b p=>(J4r b ids 0).bind λk=>some (.ptr k p)
 | .slr b=>(J4r b ids 0).bind λk=>some (.slr k)
 | .slo b n=>(J4r b ids 0).bind λk=>some (.slo k n)
 | .ep _ _ _=>none
 | .epo _ _ _ _=>none
 |x=>some x
def JjX(ids:List Nat):List TC->Option (List TC)
 |[]=>some []
 |x::r=>match JzM ids x,JjX ids r with
  |some y,some l=>some (y::l)
  |_,_=>none
def JsI(ids:List Nat):TA->Option TA
 | .c x=>match JzM ids x with
   |some y=>some (.c y)
   |none=>none
 | .dt t x=>some (.dt t x)
 | .m t cs=>match JjX ids cs with
   |some l=>some (.m t l)
   |none=>none
 | .fn f a c=>match JjX ids a,JjX ids c with
   |some a,some c=>some (.fn f a c)
   |_,_=>none
def JsX(ids:List Nat):List TA->Option (List TA)
 |[]=>some []
 |x::r=>match JsI ids x,JsX ids r with
  |some y,some l=>some (y::l)
  |_,_=>none
def JDd(ids:List Nat):TB->Option TB
 | .box t x=>some (.box t x)
 | .mbox t cs=>match JjX ids cs with
   |some l=>some (.mbox t l)
   |none=>none
 | .arr w t rows=>some (.arr w t rows)
 | .dead=>none
def J9x(ids:List Nat)(s:TSt):List Nat->Option (List TB)
 |[]=>some []
 |b::r=>match s.sto[b]? with
  |some x=>match JDd ids x,J9x ids s r with
   |some y,some l=>some (y::l)
   |_,_=>none
  |none=>none
section
variable {ids:List Nat} {L L':Nat->Nat} (hL: ∀b k,J4r b ids 0=some k->L' k=L b)
include hL
theorem JCf{x y:TC}(h:JzM ids x=some y):ren (λe=>J1S e (ids.map .whole) 0) (J0b L x)=some (J0b L' y):=by
 cases x<;>simp only[JzM]at h<;>first
  |(obtain⟨k,hk,h⟩:=J2s.1 h
    injection h with h;subst h;simp only[J0b,ren,JGb,hk,J1o]
    try rw[hL _ _ hk]
    done)
  |(injection h with h;subst h;rfl)
  |cases h
theorem Jdu: ∀{xs g:List TC},JjX ids xs=some g->ren.renL (λe=>J1S e (ids.map .whole) 0) (xs.map (J0b L))=some (g.map (J0b L'))
 |[],g,h=>by injection h with h;subst h;rfl
 |x::r,g,h=>by
  simp only[JjX]at h;split at h
  ·rename_i y l hy hl;injection h with h;subst h;simp only[J0I,ren.renL,JCf hL hy,Jdu hl]
  ·cases h
theorem JKN{x y:TA}(h:JsI ids x=some y):ren (λe=>J1S e (ids.map .whole) 0) (J1b L x)=some (J1b L' y):=by
 cases x with
 |c x=>
  simp only[JsI]at h;split at h
  ·rename_i y hy;injection h with h;subst h;exact JCf hL hy
  ·cases h
 |dt t x=>injection h with h;subst h;rfl
 |m t cs=>
  simp only[JsI]at h;split at h
  ·rename_i l hl;injection h with h;subst h;simp only[J1b,ren,Jdu hL hl,J1o]
  ·cases h
 |fn f a c=>
  simp only[JsI]at h;split at h
  ·rename_i g c' ha hc;injection h with h;subst h;simp only[J1b,ren,Jdu hL ha,Jdu hL hc,JJ,J1o]
  ·cases h
theorem JwQ: ∀{xs g:List TA},JsX ids xs=some g->ren.renL (λe=>J1S e (ids.map .whole) 0) (xs.map (J1b L))=some (g.map (J1b L'))
 |[],g,h=>by injection h with h;subst h;rfl
 |x::r,g,h=>by
  simp only[JsX]at h;split at h
  ·rename_i y l hy hl;injection h with h;subst h;simp only[J0I,ren.renL,JKN hL hy,JwQ hl]
  ·cases h
theorem JsM{s0 s1:TSt}{ws:List (Nat×Blk)}(f:Fzd s0 s1 ws)(g:lns s0.sto=L): ∀{j:List Nat} {bl:List TB},J9x ids s1 j=some bl->
  (J4P ws (λe=>J1S e (ids.map .whole) 0) (j.map .whole)).run (Js s0)=some (bl.map (J0s L'))
 |[],bl,h=>by injection h with h;subst h;rfl
 |b::r,bl,h=>by
  simp only[J9x]at h;split at h
  ·rename_i x hb;split at h
   ·rename_i y l hy hl;injection h with h;subst h;have ih:=JsM f g hl;have k:=JqW f hb;rw[g]at k;simp only[J0I,J4P,Jk3,run_bind,k,JJ];cases x with
    |dead=>cases hy
    |box t x=>
     injection hy with hy;subst hy;have:ren.renL (λe=>J1S e (ids.map .whole) 0) ((cel t x).map AV.p)=some ((cel t x).map AV.p):=JwT (J7Y _);simp only[J0s,this,JE,JJ,ih]
    |mbox t cs=>
     simp only[JDd]at hy;split at hy
     ·rename_i o n;injection hy with hy;subst hy;simp only[J0s,Jdu hL n,JE,JJ,ih]
     ·cases hy
    |arr w t rows=>
     injection hy with hy;subst hy;simp only[J0s,JE,JJ,ih]
   ·cases h
  ·cases h
end
theorem Jqh{ids:List Nat}{s:TSt}: ∀{e:List Nat} {bl:List TB},J9x ids s e=some bl->bl.length=e.length/\ ∀(k b:Nat),e[k]?=some b->lns bl k=lns s.sto b
 |[],bl,h=>by injection h with h;subst h;exact⟨rfl,λk b h=>by simp at h⟩
 |b::r,bl,h=>by
  simp only[J9x]at h;split at h
  ·rename_i x hb;split at h
   ·rename_i y l hy hl;injection h with h;subst h;obtain⟨h1,h2⟩:=Jqh hl;refine⟨by simp[h1],λk c hk=>?_⟩;cases k with
    |zero=>
     simp at hk;subst hk;unfold lns;rw[hb];show lnB y=lnB x;cases x with
     |dead=>cases hy
     |box t x=>injection hy with hy;subst hy;rfl
     |mbox t cs=>
      simp only[JDd]at hy;split at hy
      ·injection hy with hy;subst hy;rfl
      ·cases hy
     |arr w t rows=>injection hy with hy;subst hy;rfl
    |succ k=>
     have:=h2 k c (by simpa using hk);unfold lns at this⊢;rw[<-this];simp
   ·cases h
  ·cases h
def J4Y(ids:List Nat)(new m k:Nat):Option Nat:=if k<ids.length then ids[k]? else if k<m then some (new+(k-ids.length))else none
def JHr(ids:List Nat)(new m:Nat):TC->Option TC
 | .ptr k p=>(J4Y ids new m k).bind λb=>some (.ptr b p)
 | .slr k=>(J4Y ids new m k).bind λb=>some (.slr b)
 | .slo k n=>(J4Y ids new m k).bind λb=>some (.slo b n)
 | .ep k i p=>(J4Y ids new m k).bind λb=>some (.ep b i p)
 | .epo k e i p=>(J4Y ids new m k).bind λb=>some (.epo b e i p)
 |x=>some x
def Jra(ids:List Nat)(new m:Nat):List TC->Option (List TC)
 |[]=>some []
 |x::r=>match JHr ids new m x,Jra ids new m r with
  |some y,some l=>some (y::l)
  |_,_=>none
def Jub(ids:List Nat)(new m:Nat):TA->Option TA
 | .c x=>match JHr ids new m x with
   |some y=>some (.c y)
   |none=>none
 | .dt t x=>some (.dt t x)
 | .m t cs=>match Jra ids new m cs with
   |some l=>some (.m t l)
   |none=>none
 | .fn f a c=>match Jra ids new m a,Jra ids new m c with
   |some a,some c=>some (.fn f a c)
   |_,_=>none
def JzD(ids:List Nat)(new m:Nat):List TA->Option (List TA)
 |[]=>some []
 |x::r=>match Jub ids new m x,JzD ids new m r with
  |some y,some l=>some (y::l)
  |_,_=>none
def JH9(ids:List Nat)(new m:Nat):TV->Option TV
 | .a x=>match Jub ids new m x with
   |some y=>some (.a y)
   |none=>none
 | .tup vs=>match JzD ids new m vs with
   |some l=>some (.tup l)
   |none=>none
def Jrj(ids:List Nat)(new m:Nat):TB->Option TB
 | .box t x=>some (.box t x)
 | .mbox t cs=>match Jra ids new m cs with
   |some l=>some (.mbox t l)
   |none=>none
 | .arr w t rows=>some (.arr w t rows)
 | .dead=>none
section
variable {ids:List Nat} {new m:Nat} {L Lp:Nat->Nat} (hL: ∀k b,J4Y ids new m k=some b->Lp b=L k)
theorem JP0{k b o:Nat}(h:J4Y ids new m k=some b):bk (ids.map .whole) new (.ptr k o)=some (.ptr b o):=by
 unfold J4Y at h;simp only[bk,J1M,J29];split at h
 ·rename_i hk;rw[if_pos hk,h];rfl
 ·rename_i hk;split at h
  ·injection h with h;rw[if_neg hk,h]
  ·cases h
theorem JOu{k b i n:Nat}(h:J4Y ids new m k=some b):bk (ids.map .whole) new (.slr k i n)=some (.slr b i n):=by
 unfold J4Y at h;simp only[bk,J1M,J29];split at h
 ·rename_i hk;rw[if_pos hk,h];rfl
 ·rename_i hk;split at h
  ·injection h with h;rw[if_neg hk,h]
  ·cases h
theorem JPd{k b e i o:Nat}(h:J4Y ids new m k=some b):bk (ids.map .whole) new (.ep k e i o)=some (.ep b e i o):=by
 unfold J4Y at h;simp only[bk,J1M,J29];split at h
 ·rename_i hk;rw[if_pos hk,h];rfl
 ·rename_i hk;split at h
  ·injection h with h;rw[if_neg hk,h]
  ·cases h
include hL
theorem JG1{x y:TC}(h:JHr ids new m x=some y):bk (ids.map .whole) new (J0b L x)=some (J0b Lp y):=by
 cases x<;>simp only[JHr]at h<;>first
  |(obtain⟨b,hb,h⟩:=J2s.1 h
    injection h with h;subst h;simp only[J0b,JP0 hb,JOu hb,JPd hb,hL _ _ hb]
    done)
  |(injection h with h;subst h;rfl)
theorem Jd6: ∀{xs e:List TC},Jra ids new m xs=some e->bk.bkL (ids.map .whole) new (xs.map (J0b L))=some (e.map (J0b Lp))
 |[],e,h=>by injection h with h;subst h;rfl
 |x::r,e,h=>by
  simp only[Jra]at h;split at h
  ·rename_i y l hy hl;injection h with h;subst h;simp only[J0I,bk.bkL,JG1 hL hy,Jd6 hl]
  ·cases h
theorem JFo{x y:TA}(h:Jub ids new m x=some y):bk (ids.map .whole) new (J1b L x)=some (J1b Lp y):=by
 cases x with
 |c x=>
  simp only[Jub]at h;split at h
  ·rename_i y hy;injection h with h;subst h;exact JG1 hL hy
  ·cases h
 |dt t x=>injection h with h;subst h;rfl
 |m t cs=>
  simp only[Jub]at h;split at h
  ·rename_i l hl;injection h with h;subst h;simp only[J1b,bk,Jd6 hL hl]
  ·cases h
 |fn f a c=>
  simp only[Jub]at h;split at h
  ·rename_i e c' ha hc;injection h with h;subst h;simp only[J1b,bk,Jd6 hL ha,Jd6 hL hc]
  ·cases h
theorem JCX: ∀{xs e:List TA},JzD ids new m xs=some e->bk.bkL (ids.map .whole) new (xs.map (J1b L))=some (e.map (J1b Lp))
 |[],e,h=>by injection h with h;subst h;rfl
 |x::r,e,h=>by
  simp only[JzD]at h;split at h
  ·rename_i y l hy hl;injection h with h;subst h;simp only[J0I,bk.bkL,JFo hL hy,JCX hl]
  ·cases h
theorem JMd{x y:TV}(h:JH9 ids new m x=some y):bk (ids.map .whole) new (J04 L x)=some (J04 Lp y):=by
 cases x with
 |a x=>
  simp only[JH9]at h;split at h
  ·rename_i y hy;injection h with h;subst h;exact JFo hL hy
  ·cases h
 |tup vs=>
  simp only[JH9]at h;split at h
  ·rename_i l hl;injection h with h;subst h;simp only[J04,bk,JCX hL hl]
  ·cases h
end
end Go.Am
end
section
namespace Go.Am
structure TG where
 go: ∀{R:Type},FuncId->List TA->List TB->(TV->List (Bool×TB)->Option R)->Option R
def JgO(out:List (Bool×TB)):Nat->Nat:=lns (out.map (·.2))
structure GOk(F:Orc)(G:TG):Prop where
 ok: ∀{R:Type} {f:FuncId} {xs:List TA} {bl:List TB} {kk:TV->List (Bool×TB)->Option R} {r:R},G.go f xs bl kk=some r->
  ∃v out,F f (xs.map (J1b (lns bl))) (bl.map (J0s (lns bl)))=some (J04 (JgO out) v,out.map λx=>J0s (JgO out) x.2)/\
   (∀(k:Nat) x,out[k]?=some (true,x)->k<bl.length->lnB x=lns bl k)/\kk v out=some r
def Jav(ids:List Nat)(new m:Nat):Nat->List (Bool×TB)->Option (List (Nat×Bool×TB))
 |_,[]=>some []
 |k,(s,x)::r=>match J4Y ids new m k,Jrj ids new m x,Jav ids new m (k+1) r with
  |some b,some y,some l=>some ((b,s&&decide (k<ids.length),y)::l)
  |_,_,_=>none
section
variable {R:Type}
def JIi(e:Bool)(a b n:Nat):Bool:=if e=true then decide (a<=b/\b<=a+n)else decide (b=a+n)
theorem JIX{e:Bool}{a b n:Nat}(h:JIi e a b n=true):(if e=true then a<=b/\b<=a+n else b=a+n)/\a<=b/\b<=a+n:=by
 unfold JIi at h;cases e with
 |true=>simp at h;exact⟨by simpa using h,h⟩
 |false=>simp at h;exact⟨by simpa using h,by omega,by omega⟩
def JpC(G:TG)(f:FuncId)(args:List (TV×Bool))(e:Bool)(n:Nat)(d:Option Nat)(new:Nat)(s:TSt)(kk:TSt->Option R):Option R:=
 JtI args s λxs s1=>
 match Ji0 xs []with
 |none=>none
 |some g=>match Jfr s1 g g with
  |none=>none
  |some h=>match Jfr s1 h h with
   |none=>none
   |some ids=>if J4w ids=true then
     match JsX ids xs,J9x ids s1 ids with
     |some k,some bl=>G.go f k bl λv out=>
       if JIi e ids.length out.length n=true then
        match JH9 ids new out.length v,Jav ids new out.length 0 out with
        |some j,some ws=>if J4w (ws.map (·.1))=true then kk (J0E d j (Jca ws s1))else none
        |_,_=>none
       else none
     |_,_=>none
    else none
theorem JDU{ids:List Nat}{new m:Nat}{x y:TB}(h:Jrj ids new m x=some y):lnB y=lnB x:=by
 cases x with
 |dead=>cases h
 |box t x=>injection h with h;subst h;rfl
 |mbox t cs=>
  simp only[Jrj]at h;split at h
  ·injection h with h;subst h;rfl
  ·cases h
 |arr w t rows=>injection h with h;subst h;rfl
theorem JA1{ids:List Nat}{new m:Nat}: ∀{k:Nat} {out:List (Bool×TB)} {ws:List (Nat×Bool×TB)},Jav ids new m k out=some ws->
  ws.length=out.length/\ ∀(j:Nat) s x,out[j]?=some (s,x)-> ∃b y,J4Y ids new m (k+j)=some b/\Jrj ids new m x=some y/\ws[j]?=some (b,s&&decide (k+j<ids.length),y)
 |k,[],ws,h=>by injection h with h;subst h;exact⟨rfl,λj s x h=>by simp at h⟩
 |k,(s,x)::r,ws,h=>by
  simp only[Jav]at h;split at h
  ·rename_i b y l hb hy hl;injection h with h;subst h;obtain⟨h1,h2⟩:=JA1 hl;refine⟨by simp[h1],λj s' n hj=>?_⟩;cases j with
   |zero=>
    simp at hj;obtain⟨rfl,rfl⟩:=hj;exact⟨b,y,hb,hy,by simp⟩
   |succ j=>
    obtain⟨e,g,q1,q2,q3⟩:=h2 j s' n (by simpa using hj);refine⟨e,g,by rw[<-q1];congr 1;omega,q2,?_⟩;simp only[List.getElem?_cons_succ,q3];rw[show k+1+j=k+(j+1) by omega]
  ·cases h
theorem JLu{l:List Nat}(h:J4w l=true):l.Nodup:=JcT h
theorem JF9{ids:List Nat}(h:J4w ids=true):J4w ((ids.map Ent.whole).map Ent.id)=true:=by rw[J7E,show Ent.id∘Ent.whole=id from rfl,List.map_id];exact h
theorem JB2{ids:List Nat}{new m:Nat}{L Lp:Nat->Nat}(hL: ∀k b,J4Y ids new m k=some b->Lp b=L k){ws0:List (Nat×Blk)}{st:St}: ∀{j:Nat} {es:List Nat} {out:List (Bool×TB)} {ws:List (Nat×Bool×TB)},
  (∀(i:Nat) b,es[i]?=some b->ids[j+i]?=some b)->j+es.length=ids.length->es.length<=out.length->Jav ids new m j out=some ws->
  (J39 ws0 (ids.map .whole) new (es.map .whole) (out.map λx=>J0s L x.2)).run st=some ((ws.take es.length).map λx=>(x.1,J0s Lp x.2.2))
 |j,[],out,ws,_,_,_,h=>by simp[J39,JE]
 |j,b::es,[],ws,_,_,hl,h=>by simp at hl
 |j,b::es,(s,x)::out,ws,he,hj,hl,h=>by
  simp only[Jav]at h;split at h
  ·rename_i g y l hb hy r;injection h with h;subst h;have ih:=JB2 hL (ws0:=ws0) (st:=st) (j:=j+1) (es:=es) (out:=out) (ws:=l) (λi c hc=>by have:=he (i+1) c (by simpa using hc);rw[<-this];congr 1;omega) (by simp at hj;omega) (by simpa using hl) r
   have q:g=b:=by have e:=he 0 b (by simp);unfold J4Y at hb;rw[if_pos (by simp at hj;omega)]at hb;rw[J7w]at e;rw[hb]at e;injection e
   subst q;simp only[J0I,J39,run_bind];have n:(J7t ws0 (ids.map .whole) new (.whole g) (J0s L x)).run st=some (g,J0s Lp y):=by
    cases x with
    |dead=>cases hy
    |box t x=>
     injection hy with hy;subst hy;simp only[Jic,J7t,JnK (J7Y _),JE]
    |mbox t cs=>
     simp only[Jrj]at hy;split at hy
     ·rename_i v o;injection hy with hy;subst hy;simp only[Jih,J7t,Jd6 hL o,JE]
     ·cases hy
    |arr w t rows=>
     injection hy with hy;subst hy;simp only[JCQ,J7t,JE]
   simp only[n,JJ,ih,JE,Jrb,JHV,J0I]
  ·cases h
theorem JC6{ids:List Nat}{new m:Nat}{L Lp:Nat->Nat}(hL: ∀k b,J4Y ids new m k=some b->Lp b=L k): ∀{j:Nat} {out:List (Bool×TB)} {ws:List (Nat×Bool×TB)},
  Jav ids new m (ids.length+j) out=some ws->J2I (ids.map .whole) new (new+j) (out.map λx=>J0s L x.2)=some (ws.map λx=>(x.1,J0s Lp x.2.2))
 |j,[],ws,h=>by injection h with h;subst h;rfl
 |j,(s,x)::out,ws,h=>by
  simp only[Jav]at h;split at h
  ·rename_i o y l hb hy n;injection h with h;subst h;have ih:=JC6 hL (j:=j+1) n;have g:o=new+j:=by
    unfold J4Y at hb;rw[if_neg (by omega)]at hb;split at hb
    ·injection hb with hb;omega
    ·cases hb
   subst g;cases x with
   |dead=>cases hy
   |box t x=>
    injection hy with hy;subst hy;simp only[J0I,Jic,J2I,JnK (J7Y _)];rw[show new+j+1=new+(j+1) by omega,ih]
   |mbox t cs=>
    simp only[Jrj]at hy;split at hy
    ·rename_i q e;injection hy with hy;subst hy;simp only[J0I,Jih,J2I,Jd6 hL e];rw[show new+j+1=new+(j+1) by omega,ih]
    ·cases hy
   |arr w t rows=>
    injection hy with hy;subst hy;simp only[J0I,JCQ,J2I];rw[show new+j+1=new+(j+1) by omega,ih]
  ·cases h
theorem Js9{ids:List Nat}{new m:Nat}: ∀{n k:Nat} {out:List (Bool×TB)} {ws:List (Nat×Bool×TB)},Jav ids new m k out=some ws->Jav ids new m (k+n) (out.drop n)=some (ws.drop n)
 |0,k,out,ws,h=>h
 |n+1,k,[],ws,h=>by injection h with h;subst h;rfl
 |n+1,k,(s,x)::out,ws,h=>by
  simp only[Jav]at h;split at h
  ·rename_i b y l hb hy hl;injection h with h;subst h;have:=Js9 (n:=n) hl;rw[show k+(n+1)=k+1+n by omega];exact this
  ·cases h
theorem JcN{F:Orc}{G:TG}(hG:GOk F G){f:FuncId}{args:List (TV×Bool)}{D:Bool}{n:Nat}{d:Option Nat}{new:Nat}{s:TSt}{kk:TSt->Option R}{r:R}
  (hd:J9h s new n=true) (h:JpC G f args D n d new s kk=some r):
  ∃xs ws E es B blks v res K fresh,(J3e (args.map (·.2)) (args.map λx=>J04 (lns s.sto) x.1)).run (Js s)=some (xs,ws)/\
   (J3M ws (J0N.entsOfL xs []) (J0N.entsOfL xs [])).run (Js s)=some E/\(J3M ws E E).run (Js s)=some es/\J4w (es.map Ent.id)=true/\
   ren.renL (λe=>J1S e es 0) xs=some B/\(J4P ws (λe=>J1S e es 0) es).run (Js s)=some blks/\F f B blks=some res/\
   (if D=true then es.length<=res.2.length/\res.2.length<=es.length+n else res.2.length=es.length+n)/\bk es new res.1=some v/\J2I es new new (res.2.drop es.length)=some fresh/\
   (J39 ws es new es res.2).run (Js s)=some K/\ ∃s',put d ⟨v,ws++K++fresh⟩ (Js s)=Js s'/\kk s'=some r:=by
 unfold JpC at h;obtain⟨xs,s1,ws,h1,w,h⟩:=JrC (Fzd.refl s) h;rw[Jbd]at w;split at h
 ·cases h
 ·rename_i i0 a4;split at h
  ·cases h
  ·rename_i i1 a0;split at h
   ·cases h
   ·rename_i ids V;split at h
    ·rename_i a8;split at h
     ·rename_i ys bl a2 o;obtain⟨v,out,hF,O,h⟩:=hG.ok h;split at h
      ·rename_i hlen;split at h
       ·rename_i Z g a5 q;split at h
        ·rename_i Y;have e0:J0N.entsOfL (xs.map (J1b (lns s.sto))) []=i0.map .whole:=Jf8 (lns s.sto) (l:=[]) a4;have e1:=J9l w a0;have e2:=J9l w V;obtain⟨a3,U⟩:=Jqh o;have hL: ∀b k,J4r b ids 0=some k->lns bl k=lns s.sto b:=by intro b k hk;obtain⟨_,hk⟩:=JeR hk;rw[U k b (by simpa using hk),w.2.1]
         have e3:=JwQ hL a2;have e4:=JsM hL w rfl o;obtain⟨b1,b2⟩:=JA1 q
         have W: ∀(j:Nat),JgO out j=match out[j]? with
           |some x=>lnB x.2
           |none=>0:=by
          intro j;unfold JgO lns;rw[J29];cases out[j]?<;>rfl
         have C: ∀(k b:Nat),ids[k]?=some b->b<s1.sto.length:=by
          have a6: ∀(H:List Nat) (bl:List TB),J9x ids s1 H=some bl-> ∀(k b:Nat),H[k]?=some b->b<s1.sto.length:=by
           intro H
           induction H with
           |nil=>intro bl _ k b hk;simp at hk
           |cons c H ih=>
            intro bl o k b hk;simp only[J9x]at o;split at o
            ·rename_i x hx;split at o
             ·rename_i y l hy hl;cases k with
              |zero=>simp at hk;subst hk;exact Je hx
              |succ k=>exact ih l hl k b (by simpa using hk)
             ·cases o
            ·cases o
          exact a6 ids bl o
         have T:s1.sto.length=s.sto.length:=by have:=congrArg (λst=>st.sto.length) w.2.2.1;simpa only[Js,J1M,Jbl]using this
         obtain⟨Q,S,a9⟩:=JIX hlen;have M:=J7s hd;have J: ∀x∈g,∃(j:Nat) (P:Bool) (y:TB),out[j]?=some (P,y)/\J4Y ids new out.length j=some x.1/\Jrj ids new out.length y=some x.2.2/\x.2.1=(P&&decide (j<ids.length)):=by
          intro x hx;obtain⟨j,hj⟩:=J6x hx;have A:j<out.length:=by rw[<-b1];exact Je hj
          obtain⟨b,y,q1,q2,q3⟩:=b2 j (out[j]'A).1 (out[j]'A).2 (JF A);rw[hj]at q3;injection q3 with q3;rw[zQ6]at q1 q3;exact⟨j,_,_,JF A,by rw[q3];exact q1,by rw[q3];exact q2,by rw[q3];rfl⟩
         have L: ∀x∈g,x.1<s1.sto.length:=by
          intro x hx;obtain⟨j,P,y,q1,q2,q3,q4⟩:=J x hx;unfold J4Y at q2;split at q2
          ·exact C j _ q2
          ·split at q2
           ·injection q2 with q2;rw[<-q2,T];exact Je (M (j-ids.length) (by omega))
           ·cases q2
         have N: ∀x∈g,x.2.1=true->lnB x.2.2=lns s1.sto x.1:=by intro x hx hx1;obtain⟨j,P,y,q1,q2,q3,q4⟩:=J x hx;rw[q4,JY,decide_eq_true_eq]at hx1;obtain⟨rfl,hj⟩:=hx1;rw[JDU q3,O j y q1 (by rw[a3];exact hj)];unfold J4Y at q2;rw[if_pos hj]at q2;exact U j _ q2
         obtain⟨w1,w2⟩:=JNb (JLu Y) L N;have I: ∀k b,J4Y ids new out.length k=some b->lns (Jca g s1).sto b=JgO out k:=by
          intro k b hk;have z:k<out.length:=by
           unfold J4Y at hk;split at hk
           ·omega
           ·split at hk
            ·assumption
            ·cases hk
          obtain⟨b',y,q1,q2,q3⟩:=b2 k (out[k]'z).1 (out[k]'z).2 (JF z);rw[zQ6]at q1 q3;rw[q1]at hk;injection hk with hk;subst hk;rw[w2 _ (J0F q3),JDU q2,W,JF z]
         have e5:=JMd I a5;have e6:=JB2 I (ws0:=ws) (st:=Js s) (j:=0) (es:=ids) (out:=out) (ws:=g) (λi b hb=>by rw[zQ6];exact hb) (by omega) S q;have e7:=JC6 I (j:=0) (out:=out.drop ids.length) (ws:=g.drop ids.length) (by have:=Js9 (n:=ids.length) q;rwa[zQ6,<-J7w ids.length]at this);rw[J7w]at e7;refine⟨xs.map (J1b (lns s.sto)),ws,i1.map .whole,ids.map .whole,_,_,J04 (lns (Jca g s1).sto) Z,_,_,(g.drop ids.length).map (λx=>(x.1,J0s (lns (Jca g s1).sto) x.2.2)),h1,?_,e2,JF9 a8,e3,e4,hF,?_,e5,?_,e6,J0E d Z (Jca g s1),?_,h⟩
         ·rw[e0];exact e1
         ·simp only[J1M];exact Q
         ·simp only[J1M,<-List.map_drop];exact e7
         ·refine J8C ?_ d Z;rw[w1,w.2.2.1]
          congr 1
          rw[J7D,J1t,<-J9p,Jou]
        ·cases h
       ·cases h
      ·cases h
     ·cases h
    ·cases h
end
end Go.Am
end
