/-
  Parts of a proof.
-/
import Derived.Orders
import Derived.LoopN
import Derived.Scope
import Derived.Below
import Derived.Test.YtckgllmahldikaaGreatM1
set_option linter.unusedSimpArgs false
set_option linter.unusedVariables false
open Option renaming some → Z,none → Y
open Bool renaming true → O,false → J
open Go.IntKind renaming i64 → I
open Int renaming toNat → _J,toNat_natCast → _X
open List renaming replicate → _P,take_of_length_le → e!
section
namespace Go.Am
section
variable {P:Program} {F:Orc} {s:Sn} {a:Act} {env:List (Nat×AV)} {o:Oper} {_m:Nat} {e:Eff}
theorem n7: ∀(os:List (Nat×Nat)) (n:Nat) {s:Sn},Inv s->(∀j,j<os.length->s.σ[n+j]?=Z .dead)->
  ∃g',Inv ⟨upd (iR os n) s.σ,g',s.w⟩/\bK s ⟨upd (iR os n) s.σ,g',s.w⟩/\
   (∀j,j<os.length->(∃_l,(upd (iR os n) s.σ)[n+j]?=Z (.arr O _l []))/\g'.μ (n+j)=Y)/\
   (∀b,b<n\/n+os.length<=b->(upd (iR os n) s.σ)[b]?=s.σ[b]?/\g'.μ b=s.g.μ b)
 |[],n,s,hi,_=>⟨s.g,hi,.refl s,λj e=>by simp at e,λb _=>⟨rfl,rfl⟩⟩
 |(off,_l)::r,n,s,hi,hd=>by
  obtain⟨i1,v⟩:=WI hi (hd 0 (by simp)) _l;obtain⟨g',i2,q,h1,h2⟩:=n7 r (n+1) (s:=⟨s.σ.set n (.arr O _l []),fT s.g n Y,s.w⟩) i1 (λj e=>by
   show(s.σ.set n _)[n+1+j]?=_;rw[tR (by omega)];have:=hd (j+1) (by simp;omega);grind)
  refine⟨g',i2,v.trans q,λj e=>?_,λb hb=>?_⟩;cases j with
  |zero=>
   obtain⟨o,k⟩:=h2 n (.inl (by omega));refine⟨⟨_l,?_⟩,?_⟩;grind [upd,iR];rw[yI,k];exact if_pos rfl
  |succ j=>have:=h1 j (by simpa using e);rw[show n+(j+1)=n+1+j by omega];exact this
  obtain⟨o,k⟩:=h2 b (by grind);have h:n≠b:=by grind
  exact⟨o.trans (tR h),k.trans (if_neg (Ne.symm h))⟩
theorem Df{t:TypeId}{os:List (Nat×Nat)}{v:Value}(hv:zeT P t=Z v)(h:UH P t os=O): ∀x∈os,v.cells[x.1]?=Z (.slice Y 0 0):=by
 grind [UH]
theorem n5{cells:Array Value}: ∀(os:List (Nat×Nat)) (n:Nat) {cs:List AV},(∀x∈os,cells[x.1]?=Z (.slice Y 0 0))->
  (∀j,j<os.length->(∃_l,s.σ[n+j]?=Z (.arr O _l []))/\s.g.μ (n+j)=Y)->
  (∀(i:Nat) x,cs[i]?=Z x-> ∃u,cells[i]?=Z u/\JH s x u/\u.oneCell'=O)->
  ∀(i:Nat) x,(nS os n cs)[i]?=Z x-> ∃u,cells[i]?=Z u/\JH s x u/\u.oneCell'=O
 |[],_,_,_,_,h=>h
 |(off,_l)::r,n,cs,hz,ha,h=>by
  refine n5 r (n+1) (λx e=>hz x (by simp[e])) (λj q=>by
   have:=ha (j+1) (by simpa using q);grind) λi x e=>?_
  by_cases hi:off=i;subst hi;have k:=JE e;rw[List.length_set]at k;rw[ML k]at e;cases e;obtain⟨⟨o,h1⟩,h2⟩:=ha 0 (by simp);rw[yI]at h1 h2;exact⟨.slice Y 0 0,hz (off,_l) (by simp),._r n 0 0 _ O o [] ⟨Y,0,rfl,.inl rfl⟩ h1 (zQ0 _) λ_=>.inl ⟨h2,rfl,rfl,rfl⟩,rfl⟩;simp_all
theorem nc: ∀(os:List (Nat×Nat)) (n:Nat) (cs:List AV),(nS os n cs).length=cs.length|[],_,_=>rfl|_::r,n,cs=>(nc r (n+1) _).trans (by simp)
theorem JE0(hi:Inv s){zero os}(n: ∀j,j<os.length+1->s.σ[_m+j]?=Z .dead)(h:(_y F (.newboxo zero os) _m).run ⟨env,s.σ⟩=Z e)(hc:bG P (.newboxo zero os) o.op=O):cB P o a s e:=by
 simp only[_y,RM.run]at h;cases h;unfold bG at hc;simp only at hc;split at hc;rename_i t _d;simp only[bB]at hc;obtain⟨B,E⟩:=hc;obtain⟨v,G,hl,D⟩:=EO B;obtain⟨r,i1,z,h1,h2⟩:=n7 os _m hi λj M=>n j (by omega);have hd:(upd (iR os _m) s.σ)[_m+os.length]?=Z .dead:=((h2 _ (.inr (zQ0 _))).1).trans (n _ (by omega))
 let s1:Sn:=⟨upd (iR os _m) s.σ,r,s.w⟩
 obtain⟨A,t'⟩:=WD (s0:=s1) i1 hd (blk:=.box (nS os _m (zero.map .p))) (c:=v.cells) (e:=t) (fz:=(0,0)) (w':={s.w with heap:=s.w.heap.push (.cells v.cells t)}) rfl rfl rfl
  (λo _ _ h=>by simp at h) (λ_ _ _ h=>by cases h) ⟨by grind [nc],λi x q=>by
   obtain⟨u,L,K,_e⟩:=n5 (s:=s1) (cells:=v.cells) os _m (Df G E) h1 (λi x q=>by
    rw[iM]at q;cases hzi:zero[i]? with
    |none=>simp_all
    |some c=>
     simp[hzi]at q;subst q;have H:=JE hzi;have y:i<v.cells.size:=by omega
     have:=D (w:=s1.w) (C:=s1.g.C) i c v.cells[i] hzi (by simp);exact⟨v.cells[i],by simp,.p _ _ this,this.one⟩) i x q
   simp_all⟩
 have k:upd (iR os _m++[(_m+os.length,_w.box (nS os _m (zero.map .p)))]) s.σ=(upd (iR os _m) s.σ).set (_m+os.length) (.box (nS os _m (zero.map .p))):=by rw[fM];rfl
 refine jJ (e:=⟨.ptr (_m+os.length) 0,iR os _m++[(_m+os.length,.box (nS os _m (zero.map .p)))]⟩) (v:=.pointer (Z ⟨s.w.heap.size,0,Y⟩)) (g':=fT r (_m+os.length) (Z (s.w.heap.size,0))) ?_
  (by rw[k];exact A) (by rw[k];exact z.trans t') (by rw[k];exact .ptr (_m+os.length) 0 _ 0 (if_pos rfl) ⟨_,lJ hd⟩)
 simp_all [execOp,Instr.alloc,IQ,newVar,newRow];cases hc
theorem JH2(hi:Inv s)(he:bZ s a.tmps env)(hn:s.σ[_m]?=Z .dead){_l x}(h:(_y F (.storen _l x) _m).run ⟨env,s.σ⟩=Z e)(hc:bG P (.storen _l x) o.op=O):cB P o a s e:=by
 simp only[_y]at h;obtain⟨u,h1,L⟩:=bind_some h;obtain⟨H,h2,B⟩:=bind_some L;clear h L;simp only[RM.run]at B;cases B;obtain⟨_d,Q⟩:=WI hi hn _l;unfold bG at hc;simp only at hc;split at hc;rename_i t M ad;simp only[bB,beq_iff_eq]at hc;obtain⟨hs,hx⟩:=hc;have v:=bW he h1 hx;have N: ∀{r n:Nat} {w':World},a.eval M=.pointer (Z ⟨r,n,Y⟩)->(storeVar t ⟨r,n,Y⟩ (.slice Y 0 0)).run P s.w=.ok () w'->(execOp a.eval o).run P s.w=.ok .skip w':=by intro r n w' R a6;have a9:a.eval (.const (.slice Y 0 0))=.slice Y 0 0:=rfl;simp_all [execOp,Instr.storeAt,Instr.sureAddr]
 unfold jI at h2;split at h2;rename_i b off;simp only[RM.run]at h2;split at h2;rename_i blk hb;split at h2;rename_i cs;split at h2;rename_i l hl;split at h2;rename_i a3;split at h2;rename_i cs' D;simp only[RM.run]at h2;cases h2;have hb:s.σ[b]?=Z (.box cs):=hb;have _c:_m≠b:=λe=>by simp_all
 let s1:Sn:=⟨s.σ.set _m (.arr O _l []),fT s.g _m Y,s.w⟩
 have C:s1.σ[b]?=Z (.box cs):=(tR _c).trans hb;have _b:JH s1 (._r _m 0 0) (.slice Y 0 0):=
  ._r _m 0 0 _ O _l [] ⟨Y,0,rfl,.inl rfl⟩ (lJ hn) (zQ0 _) λ_=>.inl ⟨if_pos rfl,rfl,rfl,rfl⟩
 generalize R:a.eval M=z at v;have v:=JH.mono (s:=s1) hi Q v;cases v with
 |ptr _ _ r n m a7=>
  obtain⟨_a,_e,W⟩:=YO hl _b;obtain⟨S,j2,U,j4⟩:=VT D;obtain⟨r1,o1,c,et,fz,A,E,aa,a8,hf⟩:=_d.box b cs C;rw[m]at A;injection A with A;injection A with m1 m2;subst m1 m2;have q:=RF (vs:=(Value.slice Y 0 0).cells.toList) (o:=n+off) E (by simp;omega);have hlen:(Value.slice Y 0 0).cells.toList.length=l.length:=by simp[_a]
  obtain⟨i',t'⟩:=o8 (s0:=s1) _d (blk:=.box cs') C q (λk h1 h2=>by
   grind [Wr1]) (.box _ _ S) (λa4 j G=>by
   cases j;obtain⟨c0,e0,ac,c',y,T,p3,p4,V,p6⟩:=q.there;rw[E]at y;injection y with y;injection y with q1 q2 q3;subst q1 q2 q3;refine⟨r,n,c',et,fz,m,T,by omega,λi x K=>?_,by simp_all⟩;by_cases ae:off<=i/\i<off+l.length;have H:cs'[off+(i-off)]?=l[i-off]?:=U (i-off) (by omega);rw[show off+(i-off)=i by omega,K]at H;have a5:i-off<(Value.slice Y 0 0).cells.size:=by omega
   have e2:=V (i-off) (Value.slice Y 0 0).cells[i-off] (by simp);refine⟨(Value.slice Y 0 0).cells[i-off],by rw[<-e2];congr 1;omega,G (W (i-off) x _ H.symm (by simp)),_e _ (by simp)⟩;grind)
   (λ_ _ j=>by cases j)
  refine ou (e:=⟨iC,(_m,.arr O _l [])::[(b,.box cs')]⟩) (N R (qx (by simp_all) E (by omega) (λk h1 h2=>hf k (by omega) (by omega)) _e)) rfl i' (Q.trans t')
 cases h2;cases h2;cases h2;cases h2;cases h2;rename_i b ext i off;have ab:(fz (._r _m 0 0)).run ⟨env,s.σ⟩=Y:=(by grind [fz,RM.run]);simp only[RM.run]at h2;split at h2;split at h2;split at h2;split at h2;grind [run_bind];cases h2;cases h2;cases h2;cases h2;cases h2;cases hc
theorem JHu(hi:Inv s)(he:bZ s a.tmps env){zero parts os}(E: ∀j,j<os.length->s.σ[_m+j]?=Z .dead)(h:(_y F (.buildo zero parts os) _m).run ⟨env,s.σ⟩=Z e)
  (hc:bG P (.buildo zero parts os) o.op=O):cB P o a s e:=by
 simp only[_y]at h;obtain⟨l,h1,q⟩:=bind_some h;clear h;unfold bG at hc;simp only at hc;split at hc;rename_i t ps a9;simp only[bB]at hc;obtain⟨⟨hz,hn⟩,ht⟩:=hc;obtain⟨z,N,aa,Q⟩:=EO hz;obtain⟨R,i1,_c,K,ab⟩:=n7 os _m hi E;split at q;rename_i cs hcs;split at q;rename_i r h3;simp only[RM.run]at q;cases q
 let s1:Sn:=⟨upd (iR os _m) s.σ,R,s.w⟩
 have G: ∀(i:Nat) x,(nS os _m (zero.map AV.p))[i]?=Z x-> ∃u,z.cells[i]?=Z u/\JH s1 x u/\u.oneCell'=O:=
  n5 (s:=s1) (cells:=z.cells) os _m (Df N hn) K (by
   intro i x _d;rw[iM]at _d;cases hzi:zero[i]? with
   |none=>simp_all
   |some c=>
    simp[hzi]at _d;subst _d;have L:=JE hzi;have _b:i<z.cells.size:=by omega
    have:=Q (w:=s1.w) (C:=s1.g.C) i c z.cells[i] hzi (by simp);exact⟨z.cells[i],by simp,.p _ _ this,this.one⟩)
 have fin: ∀{place:Nat->Option (Nat×Nat)},tP place parts ps.toList=O->
   ∃n,Instr.fill place z.cells (ps.toList.map λx=>(x.1,a.eval x.2))=Z n/\JH s1 r (.agg n):=by
  intro place D;obtain⟨U,k2⟩:=pw he h1 D;obtain⟨n,M,f2,f3⟩:=ny (s:=s1) (cells:=z.cells) hcs U (λk off size cs i v hk H=>by obtain⟨_a,W,T,V⟩:=k2 k off size cs i v hk H;exact⟨_a,W,T,λj y u S _e=>(V j y u S _e).mono hi _c⟩) (by grind [nc]) G;refine⟨n,M,?_⟩;have:=VB (s:=s1) (vs:=n.toList) h3 (by simpa using f2) (λv H=>by
    obtain⟨i,A⟩:=kN H;have A:n[i]?=Z v:=by simpa using A
    have L:=XZ A;obtain⟨u,_e,_,h1⟩:=f3 i cs[i] (by simp_all);simp_all)
   (λi y v S H=>by
    grind)
  simp_all
 have ac:(ps.map λx=>(x.1,a.eval x.2)).toList=ps.toList.map λx=>(x.1,a.eval x.2):=by simp
 split at ht;rename_i fs _e;simp only[bB]at ht;obtain⟨B,D⟩:=ht;obtain⟨n,M,hr⟩:=fin D;have a8:(λi=>(fs.map λf=>(f.offset,(szT P f.type).getD 0))[i]?)=IG P fs:=by
  funext i
  simp only[IG,Array.getElem?_map];cases hfi:fs[i]? with
  |none=>rfl
  |some f=>have:=fh.1 B f (Array.mem_of_getElem? hfi);cases hq:szT P f.type<;>simp[hq]at this⊢
 have a2:(fs.mapM λf=>do pure (f.offset,<-sizeOf f.type):Sem (Array (Nat×Nat))).run P s.w=.ok (fs.map λf=>(f.offset,(szT P f.type).getD 0)) s.w:=by
  rw[Array.mapM_eq_mapM_toList];simp only[Sem.run_map,qi (P:=P) (fs:=fs.toList) (λf hf=>fh.1 B f (by simpa using hf)),vC]
  congr 1
  grind
 have hf:Instr.fill (λi=>(fs.map λf=>(f.offset,(szT P f.type).getD 0))[i]?) z.cells (ps.map λx=>(x.1,a.eval x.2)).toList=Z n:=by simp_all
 have hb:(Instr.build t (ps.map λx=>(x.1,a.eval x.2))).run P s.w=.ok (.agg n) s.w:=by simp_all [Instr.build,IQ,run_underlying]
 refine jJ (e:=⟨r,iR os _m⟩) (v:=.agg n) (g':=R) ?_ i1 _c hr;simp_all [execOp];cases ht;cases q;cases q;cases hc
end
theorem Ru{_m:Nat}{env:List (Nat×AV)}{σ:List _w}: ∀{k _m:Nat} {u:Unit},(vQ _m k).run ⟨env,σ⟩=Z u-> ∀j,j<k->σ[_m+j]?=Z .dead
 |0,_,_,_,j,hj=>by omega
 |k+1,_m,u,h,j,hj=>by
  simp only[vQ,RM.run]at h;split at h;rename_i x e;cases x with
  |dead=>
   dsimp only at h;cases j with
   |zero=>exact e
   |succ j=>have:=Ru (_m:=0) h j (by omega);grind
  |box=>cases h
  |arr=>cases h
  cases h
section
variable {P:Program} {F:Orc} {s:Sn} {a:Act} {env:List (Nat×AV)} {o:Oper} {_m:Nat} {e:Eff}
theorem JQR(q:kX P F)(hi:Inv s)(he:bZ s a.tmps env){n:AOp}(h:(opD F n _m).run ⟨env,s.σ⟩=Z e)(hc:bG P n o.op=O):cB P o a s e:=by
 unfold opD at h;obtain⟨u,hd,h⟩:=bind_some h;have g:=Ru (_m:=0) hd;clear hd;have j:nW n=1->s.σ[_m]?=Z .dead:=λh1=>g 0 (by omega);cases n with
 |mv x=>grind [JQu]
 |mkarr _l x=>exact JJ4 hi (j rfl) h hc
 |pick=>grind [JLS]
 |newbox=>exact JHv hi (j rfl) h hc
 |box=>exact JNN hi he (j rfl) h hc
 |build=>grind [JJe]
 |lits=>grind [JMQ,nW]
 |load=>grind [JMY]
 |store=>grind [JJS]
 |nilchk=>grind [JGx]
 |bin op t x y=>cases t<;>grind [Ta,JBz,JC2,JCd,JBX,JCa]
 |un=>grind [JQm]
 |conv k x=>
  grind [JFb,nW,JML]
 |_D=>grind [JEE,nW]
 |slice=>grind [JJ3]
 |faddr=>grind [JJh]
 |field=>grind [JJs]
 |iaddr=>grind [JK9]
 |aaddr=>grind [JKx]
 |sidx=>grind [JM4]
 |aidx=>grind [JMN]
 |extr=>grind [JMS]
 |call=>exact JME q hi he g h hc
 |callv=>exact JID q hi he g h hc
 |len=>grind [JNI]
 |app=>grind [JO6]
 |appn=>exact JMO hi he (j rfl) h hc
 |mm=>grind [JQB]
 |mkfn=>grind [JM2]
 |newboxo=>exact JE0 hi g h hc
 |buildo=>exact JHu hi he g h hc
 |storen=>exact JH2 hi he (j rfl) h hc
 |callo=>exact JIJ q hi he g h hc
end
def DM(P:Program)(N:Nat)(ops:Array Oper)(i:cG)(o:Oper):Bool:=
 bG P i.op o.op&&i.dst==o.dst&&(match i.dst with
  |some d=>decide (d<N)
  |none=>O)&&(match i.g,o.guard with
  |none,Y=>O
  |some (g,w),Z (j,w')=>w==w'&&(ops[j]?).bind (·.dst)==Z g
  |_,_=>J)
def Sim(N:Nat)(E:Sn)(st:St)(a:Act)(w:World):Prop:=a.tmps.size=N/\a.defers=[]/\ ∃g,Inv ⟨st._o,g,w⟩/\bZ ⟨st._o,g,w⟩ a.tmps st.env/\bK E ⟨st._o,g,w⟩
theorem bZ.put{s:Sn}{tmps:Array Value}{env:List (Nat×AV)}(he:bZ s tmps env){d:Nat}(hd:d<tmps.size){x:AV}{v:Value}(hv:JH s x v):
  bZ s (tmps.setIfInBounds d v) ((d,x)::env):=by
 intro n y e;simp only[lk]at e;split at e;simp_all;rename_i g;obtain⟨u,h1,h2⟩:=he n y e;grind
theorem Sim.putd{N:Nat}{E:Sn}{st:St}{a:Act}{w w':World}{g g':Gh}{e:Eff}{v:Value}{d:Option Nat}
  (h1:a.tmps.size=N) (h2:a.defers=[]) (hi:Inv ⟨st._o,g,w⟩) (he:bZ ⟨st._o,g,w⟩ a.tmps st.env) (ht:bK E ⟨st._o,g,w⟩) (hd: ∀x,d=Z x->x<N)
  (j:Inv ⟨upd e.ws st._o,g',w'⟩) (h:bK ⟨st._o,g,w⟩ ⟨upd e.ws st._o,g',w'⟩) (hv:JH ⟨upd e.ws st._o,g',w'⟩ e.val v):
  Sim N E (Am.put d e st) (a.put d v) w':=by
 have k:=he.mono hi h;cases d with
 |none=>exact⟨h1,h2,g',j,k,ht.trans h⟩
 |some d=>exact⟨by grind [Act.put],h2,g',j,k.put (by simp_all) hv,ht.trans h⟩
section
variable {P:Program} {F:Orc} {N:Nat} {E:Sn} {st:St} {a:Act} {w:World} {ops:Array Oper} {i:cG} {o:Oper} {e:Eff} {_m k:Nat} {Q:Exit->Act->World->Prop} {K:Act->World->Prop}
theorem JEo{s:Sn}:JH s iC undef:=.tup _ _ rfl λi x v h=>by simp at h
theorem N2(C:kX P F)(hs:Sim N E st a w)(ho:ops[k]?=Z o)(hc:DM P N ops i o=O)(h:(cL F i _m).run st=Z e)
  (next: ∀a' w',Sim N E (Am.put i.dst e st) a' w'->K a' w'):wpOp P ops Q k K a w:=by
 obtain⟨h1,h2,g,hi,r,ht⟩:=hs;simp only[DM,bB,beq_iff_eq]at hc;obtain⟨⟨⟨hc,hd⟩,_e⟩,n⟩:=hc;have y: ∀x,i.dst=Z x->x<N:=(by grind);have run: ∀{e:Eff},(opD F i.op _m).run st=Z e->(∀a' w',Sim N E (Am.put i.dst e st) a' w'->K a' w')->o.wp P a w K Q:=(by intro e h next;refine JQR (s:=⟨st._o,g,w⟩) (env:=st.env) C hi r h hc K Q λv w' g' G H z=>next _ _ ?_;grind [Sim.putd]);have skip:(∀a' w',Sim N E (Am.put i.dst ⟨iC,[]⟩ st) a' w'->K a' w')->K (a.put o.dst undef) w:=by intro next;refine next _ _ ?_;rw[<-hd];exact Sim.putd (e:=⟨iC,[]⟩) h1 h2 hi r ht y hi (.refl _) JEo
 unfold wpOp;rw[ho];dsimp only;unfold cL at h;cases hig:i.g with
 |none=>
  grind [Region.wanted]
 |some D=>
  obtain⟨_d,B⟩:=D;rw[hig]at h n;cases hog:o.guard with
  |none=>simp_all
  |some x=>
   obtain⟨j,A⟩:=x;rw[hog]at n;simp only[bB,beq_iff_eq]at n;obtain⟨rfl,_c⟩:=n;simp only[RM.run]at h;split at h;rename_i v z;obtain⟨u,M,q⟩:=r _ _ z;split at h;rename_i b;cases q with
   |p _ _ q=>
    cases q with
    |b x=>
     have L:yielded ops a.tmps j=Z b:=by grind [yielded]
     grind [Region.wanted,RM.run]
   cases q with
   |tup _ vs hl _=>
    grind [yielded,Region.wanted,RM.run]
   cases h;cases h
end
theorem R8{σ:List _w}{n b:Nat}{x:_w}(h:(σ++_P n _w.dead)[b]?=Z x)(hx:x≠.dead):σ[b]?=Z x:=by
 grind
theorem Cf{σ:List _w}{n b:Nat}{x:_w}(h:σ[b]?=Z x):(σ++_P n _w.dead)[b]?=Z x:=by
 grind
theorem VV{σ:List _w}{g:Gh}{w:World}{n b r o:Nat}:Wr1 ⟨σ++_P n .dead,g,w⟩ b r o↔Wr1 ⟨σ,g,w⟩ b r o:=by
 grind [Wr1]
theorem py{σ:List _w}{g:Gh}{w:World}{n:Nat}:bK ⟨σ,g,w⟩ ⟨σ++_P n .dead,g,w⟩ where
 keep:=.refl _ _
 cmono _ _ h:=h
 cnew _ _ h:=.inl h
 wnew _ _ h:=let⟨b,hb⟩:=h;.inl ⟨b,VV.1 hb⟩
 len:=by simp
 box b cs h:=⟨⟨cs,Cf h,rfl⟩,rfl⟩
 arr b wm _l _f h:=⟨wm,_f,Cf h,id,zQ0 _,λ_=>rfl⟩
theorem JL0{σ:List _w}{g:Gh}{w:World}{n:Nat}(hi:Inv ⟨σ,g,w⟩):Inv ⟨σ++_P n .dead,g,w⟩:=by
 have t:=py (σ:=σ) (g:=g) (w:=w) (n:=n);refine⟨λb cs h=>?_,λb wm _l _f h=>?_,λb1 b2 r o h1 h2=>hi.apart b1 b2 r o (VV.1 h1) (VV.1 h2),λr o hc=>⟨(hi.const r o hc).1,λb hb=>(hi.const r o hc).2 b (VV.1 hb)⟩⟩;obtain⟨r,o,c,e,fz,A,D,B,y,q⟩:=hi.box b cs (R8 h (by simp));exact⟨r,o,c,e,fz,A,D,B,λi x C=>let⟨v,j,z,k⟩:=y i x C;⟨v,j,z.mono hi t,k⟩,q⟩;exact hi.arr b wm _l _f (R8 h (by simp))
theorem Sim.room{N:Nat}{E:Sn}{st:St}{a:Act}{w:World}(h:Sim N E st a w)(n:Nat):Sim N E ⟨st.env,room n st._o⟩ a w:=by
 unfold Am.room;split;exact h;obtain⟨h1,h2,g,hi,e,ht⟩:=h;exact⟨h1,h2,g,JL0 hi,e.mono hi py,ht.trans py⟩
theorem Sim.heap{N:Nat}{E:Sn}{st:St}{a:Act}{w w':World}(h:Sim N E st a w)(e:w'.heap=w.heap)(ho:w'.os=w.os)(hp:w'.output=w.output):Sim N E st a w':=by obtain⟨h1,h2,g,hi,k,ht⟩:=h;obtain⟨j,t'⟩:=Bu hi e ho hp;exact⟨h1,h2,g,j,k.mono hi t',ht.trans t'⟩
theorem Sim.congr{N:Nat}{E:Sn}{st st':St}{a:Act}{w:World}(h:Sim N E st a w)(he: ∀m,lk m st'.env=lk m st.env)(hs:st'._o=st._o):Sim N E st' a w:=by obtain⟨h1,h2,g,hi,e,ht⟩:=h;refine⟨h1,h2,g,?_⟩;rw[hs];exact⟨hi,λn x j=>e n x (by simp_all),ht⟩
def eV(P:Program)(N:Nat)(ops:Array Oper):List cG->List Oper->Bool|[],[]=>O|i::r,o::q=>DM P N ops i o&&eV P N ops r q|_,_=>J
def YC(x y:cG):Bool:=
 (match x.dst with
 |none=>O
 |some m=>y.dst !=Z m&& !(zU y).contains m)&&(match y.dst with
 |none=>O
 |some m=> !(zU x).contains m)
def WU(x y:cG):Bool:=(!CI x.op|| !MK y.op)&&(!CI y.op|| !MK x.op)
def NX:List Nat->List Nat->List Nat|[],acc=>acc|x::r,acc=>match acc.contains x with|true=>NX r acc|false=>NX r (x::acc)
theorem ol{i:Nat}: ∀{l acc:List Nat},i∈NX l acc->i∈l\/i∈acc
 |[],_,h=>.inr h
 |x::r,acc,h=>by
  simp only[NX]at h;split at h;exact(ol h).imp (fR _) id
  ·rcases ol h with h|h
   all_goals grind
def M8(l:List Nat):List Nat:=NX l []
theorem JIr{i:Nat}{l:List Nat}(h:i∈M8 l):i∈l:=(ol h).resolve_right (by simp)
def Nn(acc:List (List Nat))(o:Oper):List Nat:=M8<|(o.after.toList.filter λe=>Region.binds .any e).flatMap λe=>e.on::(acc[e.on]?).getD []
def xp(acc:List (List Nat)):List Oper->List (List Nat)|[]=>acc|o::r=>xp (acc++[Nn acc o]) r
def k9(e:List (List Nat))(pairs:List (Nat×Nat))(i j:Nat)(x y:cG):Bool:=
 ((e[j]?).getD []).contains i||(YC x y&&(WU x y||pairs.contains (i,j)))
def QC(e:List (List Nat))(pairs:List (Nat×Nat))(j:Nat)(y:cG):Nat->List cG->Bool|_,[]=>O|i,x::r=>(decide (j<=i)||k9 e pairs i j x y)&&QC e pairs j y (i+1) r
def VZ(e:List (List Nat))(pairs:List (Nat×Nat))(all:List cG):Nat->List cG->Bool|_,[]=>O|j,y::r=>QC e pairs j y 0 all&&VZ e pairs all (j+1) r
def WK:Nat->List Oper->Bool|_,[]=>O|j,o::r=>(o.after.all λe=> !Region.binds .any e||decide (e.on<j))&&WK (j+1) r
def yh(P:Program)(N:Nat)(draw:Bool)(pairs:List (Nat×Nat))(ins:List cG)(ops:Array Oper):Bool:=
 eV P N ops ins ops.toList&&(!draw||(WK 0 ops.toList&&VZ (xp [] ops.toList) pairs ins 0 ins))
section
variable {P:Program} {F:Orc} {N:Nat} {E:Sn} {st st':St} {a:Act} {w:World} {ops:Array Oper} {Q:Exit->Act->World->Prop}
theorem Bp: ∀{ins:List cG} {os:List Oper},eV P N ops ins os=O->ins.length=os.length/\ ∀(k:Nat) i,ins[k]?=Z i-> ∃o,os[k]?=Z o/\DM P N ops i o=O
 |[],[],_=>⟨rfl,by simp⟩
 |i::r,o::q,h=>by
  simp only[eV,bB]at h;obtain⟨h1,h2⟩:=Bp h.2;grind
 |[],_::_,h=>by grind [eV]
 |_::_,[],h=>by grind [eV]
theorem Cg(n:kX P F): ∀{r:List cG} {k _m:Nat} {st:St} {a:Act} {w:World},(∀(j:Nat) i,r[j]?=Z i-> ∃o,ops[k+j]?=Z o/\DM P N ops i o=O)->
  hC F r _m st=Z st'->Sim N E st a w->(∀a' w',Sim N E st' a' w'->Q .normal a' w')->wpOps P ops Q (List.range' k r.length) a w
 |[],k,_m,st,a,w,_,h,hs,next=>by simp only[hC]at h;cases h;exact next a w hs
 |i::r,k,_m,st,a,w,hc,h,hs,next=>by
  simp only[hC]at h;split at h;rename_i e x;obtain⟨o,q,g⟩:=hc 0 i rfl;rw[pH,List.range'_succ,wpOps_cons];refine N2 n hs q g x λa' w' hs'=>Cg n (λj i v=>?_) h hs' next;obtain⟨o,q,g⟩:=hc (j+1) i (by simpa using v);grind;cases h
theorem Ns: ∀{ins:List cG} {g:Nat} {st:St},hC F ins g st=Z st'->
  ∃(_m:Nat->Nat) (S:Nat->St) (eff:Nat->Eff),Run F ins _m S eff/\S 0=st/\S ins.length=st'
 |[],g,st,h=>by
  simp only[hC]at h;injection h with h;subst h;exact⟨λ_=>0,λ_=>st,λ_=>⟨iC,[]⟩,⟨by simp⟩,rfl,rfl⟩
 |i::r,g,st,h=>by
  simp only[hC]at h;split at h;rename_i e o;obtain⟨_m,S,eff,j,q,hl⟩:=Ns h;refine⟨fun|0=>g|k+1=>_m k,fun|0=>st|k+1=>S k,fun|0=>e|k+1=>eff k,⟨λk x n=>?_⟩,rfl,hl⟩;cases k with
  |zero=>simp_all
  |succ k=>exact j.step k x (by simpa using n)
  cases h
theorem N0: ∀{ins:List cG} {g:Nat} {st:St} {l l':Log},kW F ins g st l=Z (st',l')->
  ∃(_m:Nat->Nat) (S:Nat->St) (eff:Nat->Eff),Run F ins _m S eff/\S 0=st/\S ins.length=st'/\
   (∀k,k<l.length->l'[k]?=l[k]?)/\ ∀(k:Nat) i,ins[k]?=Z i->l'[l.length+k]?=Z (kY ((cL F i (_m k)).reads (S k)),(eff k).ws.map (·.1))
 |[],g,st,l,l',h=>by
  simp only[kW]at h;injection h with h;injection h with h1 h2;subst h1 h2;exact⟨λ_=>0,λ_=>st,λ_=>⟨iC,[]⟩,⟨by simp⟩,rfl,rfl,λ_ _=>rfl,by simp⟩
 |i::r,g,st,l,l',h=>by
  simp only[kW]at h;split at h
  ·rename_i e v;obtain⟨_m,S,eff,n,o,hl,q,w⟩:=N0 h;refine⟨fun|0=>g|k+1=>_m k,fun|0=>st|k+1=>S k,fun|0=>e|k+1=>eff k,⟨λk x j=>?_⟩,rfl,hl,λk hk=>?_,λk x j=>?_⟩
   cases k with
   |zero=>simp_all
   |succ k=>exact n.step k x (by simpa using j)
   all_goals grind
  cases h
theorem YG{b:Nat}: ∀{l:List Loc},Loc.blk b∈l->b∈kY l
 | .blk c::r,h=>by
  simp only[kY,cV]at*;rcases h with h|h;simp_all;exact .inr (YG h)
 | .slot n::r,h=>by simp only[kY];refine YG ?_;simpa using h
 |[],h=>by simp at h
theorem og{a b:List Nat}(h:hM a b=O){x:Nat}(hx:x∈a):x∉b:=by
 grind [hM]
theorem C6{l:Log}: ∀{ps:List (Nat×Nat)} {i j:Nat},IP l ps=O->(i,j)∈ps->
  ∃x y,l[i]?=Z x/\l[j]?=Z y/\hM x.2 y.1=O/\hM x.2 y.2=O/\hM x.1 y.2=O
 |[],i,j,_,h=>by simp at h
 |(p,q)::r,i,j,h,hm=>by
  simp only[IP,bB]at h;obtain⟨h1,h2⟩:=h;rcases cV.1 hm with e|e;grind;exact C6 h2 e
def lj(ops:Array Oper)(D:Nat->Bool)(k:Nat):Prop:= ∀o,ops[k]?=Z o-> ∀e∈o.after,Region.binds .any e=O->D e.on=O
def Nj(ops:Array Oper)(D:Nat->Bool):Prop:= ∀k,D k=O->lj ops D k
def uk(ops:Array Oper)(k i:Nat):Prop:= ∀D,Nj ops D->lj ops D k->D i=O
theorem Oq: ∀{os:List Oper} {acc:List (List Nat)},(∀(j:Nat) o,os[j]?=Z o->ops[acc.length+j]?=Z o)->(∀(k:Nat) l i,acc[k]?=Z l->i∈l->uk ops k i)->
  ∀(k:Nat) l i,(xp acc os)[k]?=Z l->i∈l->uk ops k i
 |[],acc,_,h=>h
 |o::r,acc,w,h=>by
  refine Oq (os:=r) (acc:=acc++[Nn acc o]) (λj x z=>?_) λk l i hk hi=>?_;have:=w (j+1) x (by simpa using z);grind;rcases VY hk with hk|⟨A,hk⟩;simp_all;have n:k=acc.length:=(by grind);subst n;simp at hk;subst hk;intro D hD y;replace hi:=JIr hi;simp only[List.mem_flatMap,List.mem_filter]at hi;obtain⟨e,⟨v,q⟩,hi⟩:=hi;have g:=y o (by simpa using w 0 o rfl) e (by simpa using v) q;rcases cV.1 hi with rfl|hi;exact g;cases hac:acc[e.on]? with
  |none=>simp_all
  |some l=>rw[hac]at hi;exact h _ l i hac hi D hD (hD _ g)
theorem Du{g:List (List Nat)}{pairs:List (Nat×Nat)}{j:Nat}{y:cG}: ∀{r:List cG} {e:Nat},QC g pairs j y e r=O-> ∀(k:Nat) x,r[k]?=Z x->e+k<j->k9 g pairs (e+k) j x y=O
 |[],e,_,k,x,n,_=>by simp at n
 |z::r,e,h,k,x,n,o=>by
  simp only[QC,bB,CM,decide_eq_true_eq]at h;cases k with
  |zero=>grind
  |succ k=>
   have:=Du h.2 k x (by simpa using n) (by omega);grind
theorem C3{g:List (List Nat)}{pairs:List (Nat×Nat)}{all:List cG}: ∀{r:List cG} {e:Nat},VZ g pairs all e r=O-> ∀(k:Nat) y,r[k]?=Z y->QC g pairs (e+k) y 0 all=O
 |[],e,_,k,y,j=>by simp at j
 |z::r,e,h,k,y,j=>by
  simp only[VZ,bB]at h;cases k with
  |zero=>simp_all
  |succ k=>
   have:=C3 h.2 k y (by simpa using j);grind
theorem Ds: ∀{r:List Oper} {g:Nat},WK g r=O-> ∀(k:Nat) o,r[k]?=Z o-> ∀e∈o.after,Region.binds .any e=O->e.on<g+k
 |[],g,_,k,o,j=>by simp at j
 |z::r,g,h,k,o,j=>by
  simp only[WK,bB]at h;cases k with
  |zero=>
   grind [Array.all_eq_true_iff_forall_mem]
  |succ k=>intro e n hb;have:=Ds h.2 k o (by simpa using j) e n hb;omega
theorem JJI{x y:cG}(h:YC x y=O):(∀m,x.dst=Z m->y.dst≠Z m/\m∉zU y)/\(∀m,y.dst=Z m->m∉zU x):=by
 grind [YC]
variable {ins:List cG} {_m:Nat->Nat} {S:Nat->St} {eff:Nat->Eff}
theorem JKF(hr:Run F ins _m S eff){i j:Nat}(hi:i<ins.length)(hj:j<ins.length)(h1:YC ins[i] ins[j]=O)
  (h2:WU ins[i] ins[j]=O\/(hM ((eff i).ws.map (·.1)) (kY ((cL F ins[j] (_m j)).reads (S j)))=O/\
   hM ((eff i).ws.map (·.1)) ((eff j).ws.map (·.1))=O/\hM (kY ((cL F ins[i] (_m i)).reads (S i))) ((eff j).ws.map (·.1))=O)):UF F ins _m S eff i j:=by
 obtain⟨s1,A⟩:=JJI h1;have n:ins[i]?=Z ins[i]:=bF hi;have k:ins[j]?=Z ins[j]:=bF hj;obtain⟨v,_⟩:=hr.step i _ n;obtain⟨q,_⟩:=hr.step j _ k;refine⟨λx y m g e o=>?_,λx y m g e o hl=>?_,λy b e hb=>?_,λx b g hb hl=>?_⟩;rw[n]at g;cases g;rw[k]at e;cases e;exact⟨(s1 m o).1,λhl=>(s1 m o).2 (Rs F _ _ _ _ hl)⟩;rw[n]at g;cases g;rw[k]at e;cases e;exact A m o (Rs F _ _ _ _ hl);rw[k]at e;cases e;rcases h2 with h2|⟨r,w,z⟩;simp only[WU,bB,CM,GT]at h2;rcases h2.1 with h|h;rw[lx F _ _ h _ _ v]at hb;simp at hb;refine⟨?_,Qz F _ _ h _ _ q b⟩;rw[lx F _ _ (Ng h) _ _ q];simp;exact⟨og w hb,λhl=>og r hb (YG hl)⟩;rw[n]at g;cases g;rcases h2 with h2|⟨r,w,z⟩;simp only[WU,bB,CM,GT]at h2;rcases h2.2 with h|h;rw[lx F _ _ h _ _ q]at hb;simp at hb;exact Qz F _ _ h _ _ v b hl;grind [og,YG]
def Dl(e:Array Bool):Nat->Bool:=λj=>e.getD j J
theorem Ou{e:Array Bool}{i:Nat}(hi:i<e.size):Dl (e.setIfInBounds i O)=λj=>if j=i then O else Dl e j:=by
 funext j
 unfold Dl;by_cases h:j=i
 all_goals simp_all [Ne.symm]
theorem Cz{l:Array Bool}{i:Nat}(hi:i<l.size)(h:l.getD i J=J):(l.setIfInBounds i O).count J+1=l.count J:=by
 have e:l[i]=J:=by simp_all
 grind [Array.getElem_mem]
theorem Da{l:Array Bool}(h:l.count J=0){i:Nat}(hi:i<l.size):l.getD i J=O:=by
 grind [Cz]
theorem Mp{l:Array Bool}: ∀m,m<=l.size->(∀j,j<m->Dl l j=O)\/ ∃k,k<m/\Dl l k=J/\ ∀j,j<k->Dl l j=O
 |0,_=>.inl λj e=>by omega
 |m+1,h=>by
  rcases Mp (l:=l) m (by omega)with h1|⟨k,a,b,c⟩
  all_goals grind
theorem JHA{l:Array Bool}{j:Nat}(hj:j<l.size):l.getD j O=l.getD j J:=by simp[hj]
theorem JQ3(V:kX P F)(hr:Run F ins _m S eff)(hlen:ins.length=ops.size)(hc: ∀(k:Nat) i,ins[k]?=Z i-> ∃o,ops[k]?=Z o/\DM P N ops i o=O)
  (D: ∀(k:Nat) o,ops[k]?=Z o-> ∀e∈o.after,Region.binds .any e=O->e.on<k)
  (H: ∀i j,i<j->j<ins.length->uk ops j i\/UF F ins _m S eff i j)
  (next: ∀a' w',Sim N E (S ins.length) a' w'->Q .normal a' w'):
  ∀(n:Nat) (g:Array Bool) (st:St) (a:Act) (w:World),g.size=ops.size->Agree ins eff (S 0) (Dl g) st->Sim N E st a w->Nj ops (Dl g)->g.count J=n->
   wpAny P .any ops Q n g a w:=by
 intro n
 induction n with
 |zero=>
  intro g st a w _e B hs r A;refine⟨?_,?_⟩;cases hre:Region.ready .any ops g with
  |nil=>rfl
  |cons j l=>
   exfalso;have h:j∈Region.ready .any ops g:=by rw[hre];simp
   grind [mem_ready,Da]
  ·obtain⟨e1,_a⟩:=JGW hr B λj x=>Da A (by omega);exact next a w (hs.congr (λm=>(e1 m).symm) _a.symm)
 |succ n ih=>
  intro g st a w _e B hs r A;refine⟨λW=>?_,λk hk=>?_⟩;exfalso;rcases Mp (l:=g) ops.size (by omega)with z|⟨k,hk,C,_d⟩;have:g.count J=0:=(by rw[Array.count_eq_zero];intro h;obtain⟨i,hi,y⟩:=Array.getElem_of_mem h;have:=z i (by omega);unfold Dl at this;simp[hi,y]at this);omega;have h:k∈Region.ready .any ops g:=(by rw[mem_ready];refine⟨by rw[JHA (by omega)];exact C,ops[k],by simp[hk],λe y hb=>?_⟩;exact _d _ (D k ops[k] (by simp[hk]) e y hb));simp_all;obtain⟨h1,o,T,z⟩:=mem_ready.1 hk;have U:k<ops.size:=(Array.getElem?_eq_some_iff.1 T).1;have C:Dl g k=J:=by grind [Dl]
  have L:ins[k]?=Z (ins[k]'(by omega)):=bF _;obtain⟨o',R,M⟩:=hc k _ L;have q:lj ops (Dl g) k:=by intro K v e y hb;rw[T]at v;cases v;exact z e y hb
  obtain⟨_b,r2⟩:=JKa hr B L C (λj x hDj=>by
   rcases H j k x (by omega)with h|h;have:=h _ r q;simp_all;exact h) (λj x _c hDj=>by
   rcases H k j x _c with h|h;have:=h _ r (r j hDj);simp_all;exact h)
  refine N2 V hs R M _b λa' w' hs'=>ih _ _ a' w' (by simp[_e]) ?_ hs' ?_ ?_;grind [Ou];rw[Ou (by omega)];intro j x K v e y hb;dsimp only at x⊢;have h:Dl g e.on=O->(if e.on=k then O else Dl g e.on)=O:=by simp_all
  by_cases G:j=k;subst G;exact h (q K v e y hb);rw[if_neg G]at x;exact h (r j x K v e y hb);grind [Cz]
theorem JOl(V:kX P F)(H:P.follows .mixedOrders=O){id:Nat}{draw:Bool}{pairs:List (Nat×Nat)}{ins:List cG}(h:region F pairs ins st=Z st')
  (hc:yh P N draw pairs ins ops=O) (hs:Sim N E st a w) (next: ∀a' w',Sim N E st' a' w'->Q .normal a' w'):(Code.region id ops draw).wp P Q a w:=by
 simp only[yh,bB,CM,GT]at hc;obtain⟨K,B⟩:=hc;obtain⟨hlen,G⟩:=Bp K;have hlen:ins.length=ops.size:=by simp_all
 have G: ∀(k:Nat) i,ins[k]?=Z i-> ∃o,ops[k]?=Z o/\DM P N ops i o=O:=λk i hi=>by simp_all
 have _c:=hs.room (news ins);have _d: ∃(_m:Nat->Nat) (S:Nat->St) (eff:Nat->Eff),Run F ins _m S eff/\S 0=⟨st.env,room (news ins) st._o⟩/\S ins.length=st'/\
   ∀i j,(i,j)∈pairs-> ∃x y,ins[i]?=Z x/\ins[j]?=Z y/\hM ((eff i).ws.map (·.1)) (kY ((cL F y (_m j)).reads (S j)))=O/\
   hM ((eff i).ws.map (·.1)) ((eff j).ws.map (·.1))=O/\hM (kY ((cL F x (_m i)).reads (S i))) ((eff j).ws.map (·.1))=O:=by
  unfold region at h;split at h;grind [Ns];split at h;rename_i s' l n;split at h;rename_i hp;cases h;obtain⟨_m,S,eff,D,C,hl,_,q⟩:=N0 n;refine⟨_m,S,eff,D,C,hl,λi j hm=>?_⟩;obtain⟨x,y,U,T,d1,d2,d3⟩:=C6 hp hm;have M: ∀(k:Nat) z,l[k]?=Z z->k<ins.length:=by
   intro k z hk;have:=JE hk;have a2:l.length=ins.length:=by
    clear q D C hl hp U T;have: ∀{r:List cG} {e:Nat} {s0:St} {A v:Log} {s1:St},kW F r e s0 A=Z (s1,v)->v.length=A.length+r.length:=by
     intro r
     induction r with
     |nil=>simp[kW]
     |cons i r ih=>
      grind [kW]
    grind
   omega
  have hi:=M i x U;have g:=M j y T;have L:ins[i]?=Z ins[i]:=bF hi;have _e:ins[j]?=Z ins[j]:=bF g;have W:=q i _ L;have _b:=q j _ _e;simp only[List.length_nil,qX]at W _b;grind;cases h;cases h
 obtain⟨_m,S,eff,D,C,hl,hp⟩:=_d;cases draw with
 |false=>
  refine wp_region ?_;rw[List.range_eq_range',<-hlen];have a3: ∃e,hC F ins e ⟨st.env,room (news ins) st._o⟩=Z st':=by
   unfold region at h;split at h;grind;split at h;rename_i s' l n;split at h;cases h;have: ∀{r:List cG} {e:Nat} {s0:St} {A v:Log} {s1:St},kW F r e s0 A=Z (s1,v)->hC F r e s0=Z s1:=by
    intro r
    induction r with
    |nil=>intro e s0 A v s1 h;simp only[kW]at h;injection h with h;injection h with h1 h2;subst h1;rfl
    |cons i r ih=>
     grind [kW,hC]
   grind;cases h;cases h
  grind [Cg]
 |true=>
  obtain⟨he,hd⟩:=B.resolve_left (by simp);refine wp_region_any H ?_;have R:Sim N E (S 0) a {w with drawn:=w.drawn+1}:=by rw[C];exact _c.heap rfl rfl rfl
  refine JQ3 V D hlen G (λk o _a=>?_) (λi j hij g=>?_) (by simp_all) ops.size _ (S 0) a _ (by simp) ?_ R ?_ ?_;have:=Ds he k o (by simpa using _a);simp_all;have L:ins[i]?=Z (ins[i]'(by omega)):=bF _;have _e:ins[j]?=Z ins[j]:=bF g;have h1:=C3 hd j _ _e;rw[qX]at h1;have h2:=Du h1 i _ L (by omega);rw[qX]at h2;simp only[k9,CM,bB]at h2;rcases h2 with h2|⟨h2,h3⟩;grind [Oq];grind [JKF];have:Dl (Array.replicate ops.size J)=λ_=>J:=by
   funext j;unfold Dl;simp[Array.getElem?_replicate];split<;>rfl
  rw[this];exact JBW;intro j g;unfold Dl at g;simp[Array.getElem?_replicate]at g;grind;simp
end
def dM(P:Program)(N:Nat):cP->Code->Bool
 | .bad,_=>O
 | .skip,c=>match c with| .skip=>O| .label _=>O|_=>J
 | .reg draw pairs ins,c=>match c with| .region _ ops d=>draw==d&&yh P N draw pairs ins ops|_=>J
 | .seq a b,c=>match c with| .seq x y=>dM P N a x&&dM P N b y|_=>J
 | .cond o a b,c=>match c with| .cond p x y=>cD o p&&dM P N a x&&dM P N b y|_=>J
 | .block id a,c=>match c with| .block e x=>id==e&&dM P N a x|_=>J
 | .loop _ a,c=>match c with| .loop x=>dM P N a x|_=>J
 | .lp _ _ _,_=>J
 | .scope a,c=>match c with| .scope x=>dM P N a x|_=>J
 | .exit id,c=>match c with| .exit e=>id==e|_=>J
 | .ret,c=>match c with| .ret=>O|_=>J
 | .keep _ a,c=>dM P N a c
 | .tidy _ a,c=>dM P N a c
 | .br _ pre o a b rest,c=>match c with| .seq (.seq p (.cond q x y)) z=>dM P N pre p&&cD o q&&dM P N a x&&dM P N b y&&dM P N rest z|_=>J
def tI:AX->Exit| .normal=>.normal| .exit id=>.exit id| .ret=>.ret
def PM(P:Program)(c:cP)(st:St)(r:Out):Prop:=
 match c with
 | .lp n _ b=> ∃k,∀(N:Nat) (e:Code) (E:Sn) (a:Act) (w:World) (Q:Exit->Act->World->Prop),dM P N b e=O->E.σ.length<=n->n<=st._o.length->Sim N E st a w->
   (∀a' w',Sim N E r.2 a' w'->Q (tI r.1) a' w')->Code.rounds P e Q k a w
 |c=> ∀(N:Nat) (e:Code) (E:Sn) (a:Act) (w:World) (Q:Exit->Act->World->Prop),dM P N c e=O->Sim N E st a w->
  (∀a' w',Sim N E r.2 a' w'->Q (tI r.1) a' w')->e.wp P Q a w
theorem PM.get{P:Program}{c:cP}{st:St}{r:Out}(h:PM P c st r){N:Nat}{e:Code}{E:Sn}{a:Act}{w:World}{Q:Exit->Act->World->Prop}(hc:dM P N c e=O)(hs:Sim N E st a w)
  (next: ∀a' w',Sim N E r.2 a' w'->Q (tI r.1) a' w'):e.wp P Q a w:=by
 cases c<;>first|exact h N e E a w Q hc hs next|grind [dM]
theorem WP{env:List (Nat×AV)}{n:Nat}{x:AV}: ∀{live:List Nat},lk n (restr live env)=Z x->lk n env=Z x
 |[],h=>by grind [restr,lk]
 |k::r,h=>by
  simp only[restr]at h;split at h;rename_i v e;simp only[lk]at h;split at h;simp_all;exact WP h;exact WP h
theorem P7{m:Nat}{_o:List _w}{n:Nat}{y:AV}: ∀{env g:List (Nat×AV)},xS m _o env=Z g->lk n g=Z y-> ∃x,lk n env=Z x/\fin m [] _o x=Z y
 |[],g,h,hy=>by grind [xS,lk]
 |(k,x)::r,g,h,hy=>by
  simp only[xS]at h;split at h;rename_i z l o hl;cases h;simp only[lk]at hy⊢;split at hy;simp_all;rename_i e;obtain⟨j,h1,h2⟩:=P7 hl hy;simp_all;cases h
section
variable {P:Program} {N:Nat} {E:Sn} {st st':St} {a:Act} {w:World}
theorem Sim.restr(h:Sim N E st a w)(live:List Nat):Sim N E ⟨restr live st.env,st._o⟩ a w:=by obtain⟨h1,h2,g,hi,e,ht⟩:=h;exact⟨h1,h2,g,hi,λn x j=>e n x (WP j),ht⟩
theorem WO{n:Nat}{live:List Nat}(h:Sim N E st a w)(hc:clean n live st=Z st')(q:E.σ.length<=n)(hn:n<=st._o.length):Sim N E st' a w/\st'._o.length=n:=by
 unfold clean at hc;split at hc;rename_i e;cases hc;exact⟨h.restr live,e⟩;split at hc;rename_i ev l o hl;cases hc;obtain⟨h1,h2,g,hi,z,ht⟩:=h;obtain⟨C,D⟩:=YE hl;have hlen:l.length=n:=by simp_all
 have j:xq ⟨st._o,g,w⟩ n [] l:=(by refine⟨hi,hn,List.nodup_nil,λb hb=>by simp at hb,by simp[hlen],λk x hk=>?_⟩;grind [wA]);refine⟨⟨h1,h2,(lU ⟨st._o,g,w⟩ n [] l).g,Pf j,λk y r=>?_,B1 j ht q⟩,hlen⟩;obtain⟨x,A,hf⟩:=P7 o r;obtain⟨v,B,hrel⟩:=z k x (WP A);exact⟨v,B,kz j hrel hf⟩;cases hc
def qD(P:Program):List xT->List ResultVar->Bool|[],[]=>O| .tmp t::r,.tmp t'::q=>t==t'&&qD P r q| .cell t agg size::r,.cell t' ty::q=>t==t'&&agT P ty==Z agg&&szT P ty==Z size&&qD P r q|_,_=>J
def ff(tmps:Array Value):ResultVar->Sem Value| .tmp t=>pure (tmps.getD t undef)| .cell a t=>do loadVar t (<-asAddr (tmps.getD a undef))
theorem la{s:Sn}{env:List (Nat×AV)}{tmps:Array Value}(hi:Inv s)(he:bZ s tmps env): ∀{A:List xT} {B:List ResultVar} {vs:List AV},qD P A B=O->(pJ A).run ⟨env,s.σ⟩=Z vs->
  ∃g:List Value,(B.mapM (ff tmps)).run P s.w=.ok g s.w/\vs.length=g.length/\ ∀(i:Nat) x v,vs[i]?=Z x->g[i]?=Z v->JH s x v
 |[],[],vs,_,h=>by simp_all [pJ,RM.run]
 | .tmp t::r,.tmp t'::q,vs,hc,h=>by
  simp only[qD,bB,beq_iff_eq]at hc;obtain⟨rfl,hc⟩:=hc;simp only[pJ]at h;obtain⟨x,h1,h⟩:=bind_some h;obtain⟨l,h2,h⟩:=bind_some h;simp only[RM.run]at h;cases h;simp only[RM.run]at h1;split at h1;rename_i y n;cases h1;obtain⟨v,L,D⟩:=he _ _ n;obtain⟨g,E,k,F⟩:=la hi he hc h2;refine⟨v::g,?_,by simp[k],λi x u K _e=>?_⟩;simp_all [ff];grind;cases h1
 | .cell t agg size::r,.cell t' ty::q,vs,hc,h=>by
  simp only[qD,bB,beq_iff_eq]at hc;obtain⟨⟨⟨rfl,M⟩,C⟩,hc⟩:=hc;simp only[pJ]at h;obtain⟨x,h1,h⟩:=bind_some h;obtain⟨e,_d,h⟩:=bind_some h;obtain⟨l,h2,h⟩:=bind_some h;simp only[RM.run]at h;cases h;simp only[RM.run]at h1;split at h1;rename_i y n;cases h1;obtain⟨v,L,D⟩:=he _ _ n;obtain⟨g,E,k,F⟩:=la hi he hc h2;obtain⟨G,o,ws,R,N,H,_,_c⟩:=B2 hi _d D;obtain⟨Q,S⟩:=Dq (P:=P) M C N H;have j: ∃u,(loadVar ty ⟨G,o,Y⟩).run P s.w=.ok u s.w/\JH s e.val u:=(by grind);obtain⟨u,_e,hrel⟩:=j;refine⟨u::g,?_,by simp[k],λi x z K C=>?_⟩;simp_all [ff,asAddr];grind;cases h1
 |[],_::_,_,hc,_=>by grind [qD]
 | .tmp _::_,[],_,hc,_=>by grind [qD]
 | .cell _ _ _::_,[],_,hc,_=>by grind [qD]
 | .tmp _::_,.cell _ _::_,_,hc,_=>by grind [qD]
 | .cell _ _ _::_,.tmp _::_,_,hc,_=>by grind [qD]
theorem XR{m:Nat}{fresh:Bool}{_o:List _w}: ∀{es:List _z},∀b∈kZ m fresh _o es,m<=b
 |[],b,h=>by grind [kZ]
 | .elem _ _ _::r,b,h=>XR (es:=r) b (by simpa[kZ]using h)
 | .whole c::r,b,h=>by
  simp only[kZ]at h;split at h;exact XR (es:=r) b h;rename_i hc;have e:b∈c::kZ m fresh _o r->m<=b:=(by intro h;rcases cV.1 h with rfl|h;omega;exact XR (es:=r) b h);grind
theorem Pb{s:Sn}{vs:List AV}{e:List Value}(hl:vs.length=e.length)(hr: ∀(i:Nat) x v,vs[i]?=Z x->e[i]?=Z v->JH s x v):
  JH s (one vs) (if h:e.toArray.size=1 then e.toArray[0]else .tuple e.toArray):=by
 by_cases h:e.toArray.size=1;rw[dif_pos h];cases e with
 |nil=>simp at h
 |cons u q=>
  cases vs with
  |nil=>simp at hl
  |cons x p=>
   have g:q=[]:=by simpa using h
   subst g;have hp:p=[]:=by simpa using hl
   subst hp;exact hr 0 x u rfl rfl
 rw[dif_neg h];have:one vs=.tup vs:=by
  match vs,hl with
  |[],_=>rfl
  |[x],hl=>simp_all
  |_::_::_,_=>rfl
 rw[this];exact .tup _ _ (by simpa using hl) λi x v k j=>hr i x v k (by simpa using j)
theorem B8{e:AFn}{fn:Func}{m:Nat}{r:Res}(hs:Sim N E st a w)(hm:E.σ.length=m)(h:iU e m st=Z r)(hc:qD P e.res fn.results.toList=O):
  a.defers=[]/\ ∃v,(results fn a.tmps).run P w=.ok v w/\ ∃g',Inv ⟨r.2,g',w⟩/\bK E ⟨r.2,g',w⟩/\JH ⟨r.2,g',w⟩ r.1 v:=by
 obtain⟨h1,h2,g,hi,_e,ht⟩:=hs;refine⟨h2,?_⟩;unfold iU at h;cases hvs:(pJ e.res).run st with
 |none=>simp_all
 |some vs=>
  rw[hvs]at h;dsimp only at h;obtain⟨y,_c,U,G⟩:=la (P:=P) (s:=⟨st._o,g,w⟩) (env:=st.env) hi _e hc hvs;have n:(results fn a.tmps).run P w=.ok (if h:y.toArray.size=1 then y.toArray[0]else .tuple y.toArray) w:=by
   have:results fn a.tmps=(do
    let vs<-fn.results.mapM (ff a.tmps)
    pure (if h:vs.size=1 then vs[0]else .tuple vs)):=rfl
   simp_all [Array.mapM_eq_mapM_toList]
  refine⟨_,n,?_⟩;split at h;grind [Pb];split at h;rename_i B;have z:=XR (m:=m) (fresh:=e.fresh) (_o:=st._o) (es:=sT st._o (dA.entsOfL vs []) (dA.entsOfL vs []));generalize kZ m e.fresh st._o (sT st._o (dA.entsOfL vs []) (dA.entsOfL vs []))=_p at*;split at h;rename_i ws l q A hl H;split at h;rename_i q' C;cases h;obtain⟨V,K⟩:=wI A;obtain⟨b1,b2⟩:=YE hl;obtain⟨S,T⟩:=C7 H;obtain⟨R,Q⟩:=YE C;have D:m<=st._o.length:=by rw[<-hm];exact ht.len
  have hlen:l.length=m:=by simp_all
  have o:xq ⟨st._o,g,w⟩ m _p (l++q'):=(by refine⟨hi,D,XY B,z,by simp;omega,λk x hk=>?_⟩;rcases VY hk with hk|⟨L,hk⟩;grind [wA];grind [gB]);refine⟨_,Pf o,B1 o ht (by omega),Pb (by omega) λi x v F _d=>?_⟩;have M:=JE F;have j:vs[i]?=Z (vs[i]'(by omega)):=bF _;exact kz o (G i _ v j _d) (K i _ x j F);cases h;cases h;cases h
def mT(P:Program)(f:FuncId)(e:AFn):Bool:=
 match P.funcs[f]? with
 |none=>J
 |some fn=>match fn.body with
  |none=>J
  |some g=>fn.name != "runtime.NumGoroutine" &&e.nt==e.np+(fn.ntmps-e.np)&&qD P e.res fn.results.toList&&dM P e.nt e.body g
theorem ml: ∀{args:List AV} {k n:Nat} {x:AV},lk n (kL k args)=Z x->k<=n/\args[n-k]?=Z x
 |[],k,n,x,h=>by grind [kL,lk]
 |y::r,k,n,x,h=>by
  simp only[kL,lk]at h;split at h;simp_all;rename_i e;obtain⟨h1,h2⟩:=ml h;grind
end
section
variable {P:Program} {T:dS}
theorem JJl{f:FuncId}{j:AFn}{args:List AV}{_q:List _w}{r:Res}(hc:mT P f j=O)(H:args.length=j.np)
  (h: ∀(k:Code) (g:Gh) (w:World) (a:Act) (Q:Exit->Act->World->Prop),dM P j.nt j.body k=O->Sim j.nt ⟨_q,g,w⟩ ⟨kL 0 args,_q⟩ a w->
   (∀e s a' w',(e=.normal\/e=.ret)->iU j _q.length s=Z r->Sim j.nt ⟨_q,g,w⟩ s a' w'->Q (tI e) a' w')->k.wp P Q a w):J60 P f args _q r:=by
 unfold mT at hc;split at hc;cases hc;rename_i fn z;split at hc;cases hc;rename_i k hb;simp only[bB,beq_iff_eq,bne_iff_ne,ne_eq]at hc;obtain⟨⟨⟨C,G⟩,D⟩,y⟩:=hc;refine⟨⟨fn,z,by simp[hb],by simp_all⟩,λg w vals hinv hlen hrel=>?_⟩;refine calls_of_wp z hb ?_;have B:Sim j.nt ⟨_q,g,w⟩ ⟨kL 0 args,_q⟩ {tmps:=vals++Array.replicate (fn.ntmps-vals.size) undef,defers:=[]} w:=(by refine⟨by simp;omega,rfl,g,hinv,λn x q=>?_,.refl _⟩;obtain⟨_,q⟩:=ml q;rw[uT]at q;have F:=JE q;refine⟨vals[n]'(by omega),?_,hrel n x _ q (GO _)⟩;grind);have fin: ∀{s},iU j _q.length s=Z r-> ∀a' w',Sim j.nt ⟨_q,g,w⟩ s a' w'->a'.defers=[]/\ ∃v,(results fn a'.tmps).run P w'=.ok v w'/\ ∃A g',Ending.returned v=.returned A/\
   Inv ⟨r.2,g',w'⟩/\bK ⟨_q,g,w⟩ ⟨r.2,g',w'⟩/\JH ⟨r.2,g',w'⟩ r.1 A:=by
  grind [B8]
 refine h k g w _ _ y B λe s a' w' E o hs=>?_;rcases E with rfl|rfl;exact fin o a' w' hs;exact fin o a' w' hs
theorem JKy{R:cP->St->Option Out}(ih: ∀c s r,R c s=Z r->PM P c s r){f:FuncId}{k:lN}{args:List AV}{_q:List _w}{r:Res}(hc:mT P f k.af=O)(_e:args.length=k.np)
  (h:vJ R k args _q=Z r):J60 P f args _q r:=by
 refine JJl hc _e λn g w a Q j y fin=>?_;simp only[lN.af]at j fin y;cases n<;>simp only[dM,fK]at j;rename_i N M;simp only[bB]at j;obtain⟨D,q⟩:=j;unfold vJ at h;split at h
 rename_i s0 G;split at h;rename_i s1 A;refine wp_seq ((ih _ _ _ G).get D y λa0 w0 x=>?_);split at q;rename_i cp F _b W _c;simp only[bB]at q;obtain⟨⟨⟨⟨hp,_d⟩,hx⟩,_a⟩,U⟩:=q;simp only[tI,Exit.then];refine wp_seq (wp_seq ((ih _ _ _ A).get hp x λC B x=>?_));have V: ∀{c:cP} {n:Code},dM P k.nt c n=O->uS k.af _q.length (thn (R c s1) λs=>R k.rest s)=Z r->
   n.wp P (Exit.then (_c.wp P Q) Q) C B:=by
  intro c n hc ht;cases hR:R c s1 with
  |none=>rw[hR]at ht;cases ht
  |some o=>
   obtain⟨e,E⟩:=o;rw[hR]at ht;refine(ih _ _ _ hR).get hc x λa' w' hs'=>?_;cases e with
   |normal=>
    simp only[thn]at ht;cases hR2:R k.rest E with
    |none=>rw[hR2]at ht;cases ht
    |some S=>
     obtain⟨T,H⟩:=S;rw[hR2]at ht;simp only[tI,Exit.then];refine(ih _ _ _ hR2).get U hs' λa' w' hs'=>?_;cases T with
     |normal=>exact fin .normal H a' w' (.inl rfl) ht hs'
     |ret=>exact fin .ret H a' w' (.inr rfl) ht hs'
     |exit id=>cases ht
   |exit id=>cases ht
   |ret=>exact fin .ret E a' w' (.inr rfl) ht hs'
 have z:=x;obtain⟨_,_,g,hi,K,_⟩:=z;simp only[tI,Exit.then];split at h;rename_i b hb;have hrel:=bW (s:=⟨s1._o,g,B⟩) (env:=s1.env) K hb _d;generalize L:C.eval F=v at hrel;cases hrel with
 |p _ _ hrel=>cases hrel<;>grind [wp_cond]
 rename_i hb;have hrel:=bW (s:=⟨s1._o,g,B⟩) (env:=s1.env) K hb _d;generalize L:C.eval F=v at hrel;cases hrel with
 |unk t=>
  refine wp_cond L ?_;unfold OD at h;grind
 cases h;cases q;cases h;cases h
theorem Ax{R:cP->St->Option Out}(ih: ∀c s r,R c s=Z r->PM P c s r)(C: ∀f e,T f=Z (.fn e)->mT P f e=O)
  (_e: ∀f g,T f=Z (.prim g)-> ∀args _q r,g args _q=Z r->J60 P f args _q r) (H: ∀f k,T f=Z (.fork k)->mT P f k.af=O):kX P (rH T R):=by
 intro f args _q r h;unfold rH at h;cases hTf:T f with
 |none=>simp_all
 |some en=>
  rw[hTf]at h;cases en with
  |prim g=>simp_all
  |fork k=>
   grind [JKy]
  |fn e=>
   dsimp only at h;split at h;rename_i F;have hc:=C f e hTf;unfold mT at hc;split at hc;cases hc;rename_i fn y;split at hc;cases hc;rename_i B hb;simp only[bB,beq_iff_eq,bne_iff_ne,ne_eq]at hc;obtain⟨⟨⟨A,G⟩,D⟩,j⟩:=hc;refine⟨⟨fn,y,by simp[hb],by simp_all⟩,λg w vals hinv hlen hrel=>?_⟩;refine calls_of_wp y hb ?_;have q:Sim e.nt ⟨_q,g,w⟩ ⟨kL 0 args,_q⟩ {tmps:=vals++Array.replicate (fn.ntmps-vals.size) undef,defers:=[]} w:=(by refine⟨by simp;omega,rfl,g,hinv,λn x o=>?_,.refl _⟩;obtain⟨_,o⟩:=ml o;rw[uT]at o;have E:=JE o;refine⟨vals[n]'(by omega),?_,hrel n x _ o (GO _)⟩;grind);have fin: ∀{s},iU e _q.length s=Z r-> ∀a' w',Sim e.nt ⟨_q,g,w⟩ s a' w'->a'.defers=[]/\ ∃v,(results fn a'.tmps).run P w'=.ok v w'/\ ∃z g',Ending.returned v=.returned z/\
     Inv ⟨r.2,g',w'⟩/\bK ⟨_q,g,w⟩ ⟨r.2,g',w'⟩/\JH ⟨r.2,g',w'⟩ r.1 z:=by
    grind [B8]
   split at h;rename_i s hR;exact(ih _ _ _ hR).get j q λa' w' hs=>fin h a' w' hs;rename_i s hR;exact(ih _ _ _ hR).get j q λa' w' hs=>fin h a' w' hs;cases h;cases h
theorem JLW(_a:P.follows .mixedOrders=O)(hT: ∀f af,T f=Z (.fn af)->mT P f af=O)
  (hP: ∀f g,T f=Z (.prim g)-> ∀args _q r,g args _q=Z r->J60 P f args _q r) (hK: ∀f k,T f=Z (.fork k)->mT P f k.af=O): ∀c s r,X T c s=Z r->PM P c s r:=by
 refine JRp T _ ?_;intro R ih c s r h;have hF:kX P (rH T R):=Ax ih hT hP hK;cases c with
 |skip=>
  simp only[step]at h;cases h;intro N j E a w Q hc hs next;cases j<;>first
   |exact wp_skip (next a w hs)
   |exact wp_label (next a w hs)
   |grind [dM]
 |bad=>grind [step]
 |reg d pairs ins=>
  simp only[step]at h;split at h;rename_i s' W;cases h;intro N j E a w Q hc hs next;cases j<;>simp only[dM,fK]at hc;simp only[bB,beq_iff_eq]at hc;obtain⟨rfl,hc⟩:=hc;exact JOl hF _a W hc hs next
  cases h
 |seq x y=>
  simp only[step]at h;intro N j E a w Q hc hs next;cases j<;>simp only[dM,fK]at hc;simp only[bB]at hc;refine wp_seq ?_;split at h
  rename_i s' A;refine(ih _ _ _ A).get hc.1 hs λa' w' hs'=>?_;exact(ih _ _ _ h).get hc.2 hs' next;rename_i S;refine(ih _ _ _ h).get hc.1 hs λa' w' hs'=>?_;obtain⟨e,s'⟩:=r;cases e with
  |normal=>simp_all
  |exit id=>exact next a' w' hs'
  |ret=>exact next a' w' hs'
 |cond c x y=>
  simp only[step]at h;intro N j E a w Q hc hs next;cases j<;>simp only[dM,fK]at hc;simp only[bB]at hc;obtain⟨⟨U,A⟩,hy⟩:=hc;have hs':=hs;obtain⟨_,_,g,hi,z,_⟩:=hs';split at h
  rename_i b hb;have hrel:=bW (s:=⟨s._o,g,w⟩) (env:=s.env) z hb U;generalize F:a.eval _=v at hrel;cases hrel with
  |p _ _ hrel=>
   cases hrel with
   |b=>
    refine wp_cond F ?_;cases b with
    |true=>exact(ih _ _ _ (by simpa using h)).get A hs next
    |false=>exact(ih _ _ _ (by simpa using h)).get hy hs next
  rename_i hb;have hrel:=bW (s:=⟨s._o,g,w⟩) (env:=s.env) z hb U;generalize F:a.eval _=v at hrel;cases hrel with
  |unk t=>
   refine wp_cond F ?_;unfold same at h;split at h;rename_i r1 r2 e1 e2;split at h;rename_i _e;cases h;cases t with
   |true=>exact(ih _ _ _ e1).get A hs next
   |false=>rw[_e]at next;exact(ih _ _ _ e2).get hy hs next
   cases h;cases h
  cases h
 |block id x=>
  simp only[step]at h;intro N j E a w Q hc hs next;cases j<;>simp only[dM,fK]at hc;simp only[bB,beq_iff_eq]at hc;obtain⟨rfl,hc⟩:=hc;refine wp_block ?_;split at h
  rename_i k s' A;refine(ih _ _ _ A).get hc hs λa' w' hs'=>?_;grind [tI,Exit.inBlock];rename_i S;refine(ih _ _ _ h).get hc hs λa' w' hs'=>?_;obtain⟨e,s'⟩:=r;cases e with
  |normal=>exact next a' w' hs'
  |exit id=>simp_all
  |ret=>exact next a' w' hs'
 |loop live x=>
  simp only[step]at h;intro N j E a w Q hc hs next;cases j<;>simp only[dM,fK]at hc;split at h
  rename_i s' q;obtain⟨k,hk⟩:=ih _ _ _ h;have D:E.σ.length<=s._o.length:=by obtain⟨_,_,g,_,_,ht⟩:=hs;exact ht.len
  obtain⟨hs',hl⟩:=WO hs q D (zQ0 _);exact wp_loop_rounds k (hk N _ E a w Q hc D (by omega) hs' next);cases h
 |lp n live x=>
  simp only[step]at h;split at h
  ·rename_i s' A;split at h
   ·rename_i al q;obtain⟨k,hk⟩:=ih _ _ _ h;refine⟨k+1,λN j E a w Q hc D hn hs next=>?_⟩;rw[rounds_succ];obtain⟨h1,h2,g,hi,z,ht⟩:=hs;have B:Sim N ⟨s._o,g,w⟩ s a w:=⟨h1,h2,g,hi,z,.refl _⟩;refine(ih _ _ _ A).get hc B λa' w' hs'=>?_;obtain⟨L,_d,g',G,H,C⟩:=hs';have hlen:s._o.length<=s'._o.length:=C.len;have a4:Sim N E s' a' w':=⟨L,_d,g',G,H,ht.trans C⟩;obtain⟨a5,hl⟩:=WO a4 q D (by omega);exact hk N j E a' w' Q hc D (by omega) a5 next
   cases h
  ·rename_i S;refine⟨1,λN j E a w Q hc D hn hs next=>?_⟩;rw[rounds_succ];refine(ih _ _ _ h).get hc hs λa' w' hs'=>?_;obtain⟨e,s'⟩:=r;cases e with|normal=>simp_all|exit id=>exact next a' w' hs'|ret=>exact next a' w' hs'
 |scope x=>simp only[step]at h;intro N j E a w Q hc hs next;cases j<;>simp only[dM,fK]at hc;refine wp_scope_straight ((ih _ _ _ h).get hc hs λa' w' hs'=>?_);have:=next a' w' hs';obtain⟨e,s'⟩:=r;cases e<;>exact this
 |exit id=>
  simp only[step]at h;cases h;intro N j E a w Q hc hs next;cases j<;>simp only[dM,fK]at hc;simp only[beq_iff_eq]at hc;subst hc;exact wp_exit (next a w hs)
 |ret=>
  simp only[step]at h;cases h;intro N j E a w Q hc hs next;cases j<;>simp only[dM,fK]at hc;exact wp_ret (next a w hs)
 |keep live x=>simp only[step]at h;intro N j E a w Q hc hs next;exact(ih _ _ _ h).get (by grind [dM]) (hs.restr live) next
 |tidy live x=>
  simp only[step,nZ]at h;intro N j E a w Q hc hs next;split at h;rename_i e M _e;split at h;rename_i s3 q;cases h;obtain⟨h1,h2,g,hi,z,ht⟩:=hs;have B:Sim N ⟨s._o,g,w⟩ s a w:=⟨h1,h2,g,hi,z,.refl _⟩;refine(ih _ _ _ _e).get (by grind [dM]) B λa' w' hs'=>next a' w' ?_;obtain⟨L,_d,g',G,H,C⟩:=hs';exact(WO (st:=M) (st':=s3) ⟨L,_d,g',G,H,ht.trans C⟩ q ht.len C.len).1;cases h;cases h
 |br live pre o x y rest=>
  simp only[step]at h;intro N j E a w Q hc hs next;unfold dM at hc;split at hc;rename_i cp cq cx cy cz;simp only[bB]at hc;obtain⟨⟨⟨⟨hp,ho⟩,A⟩,hy⟩,hz⟩:=hc;split at h;rename_i s1 a2;refine wp_seq (wp_seq ((ih _ _ _ a2).get hp hs λ_c K V=>?_));have a8: ∀{c:cP} {j:Code} {r':Out},dM P N c j=O->thn (R c s1) (λs=>R rest s)=Z r'->
    ∀{E:Sn} {a:Act} {w:World} {Q:Exit->Act->World->Prop},Sim N E s1 a w->(∀a' w',Sim N E r'.2 a' w'->Q (tI r'.1) a' w')->j.wp P (Exit.then (cz.wp P Q) Q) a w:=by
   intro c j r' hc ht E a w Q hs next;cases hR:R c s1 with
   |none=>rw[hR]at ht;cases ht
   |some o=>
    obtain⟨e,M⟩:=o;rw[hR]at ht;refine(ih _ _ _ hR).get hc hs λa' w' hs'=>?_;cases e with
    |normal=>exact(ih _ _ _ ht).get hz hs' next
    |exit id=>cases ht;exact next a' w' hs'
    |ret=>cases ht;exact next a' w' hs'
  have ab: ∀{c:cP} {j:Code},dM P N c j=O->nZ s1._o.length live (thn (R c s1) λs=>R rest s)=Z r->j.wp P (Exit.then (cz.wp P Q) Q) _c K:=(by intro c j hc ht;unfold nZ at ht;split at ht;rename_i e M _e;split at ht;rename_i s3 q;cases ht;obtain⟨h1,h2,g,hi,z,ht⟩:=V;have B:Sim N ⟨s1._o,g,K⟩ s1 _c K:=⟨h1,h2,g,hi,z,.refl _⟩;refine a8 hc _e B λa' w' hs'=>next a' w' ?_;obtain⟨L,_d,g',G,H,C⟩:=hs';exact(WO (st:=M) (st':=s3) ⟨L,_d,g',G,H,ht.trans C⟩ q ht.len C.len).1;cases ht;cases ht);have _b:=V;obtain⟨_,_,g,hi,z,_⟩:=_b;simp only[tI,Exit.then];split at h;rename_i b hb;have hrel:=bW (s:=⟨s1._o,g,K⟩) (env:=s1.env) z hb ho;generalize F:_c.eval cq=v at hrel;cases hrel with
  |p _ _ hrel=>cases hrel<;>grind [wp_cond]
  rename_i hb;have hrel:=bW (s:=⟨s1._o,g,K⟩) (env:=s1.env) z hb ho;generalize F:_c.eval cq=v at hrel;cases hrel with
  |unk t=>
   refine wp_cond F ?_;unfold same at h;grind
  cases h;cases h;cases hc
theorem M4(e:P.follows .mixedOrders=O)(j: ∀f o,T f=Z (.fn o)->mT P f o=O)
  (h: ∀f g,T f=Z (.prim g)-> ∀args _q r,g args _q=Z r->J60 P f args _q r) (n: ∀f k,T f=Z (.fork k)->mT P f k.af=O):kX P (AF T):=
 Ax (JLW e j h n) j h n
end
@[congr] theorem JRb{o e:Option Out}{k:St->Option Out}(h:o=e):thn o k=thn e k:=by rw[h]
@[congr] theorem JQ8{α β:Type}{o e:RM α}{f:α->RM β}(h:o=e):o.bind f=e.bind f:=by rw[h]
@[congr] theorem JQ9{α β:Type}{o e:Option α}{f:α->Option β}(h:o=e):o.bind f=e.bind f:=by rw[h]
@[simp] theorem QS(s k):thn (Z (.normal,s)) k=k s:=rfl
@[simp] theorem JJN(i s k):thn (Z (.exit i,s)) k=Z (.exit i,s):=rfl
@[simp] theorem JLU(s k):thn (Z (.ret,s)) k=Z (.ret,s):=rfl
@[simp] theorem JIu(k):thn Y k=Y:=rfl
def MJ(o:Option Out)(k:St->Option Out):Option Out:=
 match o with
 |some (.normal,s)=>k s
 |_=>Y
@[congr] theorem JQd{o e:Option Out}{k:St->Option Out}(h:o=e):MJ o k=MJ e k:=by rw[h]
@[simp] theorem JBG(s k):MJ (Z (.normal,s)) k=k s:=rfl
def blo(id:Nat)(o:Option Out):Option Out:=
 match o with
 |some (.exit k,s)=>if k=id then Z (.normal,s)else Z (.exit k,s)
 |o=>o
@[simp] theorem JFE(id s):blo id (Z (.normal,s))=Z (.normal,s):=rfl
@[simp] theorem Al(id i s):blo id (Z (.exit i,s))=if i=id then Z (.normal,s)else Z (.exit i,s):=rfl
@[simp] theorem JN4(id s):blo id (Z (.ret,s))=Z (.ret,s):=rfl
@[simp] theorem JJo(id):blo id Y=Y:=rfl
def nrm(o:Option St):Option Out:=match o with|some s=>Z (.normal,s)|none=>Y
@[simp] theorem JKY(s):nrm (Z s)=Z (.normal,s):=rfl
@[simp] theorem JK7:nrm Y=Y:=rfl
def evv(x:Opd)(env:List (Nat×AV)):Option AV:=match x with| .t n=>lk n env| .c v=>Z v
@[simp] theorem JRP(n env):evv (.t n) env=lk n env:=rfl
@[simp] theorem JRQ(v env):evv (.c v) env=Z v:=rfl
theorem VF(x:Opd)(s:St):(ev x).run s=evv x s.env:=by cases x<;>grind [ev,RM.run,evv]
section
variable (T:dS)
@[simp ↓] theorem JRK(s):X T .skip s=Z (.normal,s):=by rw[nT];rfl
@[simp ↓] theorem Na(a b s):X T (.seq a b) s=thn (X T a s) λs=>X T b s:=by
 rw[nT];simp only[step];cases X T a s with
 |none=>rfl
 |some o=>obtain⟨e,s'⟩:=o;cases e<;>rfl
theorem M1(d ps ins s):X T (.reg d ps ins) s=nrm (region (AF T) ps ins s):=by rw[nT];simp only[step];show(match region (AF T) ps ins s with|some s'=>Z (AX.normal,s')|none=>Y)=_;cases region (AF T) ps ins s<;>rfl
@[simp ↓] theorem JRM(d ins env _o):X T (.reg d [] ins) ⟨env,_o⟩=nrm (hC (AF T) ins _o.length ⟨env,room (news ins) _o⟩):=by rw[M1];rfl
def cnd(x:Option AV)(a b:Option Out)(c:Unit->Option Out):Option Out:=
 match x with
 |some (.p (.b x))=>if x=O then a else b
 |some .unk=>c ()
 |_=>Y
@[congr] theorem JR9{x e:Option AV}{a b:Option Out}{c:Unit->Option Out}(h:x=e):cnd x a b c=cnd e a b c:=by rw[h]
@[simp] theorem My(x a b c):cnd (Z (.p (.b x))) a b c=if x=O then a else b:=rfl
@[simp] theorem JNb(a b c):cnd (Z .unk) a b c=c ():=rfl
@[simp ↓] theorem JNt(x a b s):X T (.cond x a b) s=cnd (evv x s.env) (X T a s) (X T b s) λ_=>same (X T a s) (X T b s):=by
 rw[nT];simp only[step,VF];cases evv x s.env with
 |none=>rfl
 |some v=>
  cases v with
  |p c=>cases c<;>rfl
  |_=>rfl
@[simp ↓] theorem JLG(id c s):X T (.block id c) s=blo id (X T c s):=by
 rw[nT];simp only[step];cases X T c s with
 |none=>rfl
 |some o=>obtain⟨e,s'⟩:=o;cases e<;>rfl
@[simp ↓] theorem JMa(c s):X T (.scope c) s=X T c s:=by rw[nT];rfl
@[simp ↓] theorem JRJ(id s):X T (.exit id) s=Z (.exit id,s):=by rw[nT];rfl
@[simp ↓] theorem JQL(s):X T .ret s=Z (.ret,s):=by rw[nT];rfl
@[simp ↓] theorem Nl(live c s):X T (.keep live c) s=X T c ⟨restr live s.env,s._o⟩:=by rw[nT];rfl
@[simp ↓] theorem JRS(live pre x a b rest s):X T (.br live pre x a b rest) s=MJ (X T pre s) λs1=>
  cnd (evv x s1.env) (thn (X T a s1) λs=>X T rest s) (thn (X T b s1) λs=>X T rest s) λ_=>
   same (nZ s1._o.length live (thn (X T a s1) λs=>X T rest s)) (nZ s1._o.length live (thn (X T b s1) λs=>X T rest s)):=by
 rw[nT];simp only[step,VF];cases X T pre s with
 |none=>rfl
 |some o=>
  obtain⟨e,s1⟩:=o;cases e with
  |normal=>
   dsimp only[MJ];cases evv x s1.env with
   |none=>rfl
   |some v=>
    cases v with
    |p c=>cases c<;>rfl
    |_=>rfl
  |exit=>rfl
  |ret=>rfl
@[simp ↓] theorem JOS(live c env _o):X T (.loop live c) ⟨env,_o⟩=X T (.lp _o.length live c) ⟨restr live env,_o⟩:=by
 grind [nT,step,clean]
theorem vy(n live c s):X T (.lp n live c) s=thn (X T c s) λs=>match clean n live s with
  |some s=>X T (.lp n live c) s
  |none=>Y:=by
 rw[nT];simp only[step];cases X T c s with
 |none=>rfl
 |some o=>obtain⟨e,s'⟩:=o;cases e<;>rfl
def RP(res:List xT)(fresh:Bool)(m:Nat)(o:Option Out):Option Res:=
 match o with
 |some (.normal,s)=>iU ⟨0,0,.skip,res,fresh⟩ m s
 |some (.ret,s)=>iU ⟨0,0,.skip,res,fresh⟩ m s
 |_=>Y
@[congr] theorem JQK{res:List xT}{fresh:Bool}{m:Nat}{o e:Option Out}(h:o=e):RP res fresh m o=RP res fresh m e:=by rw[h]
@[simp] theorem JBN(res fresh m s):RP res fresh m (Z (.normal,s))=iU ⟨0,0,.skip,res,fresh⟩ m s:=rfl
@[simp] theorem JKC(res fresh m s):RP res fresh m (Z (.ret,s))=iU ⟨0,0,.skip,res,fresh⟩ m s:=rfl
theorem JNg{f:FuncId}{k:lN}(h:T f=Z (.fork k))(args _q):AF T f args _q=if args.length=k.np then vJ (X T) k args _q else Y:=by simp_all [AF,rH]
@[simp] theorem JQs(o:Option Res):OD o o=o:=by unfold OD;cases o<;>simp
theorem JR1{f:FuncId}{fn:AFn}(h:T f=Z (.fn fn))(args _q):AF T f args _q=if args.length=fn.np then
  RP fn.res fn.fresh _q.length (X T fn.body ⟨kL 0 args,_q⟩)
 else Y:=by
 unfold AF rH;rw[h];rfl
end
variable {F:Orc} {env:List (Nat×AV)} {_o:List _w} {_m:Nat} {r:List cG} {d:Nat}
@[simp] theorem JEe(s):hC F [] _m s=Z s:=rfl
theorem JBL(i s):hC F (i::r) _m s=((cL F i _m).run s).bind λe=>hC F r (_m+nW i.op) (put i.dst e s):=by
 grind [hC]
@[simp] theorem JRl:news []=0:=rfl
@[simp ↓] theorem JRa(i):news (i::r)=nW i.op+news r:=rfl
@[simp] theorem JRN:room 0 _o=_o:=rfl
@[simp] theorem JR7(n):room (n+1) _o=_o++_P (n+1) .dead:=rfl
@[simp] theorem JRO(n):lk n []=Y:=rfl
@[simp] theorem JMy(n m v)(r:List (Nat×AV)):lk n ((m,v)::r)=if n=m then Z v else lk n r:=rfl
attribute [simp ↓] JBL cL opD vQ nW run_bind VF _y
attribute [simp] put val evs evo mD qJ
 pK BQ BX unP kM RS fz fz.fzL fz.fz1 fzs ED hY jI sub spl tE TR NC OO OV mZ UK xX rU mA zH zE gL sY kJ mmP cellsOf unp rS lZ
 pJ one kL iC PB oA
@[simp] theorem JRc(o:Option Out):same o o=o:=by unfold same;cases o<;>simp
@[simp ↓] theorem bS{α:Type}(a:α)(s:St):(RM.ret a).run s=Z a:=rfl
@[simp ↓] theorem JRC{α:Type}(s:St):(RM.fail:RM α).run s=Y:=rfl
@[simp ↓] theorem zV{α:Type}(n:Nat)(k:AV->RM α)(s:St):(RM.slot n k).run s=(lk n s.env).bind λv=>(k v).run s:=by grind [RM.run]
@[simp ↓] theorem eT{α:Type}(n:Nat)(k:_w->RM α)(s:St):(RM.blk n k).run s=(s._o[n]?).bind λv=>(k v).run s:=by grind [RM.run]
@[simp] theorem JLz:upd [] _o=_o:=rfl
@[simp] theorem JJH(b x ws):upd ((b,x)::ws) _o=upd ws (_o.set b x):=rfl
@[simp] theorem JR8:restr [] env=[]:=rfl
@[simp] theorem JFO(k l):restr (k::l) env=match lk k env with
 |some v=>(k,v)::restr l env
 |none=>restr l env:=rfl
end Go.Am
namespace Go.Am
def rP:AV->Bool| .p _| .data _| .cp _ _| .unk=>O|_=>J
@[simp] theorem JRn(c):rP (.p c)=O:=rfl
@[simp] theorem JQa(c):rP (.data c)=O:=rfl
@[simp] theorem JR6(c o):rP (.cp c o)=O:=rfl
theorem Dg: ∀{args:List AV} {l:List _z},args.all rP=O->dA.entsOfL args l=l|[],l,_=>rfl|x::r,l,h=>by simp only[List.all_cons,bB]at h;obtain⟨h1,h2⟩:=h;simp only[dA.entsOfL];cases x<;>simp[rP]at h1<;>simp only[dA]<;>exact Dg h2
theorem Bz{ρ:_z->Option Nat}: ∀{args:List AV},args.all rP=O->ren.renL ρ args=Z args|[],_=>rfl|x::r,h=>by simp only[List.all_cons,bB]at h;have:=Bz (ρ:=ρ) h.2;have h1:=h.1;clear h;cases x<;>simp[rP]at h1<;>simp[ren.renL,ren,this]
theorem JJP{es:List _z}{_m:Nat}{x:AV}(h:rP x=O):bk es _m x=Z x:=by cases x<;>simp[rP]at h<;>rfl
theorem pt{es:List _z}{_m:Nat}: ∀{xs:List AV},xs.all rP=O->bk.bkL es _m xs=Z xs|[],_=>rfl|x::r,h=>by simp only[List.all_cons,bB]at h;simp[bk.bkL,JJP h.1,pt h.2]
@[simp] theorem JRR(es _m c):bk es _m (.p c)=Z (.p c):=rfl
@[simp] theorem JRI(es _m c):bk es _m (.data c)=Z (.data c):=rfl
@[simp] theorem JRL(es _m l):bk es _m (.tup l)=(bk.bkL es _m l).map .tup:=by grind [bk]
@[simp] theorem JRH(es _m):bk.bkL es _m []=Z []:=rfl
@[simp] theorem JRs(es _m x l):bk.bkL es _m (x::l)=(bk es _m x).bind λy=>(bk.bkL es _m l).map λl=>y::l:=by simp only[bk.bkL];cases bk es _m x<;>simp;cases bk.bkL es _m l<;>rfl
@[simp] theorem JQb(n live):nZ n live Y=Y:=rfl
@[simp] theorem JBl(n live e s):nZ n live (Z (e,s))=(clean n live s).map λs=>(e,s):=by
 grind [nZ]
attribute [simp ↓] JF Option.bind_none QS JJN JLU JIu JBG JKY JK7 My JNb JFE Al JN4 JJo JBN JKC JEe JMy JFO JLz JJH
attribute [simp] clean xS sS gY fin fin.finL iU kZ sT dA dA.entsOfL zF kU yU fG unp
end Go.Am
end
section
namespace Go.Am
inductive Fr where|sq (b:cP)|bl (id:Nat)|td (n:Nat) (live:List Nat)|lo (n:Nat) (live:List Nat) (c:cP)
noncomputable def again(T:dS)(n:Nat)(live:List Nat)(c:cP)(o:Option St):Option Out:=match o with|some s=>X T (.lp n live c) s|none=>Y
section
variable (T:dS) (f:AFn) (m:Nat) (k:List Fr)
theorem JO9(live c s):X T (.tidy live c) s=nZ s._o.length live (X T c s):=by rw[nT];rfl
end
open Classical in
noncomputable def J4{σ ρ:Type}(f:σ->Option (σ⊕ρ))(s:σ):Option ρ:=
 let e:Nat->σ->Option ρ:=λn=>n.rec (λ_=>Y) λ_ ih s=>match f s with|some (.inl s')=>ih s'|some (.inr r)=>Z r|none=>Y
 if h: ∃n r,e n s=Z r then e (Classical.choose h) s else Y
def dK{σ ρ:Type}(f:σ->Option (σ⊕ρ)):Nat->σ->Option ρ|0,_=>Y|n+1,s=>match f s with|some (.inl s')=>dK f n s'|some (.inr r)=>Z r|none=>Y
section
variable {σ ρ:Type} {f:σ->Option (σ⊕ρ)}
theorem mr(n:Nat): ∀s:σ,(Nat.rec (motive:=λ_=>σ->Option ρ) (λ_=>Y) (λ_ ih s=>match f s with
  |some (.inl s')=>ih s'
  |some (.inr r)=>Z r
  |none=>Y) n) s=dK f n s:=by
 induction n with
 |zero=>intro s;rfl
 |succ n ih=>grind [dK]
theorem ow: ∀{n:Nat} {s:σ} {r:ρ} (m:Nat),dK f n s=Z r->dK f (n+m) s=Z r
 |0,_,_,_,h=>by cases h
 |n+1,s,r,m,h=>by
  rw[show n+1+m=(n+m)+1 by omega];simp only[dK]at h⊢;split at h;exact ow m h
  all_goals simp_all
theorem JIT{n m:Nat}{s:σ}{r r':ρ}(h:dK f n s=Z r)(e:dK f m s=Z r'):r=r':=by
 have a:=ow m h;have b:=ow n e;grind
theorem mG{s:σ}{r:ρ}:J4 f s=Z r↔ ∃n,dK f n s=Z r:=by
 unfold J4;dsimp only;constructor;intro h;split at h;exact⟨_,by rw[<-mr];exact h⟩;cases h;rintro⟨n,h⟩;have e: ∃n r,(Nat.rec (motive:=λ_=>σ->Option ρ) (λ_=>Y) (λ_ ih s=>match f s with
  |some (.inl s')=>ih s'
  |some (.inr r)=>Z r
  |none=>Y) n) s=Z r:=⟨n,r,by grind [mr]⟩
 rw[dif_pos e];obtain⟨r',g⟩:=Classical.choose_spec e;rw[g];rw[mr]at g;grind [JIT]
theorem dY{s:σ}{r:ρ}(h:f s=Z (.inr r)):J4 f s=Z r:=mG.2 ⟨1,by grind [dK]⟩
theorem eX{s s':σ}(h:f s=Z (.inl s')):J4 f s=J4 f s':=by
 have g: ∀r,J4 f s=Z r↔J4 f s'=Z r:=by
  intro r;rw[mG,mG];constructor;rintro⟨n,e⟩;cases n<;>grind [dK]
  rintro⟨n,e⟩;exact⟨n+1,by grind [dK]⟩
 cases hs:J4 f s with
 |some r=>grind
 |none=>cases hs':J4 f s'<;>grind
theorem JF1{s:σ}(h:f s=Y):J4 f s=Y:=by
 cases hs:J4 f s with
 |none=>rfl
 |some r=>obtain⟨n,e⟩:=mG.1 hs;cases n<;>simp_all [dK]
theorem pf{P:σ->ρ->Prop}(h1: ∀s r,f s=Z (.inr r)->P s r)(h2: ∀s s' r,f s=Z (.inl s')->P s' r->P s r){s:σ}{r:ρ}(h:J4 f s=Z r):P s r:=by
 obtain⟨n,e⟩:=mG.1 h;clear h
 induction n generalizing s with
 |zero=>cases e
 |succ n ih=>
  grind [dK]
end
end Go.Am
end
section
namespace Go.Am
section
variable {α:Type}
def idx(l:List α)(n:Int):Option α:=if 0<=n then l[n.toNat]? else Y
def bE(k:Nat)(n:Int):Option Unit:=if 0<=n/\n<k then Z ()else Y
def Ju(bytes:Nat)(l l':List α):Option (List α):=if sY (l.length+l'.length) bytes=O then Z (l++l')else Y
def bU(bytes:Nat)(l:List α):Option (List α):=if sY l.length bytes=O then Z l else Y
def mkS(bytes:Nat)(n m:Int)(z:α):Option (List α):=if 0<=n/\n<=m/\bytes*m<=281474976710656/\m<=281474976710656 then Z (_P n.toNat z)else Y
def vD(x:Option Int)(top e:Nat):Option Nat:=match x with|none=>Z e|some n=>if 0<=n/\n<=top then Z n.toNat else Y
def sO(n:Nat)(lo hi:Option Int):Option (Nat×Nat):=match vD hi n n with|none=>Y|some h=>match vD lo h 0 with|none=>Y|some l=>Z (l,h)
def bA(l:List α)(lo hi:Option Int):Option (List α):=match sO l.length lo hi with|some c=>Z ((l.drop c.1).take (c.2-c.1))|none=>Y
def L6(k:IntKind)(x y:Int):Option Int:=if y=0 then Y else Z (k.wrap (x.tdiv y))
def uZ(x y:Int):Option Int:=if y=0 then Y else Z (x.tmod y)
def nP(k:IntKind)(x y:Int):Option Int:=if y<0 then Y else Z (k.wrap (x*2^(min y.toNat k.bits)))
def hX(k:IntKind)(x y:Int):Option Int:=if y<0 then Y else Z (x.fdiv (2^(min y.toNat k.bits)))
def lQ(k:IntKind)(x y:Int):Int:=k.wrap (BitVec.ofInt k.bits x&&&BitVec.ofInt k.bits y).toNat
def orI(k:IntKind)(x y:Int):Int:=k.wrap (BitVec.ofInt k.bits x|||BitVec.ofInt k.bits y).toNat
def hW(k:IntKind)(x y:Int):Int:=k.wrap (BitVec.ofInt k.bits x^^^BitVec.ofInt k.bits y).toNat
def NJ(k:IntKind)(n:Int):Int:=k.wrap (BitVec.ofInt k.bits (if k.signed then -1 else k.max)^^^BitVec.ofInt k.bits n).toNat
def cT(a b:List UInt8):Option (List UInt8):=if a.length+b.length<=4611686018427387904 then Z (a++b)else Y
def nR(l:List UInt8)(n:Int):Option Int:=if 0<=n then(match l[n.toNat]? with|some u=>Z (u.toNat:Int)|none=>Y)else Y
def uy{k:Nat}(v:Vector α k)(n:Int):Option α:=if 0<=n/\n<k then v[n.toNat]? else Y
def _C(l:List Int):List UInt8:=l.map λn=>UInt8.ofNat n.toNat
def aW(l:List UInt8):List Int:=l.map λu=>(u.toNat:Int)
def gX(x y:Int):Int:=if y<x then y else x
def bP(x y:Int):Int:=if y>x then y else x
end
@[reducible] def cat(a b:List PV):List PV:=a++b
def r_i(k:IntKind)(n:Int):List PV:=[.i k n]
def r_b(x:Bool):List PV:=[.b x]
def r_s(l:List UInt8):List PV:=[.s l]
def JRy{α:Type}(_l:Nat)(r:α->List PV)(l:List α):List PV:=[.sl _l (l.map r)]
def rA{α:Type}{n:Nat}(r:α->List PV)(v:Vector α n):List PV:=(v.toList.map r).flatten
section
variable {α:Type}
theorem EC(cs:List α)(off size:Nat):sub cs off size=if off+size<=cs.length then Z ((cs.drop off).take size)else Y:=by
 grind [sub]
theorem IM(cs:List α)(off:Nat)(vs:List α):spl cs off vs=if off+vs.length<=cs.length then Z (cs.take off++vs++cs.drop (off+vs.length))else Y:=by simp_all
theorem kq{cs:List α}{n:Nat}(h:cs.length=n):sub cs 0 n=Z cs:=by simp_all
theorem Rl{cs vs:List α}(h:cs.length=vs.length):spl cs 0 vs=Z vs:=by simp_all
theorem JIj{a b c:List α}{off size:Nat}(h1:a.length=off)(h2:b.length=size):sub (a++(b++c)) off size=Z b:=by
 grind [EC]
theorem JG3{b c:List α}{size:Nat}(h2:b.length=size):sub (b++c) 0 size=Z b:=JIj (a:=[]) rfl h2
theorem JGX{a b c v:List α}{off:Nat}(h1:a.length=off)(h2:b.length=v.length):spl (a++(b++c)) off v=Z (a++(v++c)):=by
 grind [IM]
theorem JGk{b c v:List α}(h2:b.length=v.length):spl (b++c) 0 v=Z (v++c):=JGX (a:=[]) rfl h2
theorem Qy{cs e r:List α}{a m k n:Nat}(h1:sub cs a m=Z e)(h2:sub e k n=Z r):sub cs (a+k) n=Z r:=by
 grind [EC,List.drop_take,List.drop_drop]
theorem Pj{cs g e v cs':List α}{a m k:Nat}(h1:sub cs a m=Z g)(h2:spl g k v=Z e)(h3:spl cs a e=Z cs'):spl cs (a+k) v=Z cs':=by
 rw[EC]at h1;rw[IM]at h2 h3⊢;split at h1;rename_i o;cases h1;split at h2;rename_i j;cases h2;simp at j;split at h3;cases h3;rw[if_pos (by omega)]
 congr 1
 simp only[dZ,yK,sN,List.take_take,List.drop_take,vA,iO];have h:cs.take (a+k)=cs.take a++(cs.drop a).take k:=List.take_add ..;rw[h,iO];rw[show min k m=k by omega]
 congr 3
 have n:cs.drop (a+k+v.length)=(cs.drop (a+(k+v.length))).take (m-(k+v.length))++cs.drop (a+m):=(by have:=nV (m-(k+v.length)) (cs.drop (a+(k+v.length)));rw[vA]at this;rw[show a+(k+v.length)+(m-(k+v.length))=a+m by omega]at this;grind);rw[n]
 congr 2
 omega;cases h3;cases h2;cases h1
theorem IU{β:Type}(g:α->β)(cs:List α)(off size:Nat):sub (cs.map g) off size=(sub cs off size).map (List.map g):=by
 grind [EC,List.map_drop,List.map_take]
theorem IS{β:Type}(g:α->β)(cs:List α)(off:Nat)(vs:List α):spl (cs.map g) off (vs.map g)=(spl cs off vs).map (List.map g):=by
 grind [IM,List.map_drop,List.map_take]
theorem PD{n k w:Nat}{r:α->List PV}(hr: ∀x,(r x).length=w){v:Vector α n}{x:α}(h:v[k]?=Z x):sub (rA r v) (k*w) w=Z (r x):=by
 have g: ∀(l:List α) (k:Nat) (x:α),l[k]?=Z x->sub ((l.map r).flatten) (k*w) w=Z (r x):=by
  intro l
  induction l with
  |nil=>simp_all
  |cons y l ih=>
   intro k x h;cases k with
   |zero=>
    grind [JG3]
   |succ k=>
    simp at h;have:=ih k x h;rw[cJ,uW];rw[EC]at this⊢;split at this;injection this with this;have e:(k+1)*w=w+k*w:=by grind
    rw[e,if_pos (by grind)];have j:w+k*w=(r y).length+k*w:=by rw[hr]
    rw[j,List.drop_length_add_append,this];cases this
 exact g _ _ _ (by simp_all)
theorem Nu{n k w:Nat}{r:α->List PV}(hr: ∀x,(r x).length=w){v:Vector α n}(h:k<n)(y:α):spl (rA r v) (k*w) (r y)=Z (rA r (v.setIfInBounds k y)):=by
 have g: ∀(l:List α) (k:Nat),k<l.length->spl ((l.map r).flatten) (k*w) (r y)=Z (((l.set k y).map r).flatten):=by
  intro l
  induction l with
  |nil=>simp_all
  |cons z l ih=>
   intro k h;cases k with
   |zero=>
    grind [JGk]
   |succ k=>
    simp at h;have:=ih k h;rw[cJ,uW];rw[IM]at this⊢;split at this;rename_i j;injection this with this;have e:(k+1)*w=(r z).length+k*w:=by grind
    rw[e,if_pos (by grind)];simp only[List.set_cons_succ,cJ,uW];rw[<-this];rw[show(r z).length+k*w+(r y).length=(r z).length+(k*w+(r y).length) by omega];simp[List.take_length_add_append];cases this
 grind [rA]
theorem JOZ{n w:Nat}{r:α->List PV}(hr: ∀x,(r x).length=w)(v:Vector α n):(rA r v).length=n*w:=by
 have e: ∀l:List α,((l.map r).flatten).length=l.length*w:=by
  intro l
  induction l with
  |nil=>simp
  |cons x l ih=>grind
 grind [rA]
end
theorem IR: ∀l:List PV,unp (l.map AV.p)=Z l|[]=>rfl|x::l=>by simp[unp,IR l]
theorem D7(l:List PV):mD O (l.map AV.p)=Z (.data l):=by simp[IR]
theorem dd: ∀l:List PV,(l.map AV.p).all rP=O|[]=>rfl|x::l=>by simp
theorem Cn(m:Nat)(_p:List Nat)(_o:List _w): ∀l:List PV,fin.finL m _p _o (l.map AV.p)=Z (l.map AV.p)|[]=>rfl|x::l=>by simp[fin.finL,fin,Cn m _p _o l]
theorem Ch(l:List PV)(acc:List _z):dA.entsOfL (l.map AV.p) acc=acc:=Dg (dd l)
theorem JGU{α:Type}{r:α->List PV}{l:List α}{n:Int}{x:α}(h:idx l n=Z x):UK (l.map r) n=Z (r x):=by simp_all [idx]
theorem kn{k:Nat}{n:Int}{u:Unit}(h:bE k n=Z u):0<=n/\n<k:=by
 grind [bE]
theorem JIw{α:Type}{k:Nat}{v:Vector α k}{n:Int}{x:α}(h:uy v n=Z x):(0<=n/\n<k)/\v[n.toNat]?=Z x:=by
 grind [uy]
theorem JMG{α:Type}{r:α->List PV}{_l bytes b:Nat}{w:Bool}{l l' l2:List α}{y:AV}{s:St}(h:Ju bytes l l2=Z l')(hb:s._o[b]?=Z (.arr w _l (l.map r)))(hy:(gL _l y).run s=Z (l2.map r)):
  (kJ _l bytes (._r b 0 l.length) y).run s=Z ⟨._r b 0 l'.length,[(b,.arr w _l (l'.map r))]⟩:=by
 grind [Ju,kJ,eT,run_bind,bS]
theorem qb: ∀l:List Int,wC (l.map (r_i .u8))=Z (_C l)|[]=>rfl|x::l=>by simp[wC,r_i,qb l,_C]
theorem mw(l:List UInt8):l.map oA=(aW l).map (r_i .u8):=by simp[aW,r_i]
theorem JIs{α:Type}{bytes:Nat}{l l':List α}(h:bU bytes l=Z l'):sY l.length bytes=O/\l'=l:=by
 grind [bU]
theorem JMX{α:Type}{bytes:Nat}{n m:Int}{z:α}{l:List α}(h:mkS bytes n m z=Z l):(0<=n/\n<=m/\bytes*m<=281474976710656/\m<=281474976710656)/\l=_P n.toNat z:=by
 grind [mkS]
end Go.Am
end
section
namespace Go.Am
open Go.RowKit
theorem Sb{σ:List _w}{g:Gh}{w w':World}(hi:Inv ⟨σ,g,w⟩)(hb:Below w.heap.size w w'):
  Inv ⟨σ,g,w'⟩/\bK ⟨σ,g,w⟩ ⟨σ,g,w'⟩:=by
 have hk: ∀(r:Nat) x,w.heap[r]?=Z x->w'.heap[r]?=Z x:=λr x h=>by rw[hb.block r (AL h)];exact h
 have hc: ∀r o v,cellAt w r o=Z v->cellAt w' r o=Z v:=(by grind [cellAt]);have t:bK ⟨σ,g,w⟩ ⟨σ,g,w'⟩:=by
  refine⟨⟨hb.size,λr c e fz h=>⟨c,hk r _ h,rfl,λ_ _=>rfl⟩,λr x h _=>hk r x h,hb.os,hb.output⟩,λ_ _ h=>h,λ_ _ h=>.inl h,λr o ⟨b,hb⟩=>.inl ⟨b,hb⟩,zQ0 _,λ_ cs h=>⟨⟨cs,h,rfl⟩,rfl⟩,
   λ_ wm _ _f h=>⟨wm,_f,h,id,zQ0 _,λ_=>rfl⟩⟩
 exact⟨pX hi t (λ_=>False) (λ_ _=>⟨rfl,rfl⟩) (λ_ r o v _ _ h=>hc r o v h) (λ_ _ h=>h.elim) (λ_ _ _ _ h=>h.elim)
  (λ_ _ _ _ h=>h.elim) (λr o h=>Nat.lt_of_lt_of_le (hi.const r o h).1 hb.size) (λ_ _ _ _ h=>h.elim) (λ_ _ _ h j=>(j h).elim),t⟩
def sM:PV->Option Value| .b x=>Z (.bool x)| .i k n=>Z (.int k n)| .s l=>Z (.string ⟨l.toArray⟩)|_=>Y
theorem Ad{x:PV}{v:Value}(h:sM x=Z v)(w:World)(C:Nat->Nat->Prop):J0d w C x v:=by
 cases x<;>simp only[sM,Option.some.injEq,reduceCtorEq]at h<;>subst h
 exact .b _;exact .i _ _;exact .s _
theorem Qg{x:PV}{v e:Value}{w:World}{C:Nat->Nat->Prop}(h:J0d w C x v)(hv:sM x=Z e):v=e:=by cases x<;>simp only[sM,Option.some.injEq,reduceCtorEq]at hv<;>subst hv<;>cases h<;>rfl
theorem JDQ{P:Program}{f:FuncId}{xs:List PV}{vs:List Value}{r:PV}{v:Value}{_q:List _w}
  (hf: ∃fn,P.funcs[f]?=some fn∧fn.body.isSome=true∧(fn.name== "runtime.NumGoroutine")=false)
  (hx:xs.mapM sM=Z vs) (hr:sM r=Z v)
  (hc: ∀w,Calls P f vs.toArray w λe w'=>e=.returned v/\Below w.heap.size w w'):
  J60 P f (xs.map .p) _q (.p r,_q):=by
 refine⟨hf,λg w vals hi hl B=>?_⟩;have h:vals=vs.toArray:=by
  have n: ∀(xs:List PV) (vs vl:List Value),xs.mapM sM=Z vs->xs.length=vl.length->
    (∀(i:Nat) x v,(xs.map AV.p)[i]?=Z x->vl[i]?=Z v->JH ⟨_q,g,w⟩ x v)->vl=vs:=by
   intro xs
   induction xs with
   |nil=>grind
   |cons x r ih=>
    intro vs vl h1 h2 q;simp only[List.mapM_cons,Option.pure_def,Option.bind_eq_bind]at h1;obtain⟨C,o,h1⟩:=bV.1 h1;obtain⟨z,k,h1⟩:=bV.1 h1;simp only[Option.some.injEq]at h1;subst h1;cases vl with
    |nil=>simp at h2
    |cons u y=>
     have:=q 0 (.p x) u rfl rfl;cases this with
     |p _ _ hp=>rw[Qg hp o,ih z y k (by simpa using h2) (λi x v hx A=>q (i+1) x v hx A)]
  apply dl;rw[n xs vs vals.toList hx (by simpa using hl) (λi x v h1 h2=>B i x v h1 (by simpa using h2))]
 subst h;refine(hc w).mono ?_;rintro e w' ⟨rfl,hb⟩;obtain⟨j,t⟩:=Sb hi hb;exact⟨v,g,rfl,j,t,.p _ _ (Ad hr _ _)⟩
theorem kl{T:dS}{f:FuncId}{g:List AV->List _w->Option Res}(h:T f=Z (.prim g))(args _q):AF T f args _q=g args _q:=by simp_all [AF,rH]
def Lo(a:Option AFn)(k:Option lN)(g q:Option (List AV->List _w->Option Res)):Option Entry:=
 match a with
 |some a=>Z (.fn a)
 |none=>match k with|some k=>Z (.fork k)|none=>match g with|some g=>Z (.prim g)|none=>q.map .prim
theorem IZ{a:Option AFn}{k:Option lN}{g q:Option (List AV->List _w->Option Res)}{e:Entry}(h:Lo a k g q=Z e):
  (∃x,a=Z x/\e=.fn x)\/(∃x,k=Z x/\e=.fork x)\/(∃x,g=Z x/\e=.prim x)\/(∃x,q=Z x/\e=.prim x):=by
 cases a with
 |some a=>exact .inl ⟨a,rfl,by injection h with h;exact h.symm⟩
 |none=>
  cases k with
  |some k=>exact .inr (.inl ⟨k,rfl,by injection h with h;exact h.symm⟩)
  |none=>
   cases g with
   |some g=>exact .inr (.inr (.inl ⟨g,rfl,by injection h with h;exact h.symm⟩))
   |none=>
    cases q with
    |some q=>exact .inr (.inr (.inr ⟨q,rfl,by injection h with h;exact h.symm⟩))
    |none=>cases h
def J6R(n:Int)(i:Nat):Int:=IntKind.wrap .u8 ((IntKind.wrap .u64 n).fdiv (2^(8*i)))
def J0p(n:Int)(k:Nat):List UInt8:=_C ((List.range k).map (J6R n))
def Jod(l:List UInt8)(n size:Int):Option (List UInt8):=if size<1\/8<size then Z l else if l.length+8<=140737488355328 then Z (l++J0p n size.toNat)else Y
def JEu:List AV->List _w->Option Res|[.p (.s l),.p (.i I n),.p (.i I k)],_q=>(Jod l n k).map λr=>(.p (.s r),_q)|_,_=>Y
theorem JMV(x:Int):0<=IntKind.wrap .u8 x/\IntKind.wrap .u8 x<256:=by have h:IntKind.wrap .u8 x=x%256:=rfl;rw[h];omega
theorem JqV(n:Int)(i:Nat):((UInt8.ofNat (J6R n i).toNat).toNat:Int)=J6R n i:=by
 have h:0<=J6R n i/\J6R n i<256:=JMV _;grind [UInt8.toNat_ofNat_of_lt']
theorem Jul(n:Int)(k:Nat):J0p n (k+1)=J0p n k++[UInt8.ofNat (J6R n k).toNat]:=by simp[J0p,_C,List.range_succ]
theorem JO(n:Int)(k:Nat):(J0p n k).length=k:=by simp[J0p,_C]
theorem JQW(x y:Bool):cQ [.b] [.b x] [.b y]=Z (decide (x=y)):=by
 grind [cQ,xV]
theorem JQO(k:IntKind)(x y:Int):cQ [.i k] [.i k x] [.i k y]=Z (decide (x=y)):=by
 grind [cQ,xV]
theorem JQM(x y:List UInt8):cQ [.s] [.s x] [.s y]=Z (decide (x=y)):=by
 grind [cQ,xV]
theorem Qw{p q:Prop} [Decidable p] [Decidable q]: ∀{e g:List KD} {a1 a2 b1 b2:List PV},cQ e a1 b1=Z (decide p)->cQ g a2 b2=Z (decide q)->cQ (e++g) (cat a1 a2) (cat b1 b2)=Z (decide (p/\q)):=by
 have h: ∀(e g:List KD) (a1 a2 b1 b2:List PV) (r s:Bool),cQ e a1 b1=Z r->cQ g a2 b2=Z s->cQ (e++g) (a1++a2) (b1++b2)=Z (r&&s):=by
  intro e
  induction e with
  |nil=>
   grind [cQ]
  |cons k ks ih=>
   intro g a1 a2 b1 b2 r s h1 h2;cases a1 with
   |nil=>grind [cQ]
   |cons a a1=>
    cases b1 with
    |nil=>grind [cQ]
    |cons b b1=>
     simp only[cQ]at h1;split at h1;rename_i u c j hc;cases h1;simp only[uR,cQ,j,ih _ _ _ _ _ _ _ hc h2,Bool.and_assoc];cases h1
 intro e g a1 a2 b1 b2 h1 h2;rw[h _ _ _ _ _ _ _ _ h1 h2,Bool.decide_and]
theorem JPk{α:Type} [DecidableEq α]{n:Nat}{ks:List KD}{r:α->List PV}(h: ∀x y,cQ ks (r x) (r y)=Z (decide (x=y)))(v w:Vector α n):
  cQ (_P n ks).flatten (rA r v) (rA r w)=Z (decide (v=w)):=by
 have e: ∀(l l':List α),l.length=l'.length->cQ (_P l.length ks).flatten (l.map r).flatten (l'.map r).flatten=Z (decide (l=l')):=by
  intro l
  induction l with
  |nil=>grind [cQ]
  |cons a l ih=>
   intro l' h1;cases l' with
   |nil=>simp at h1
   |cons b l'=>
    have h2:=Qw (h a b) (ih l' (by simpa using h1));grind [decide]
 have g:=e v.toList w.toList (by simp);rw[show v.toList.length=n by simp]at g;rw[show decide (v=w)=decide (v.toList=w.toList) by simp[Vector.toList_inj]];exact g
end Go.Am
end
section
namespace Go.Am
def J1(k:IntKind)(a c:Int):Int:=k.wrap (a+c)
def Ji(k:IntKind)(a c:Int):Int:=k.wrap (a-c)
def bX(k:IntKind)(a c:Int):Int:=k.wrap (a*c)
def JRA(k:IntKind)(n:Int):Int:=k.wrap (0-n)
def aX(k:IntKind)(n:Int):Int:=k.wrap n
def aO(a c:Int):Bool:=decide (a=c)
def aQ(a c:Int):Bool:= !decide (a=c)
def aN(a c:Int):Bool:=decide (a<c)
def bD(a c:Int):Bool:=decide (a<=c)
def aS(a c:Int):Bool:=decide (a>c)
def aT(a c:Int):Bool:=decide (a>=c)
def eqS(a c:List UInt8):Bool:=decide (a=c)
def neS(a c:List UInt8):Bool:= !decide (a=c)
def ltS(a c:List UInt8):Bool:=Op.bytesLess a c
def leS(a c:List UInt8):Bool:=Op.bytesLess a c||decide (a=c)
def gtS(a c:List UInt8):Bool:= !(Op.bytesLess a c||decide (a=c))
def geS(a c:List UInt8):Bool:= !Op.bytesLess a c
def eqB(a c:Bool):Bool:=decide (a=c)
def Jj(x:Bool):Bool:= !x
def J0{α:Type}(l:List α):Int:=l.length
def JRg{α:Type}(c:Bool)(x y:α):α:=if c=O then x else y
def bM{α:Type}(l:List α)(i:Nat):Option α:=l[i]?
def bJ{α:Type}(l:List α)(i:Nat)(x:α):List α:=l.set i x
def vat{α:Type}{n:Nat}(l:Vector α n)(i:Nat):Option α:=l[i]?
def bN{α:Type}{n:Nat}(l:Vector α n)(i:Nat)(x:α):Vector α n:=l.setIfInBounds i x
inductive Ty where
 |b
 |i (k:IntKind)
 |s
 |l (t:Ty)
 |pr (a c:Ty)
 |ar (n:Nat) (t:Ty)
 |u
 |f
 deriving DecidableEq
@[reducible] def Ty.D:Ty->Type
 | .b=>Bool
 | .i _=>Int
 | .s=>List UInt8
 | .l t=>List t.D
 | .pr a c=>a.D×c.D
 | .ar n t=>Vector t.D n
 | .u=>Unit
 | .f=>Unit
def Ty.sz:Ty->Nat| .b=>1| .i _=>1| .s=>1| .l _=>1| .pr a c=>a.sz+c.sz| .ar n t=>n*t.sz| .u=>0| .f=>1
def _A:(t:Ty)->t.D->List PV| .b,x=>[.b x]| .i k,x=>[.i k x]| .s,x=>[.s x]| .l t,x=>[.sl t.sz (x.map (_A t))]| .pr a c,x=>_A a x.1++_A c x.2| .ar _ t,x=>rA (_A t) x| .u,_=>[]| .f,_=>[.nf]
theorem eW: ∀(t:Ty) (x:t.D),(_A t x).length=t.sz| .b,_=>rfl| .i _,_=>rfl| .s,_=>rfl| .l _,_=>rfl| .pr a c,x=>by simp only[_A,dZ,eW a,eW c,Ty.sz]| .ar n t,x=>by simp only[_A,Ty.sz];exact JOZ (eW t) x| .u,_=>rfl| .f,_=>rfl
def Ty.eqd:(t:Ty)->DecidableEq t.D| .b=>inferInstanceAs (DecidableEq Bool)| .i _=>inferInstanceAs (DecidableEq Int)| .s=>inferInstanceAs (DecidableEq (List UInt8))| .l t=>have:=t.eqd;inferInstanceAs (DecidableEq (List t.D))| .pr a c=>have:=a.eqd;have:=c.eqd;inferInstanceAs (DecidableEq (a.D×c.D))| .ar n t=>have:=t.eqd;inferInstanceAs (DecidableEq (Vector t.D n))| .u=>inferInstanceAs (DecidableEq Unit)| .f=>inferInstanceAs (DecidableEq Unit)
def eqT(t:Ty)(x y:t.D):Bool:=have:=t.eqd;decide (x=y)
theorem eB{t:Ty}{x y:t.D}:eqT t x y=O↔x=y:=by simp[eqT]
def Ty.zero:(t:Ty)->t.D| .b=>J| .i _=>(0:Int)| .s=>[]| .l _=>[]| .pr a c=>(a.zero,c.zero)| .ar n t=>Vector.replicate n t.zero| .u=>()| .f=>()
def Ty.ks:Ty->Option (List KD)
 | .b=>Z [.b]
 | .i k=>Z [.i k]
 | .s=>Z [.s]
 | .l _=>Y
 | .pr a c=>match a.ks,c.ks with|some x,Z y=>Z (x++y)|_,_=>Y
 | .ar n t=>match t.ks with|some x=>Z (_P n x).flatten|none=>Y
 | .u=>Z []
 | .f=>Y
theorem VQ: ∀(t:Ty) {ks:List KD} (x y:t.D),t.ks=Z ks->cQ ks (_A t x) (_A t y)=Z (eqT t x y)
 | .b,ks,x,y,h=>by cases h;exact JQW x y
 | .i k,ks,x,y,h=>by cases h;exact JQO k x y
 | .s,ks,x,y,h=>by cases h;exact JQM x y
 | .l _,_,_,_,h=>by cases h
 | .pr a c,ks,x,y,h=>by
  simp only[Ty.ks]at h;split at h;rename_i p q hp e;cases h;have h1:=VQ a x.1 y.1 hp;have h2:=VQ c x.2 y.2 e;unfold eqT at h1 h2;have g:(have:=a.eqd;decide (x.1=y.1))= @decide _ (a.eqd x.1 y.1):=rfl;have:= @Qw _ _ (a.eqd x.1 y.1) (c.eqd x.2 y.2) _ _ _ _ _ _ h1 h2;simp only[_A];refine this.trans (congrArg Z ?_);grind [eqT];cases h
 | .ar n t,ks,x,y,h=>by
  simp only[Ty.ks]at h;split at h;rename_i p hp;cases h;have:= @JPk t.D t.eqd n p (_A t) (λx y=>by have:=VQ t x y hp;exact this) x y;grind [_A,eqT];cases h
 | .u,ks,x,y,h=>by cases h;rfl
 | .f,_,_,_,h=>by cases h
inductive Sp where
 |f (off:Nat)
 |a (i _l:Nat)
 deriving DecidableEq
def spo:List Sp->Nat|[]=>0| .f o::r=>o+spo r| .a i e::r=>i*e+spo r
def spf:Nat->List Sp->Nat×List Sp|o,.f k::r=>spf (o+k) r|o,r=>(o,r)
theorem TZ: ∀(o:Nat) (p:List Sp),(spf o p).1+spo (spf o p).2=o+spo p|o,[]=>rfl|o,.f k::r=>by simp only[spf,TZ,spo];omega|o,.a i e::r=>rfl
section
variable {R:Type}
def prt:(t:Ty)->t.D->(off:Nat)->List Sp->(w:Ty)->(w.D->Option R)->Option R
 |t,x,off,p,w,k=>
  if h:t=w/\off=0/\p=[]then k (h.1▸x)
  else match t,x with
   | .pr a c,x=>if off+(if p=[]then w.sz else 1)<=a.sz then prt a x.1 off p w k
    else if a.sz<=off then prt c x.2 (off-a.sz) p w k
    else Y
   | .ar _ t,x=>if p=[]then(vat x (off/t.sz)).bind λy=>prt t y (off%t.sz) p w k
    else match off,p with|0,.a i e::r=>if e=t.sz then(vat x i).bind λy=>prt t y (spf 0 r).1 (spf 0 r).2 w k else Y|_,_=>Y
   |_,_=>Y
def pst:(t:Ty)->t.D->(off:Nat)->List Sp->(w:Ty)->w.D->(t.D->Option R)->Option R
 |t,x,off,p,w,v,k=>
  if h:t=w/\off=0/\p=[]then k (h.1.symm▸v)
  else match t,x,k with
   | .pr a c,x,k=>if off+(if p=[]then w.sz else 1)<=a.sz then pst a x.1 off p w v λy=>k (y,x.2)
    else if a.sz<=off then pst c x.2 (off-a.sz) p w v λy=>k (x.1,y)
    else Y
   | .ar _ t,x,k=>if p=[]then(vat x (off/t.sz)).bind λy=>pst t y (off%t.sz) p w v λy=>k (bN x (off/t.sz) y)
    else match off,p with|0,.a i e::r=>if e=t.sz then(vat x i).bind λy=>pst t y (spf 0 r).1 (spf 0 r).2 w v λy=>k (bN x i y)else Y|_,_=>Y
   |_,_,_=>Y
end
theorem JJW{α:Type}{a b v:List α}{off n:Nat}(h:sub a off n=Z v):sub (a++b) off n=Z v:=by
 grind [EC]
theorem JI9{α:Type}{a b v:List α}{off n:Nat}(h0:a.length<=off)(h:sub b (off-a.length) n=Z v):sub (a++b) off n=Z v:=by
 grind [EC,List.drop_append,List.drop_of_length_le]
theorem JKU{α:Type}{a b v a':List α}{off:Nat}(h:spl a off v=Z a'):spl (a++b) off v=Z (a'++b):=by
 grind [IM]
theorem JH7{α:Type}{a b v e:List α}{off:Nat}(h0:a.length<=off)(h:spl b (off-a.length) v=Z e):spl (a++b) off v=Z (a++e):=by
 rw[IM]at h⊢;split at h;injection h with h;rw[if_pos (by simp;omega),<-h,List.take_append,e! h0,List.drop_append,List.drop_of_length_le (by omega)];simp;omega;cases h
theorem Pz{α:Type}{n i:Nat}{x:Vector α n}{y:α}(h:x[i]?=Z y):i<n:=by
 grind
theorem zJ{R:Type}{t w:Ty}{x:t.D}{off:Nat}{p:List Sp}{k:w.D->Option R}{r:R}(h0:t=w/\off=0/\p=[])(h:k (h0.1▸x)=Z r):
  ∃y,sub (_A t x) (off+spo p) w.sz=Z (_A w y)/\k y=Z r:=by
 obtain⟨rfl,rfl,rfl⟩:=h0;grind [spo,kq,eW]
theorem zL{R:Type}{t w:Ty}{x:t.D}{off:Nat}{p:List Sp}{v:w.D}{k:t.D->Option R}{r:R}(h0:t=w/\off=0/\p=[])(h:k (h0.1.symm▸v)=Z r):
  ∃y,spl (_A t x) (off+spo p) (_A w v)=Z (_A t y)/\k y=Z r:=by
 obtain⟨rfl,rfl,rfl⟩:=h0;grind [spo,Rl,eW]
theorem zQ{R:Type}: ∀{t:Ty} {x:t.D} {off:Nat} {p:List Sp} {w:Ty} {k:w.D->Option R} {r:R},prt t x off p w k=Z r->
  ∃y,sub (_A t x) (off+spo p) w.sz=Z (_A w y)/\k y=Z r
 | .pr a c,x,off,p,w,k,r,h=>by
  unfold prt at h;by_cases g:Ty.pr a c=w/\off=0/\p=[];rw[dif_pos g]at h;exact zJ g h;rw[dif_neg g]at h;dsimp only at h;by_cases h1:off+(if p=[]then w.sz else 1)<=a.sz;rw[if_pos h1]at h;obtain⟨y,v,o⟩:=zQ h;exact⟨y,JJW v,o⟩;rw[if_neg h1]at h;by_cases h2:a.sz<=off;rw[if_pos h2]at h;obtain⟨y,v,o⟩:=zQ h;refine⟨y,JI9 (by grind [eW]) ?_,o⟩;grind [eW];simp_all
 | .ar n t,x,off,p,w,k,r,h=>by
  unfold prt at h;by_cases g:Ty.ar n t=w/\off=0/\p=[];rw[dif_pos g]at h;exact zJ g h;rw[dif_neg g]at h;dsimp only at h;by_cases hp:p=[];rw[if_pos hp]at h;obtain⟨z,j,h⟩:=bV.1 h;obtain⟨y,h1,h2⟩:=zQ h;refine⟨y,?_,h2⟩;have:=Qy (PD (eW t) j) h1;grind [_A,Nat.div_add_mod];rw[if_neg hp]at h;split at h;rename_i _ i e q _;split at h;rename_i A;obtain⟨z,j,h⟩:=bV.1 h;obtain⟨y,h1,h2⟩:=zQ h;refine⟨y,?_,h2⟩;have:=Qy (PD (eW t) j) h1;grind [_A,TZ,spo];cases h;cases h
 | .b,x,off,p,w,k,r,h=>by
  unfold prt at h;split at h
  next g=>exact zJ g h
  next=>cases h
 | .i _,x,off,p,w,k,r,h=>by
  unfold prt at h;split at h
  next g=>exact zJ g h
  next=>cases h
 | .s,x,off,p,w,k,r,h=>by
  unfold prt at h;split at h
  next g=>exact zJ g h
  next=>cases h
 | .l _,x,off,p,w,k,r,h=>by
  unfold prt at h;split at h
  next g=>exact zJ g h
  next=>cases h
 | .u,x,off,p,w,k,r,h=>by
  unfold prt at h;split at h
  next g=>exact zJ g h
  next=>cases h
 | .f,x,off,p,w,k,r,h=>by
  unfold prt at h;split at h
  next g=>exact zJ g h
  next=>cases h
theorem DP{R:Type}: ∀{t:Ty} {x:t.D} {off:Nat} {p:List Sp} {w:Ty} {v:w.D} {k:t.D->Option R} {r:R},pst t x off p w v k=Z r->
  ∃y,spl (_A t x) (off+spo p) (_A w v)=Z (_A t y)/\k y=Z r
 | .pr a c,x,off,p,w,v,k,r,h=>by
  unfold pst at h;by_cases g:Ty.pr a c=w/\off=0/\p=[];rw[dif_pos g]at h;exact zL g h;rw[dif_neg g]at h;dsimp only at h;by_cases h1:off+(if p=[]then w.sz else 1)<=a.sz;rw[if_pos h1]at h;obtain⟨y,A,o⟩:=DP h;exact⟨(y,x.2),JKU A,o⟩;rw[if_neg h1]at h;by_cases h2:a.sz<=off;rw[if_pos h2]at h;obtain⟨y,A,o⟩:=DP h;refine⟨(x.1,y),JH7 (by grind [eW]) ?_,o⟩;grind [eW];simp_all
 | .ar n t,x,off,p,w,v,k,r,h=>by
  unfold pst at h;by_cases g:Ty.ar n t=w/\off=0/\p=[];rw[dif_pos g]at h;exact zL g h;rw[dif_neg g]at h;dsimp only at h;by_cases hp:p=[];rw[if_pos hp]at h;obtain⟨z,j,h⟩:=bV.1 h;obtain⟨y,h1,h2⟩:=DP h;refine⟨_,?_,h2⟩;have:=Pj (PD (eW t) j) h1 (Nu (eW t) (Pz j) y);subst hp;simp only[spo,yI]at this⊢;rw[GN,Nat.div_add_mod]at this;exact this;rw[if_neg hp]at h;split at h;rename_i _ i e q _;split at h;rename_i B;obtain⟨z,j,h⟩:=bV.1 h;obtain⟨y,h1,h2⟩:=DP h;refine⟨_,?_,h2⟩;have:=Pj (PD (eW t) j) h1 (Nu (eW t) (Pz j) y);have C:=TZ 0 q;simp only[spo,B];rw[show i*t.sz+((spf 0 q).1+spo (spf 0 q).2)=0+(i*t.sz+spo q) by omega]at this;exact this;cases h;cases h
 | .b,x,off,p,w,v,k,r,h=>by
  unfold pst at h;split at h
  next g=>exact zL g h
  next=>cases h
 | .i _,x,off,p,w,v,k,r,h=>by
  unfold pst at h;split at h
  next g=>exact zL g h
  next=>cases h
 | .s,x,off,p,w,v,k,r,h=>by
  unfold pst at h;split at h
  next g=>exact zL g h
  next=>cases h
 | .l _,x,off,p,w,v,k,r,h=>by
  unfold pst at h;split at h
  next g=>exact zL g h
  next=>cases h
 | .u,x,off,p,w,v,k,r,h=>by
  unfold pst at h;split at h
  next g=>exact zL g h
  next=>cases h
 | .f,x,off,p,w,v,k,r,h=>by
  unfold pst at h;split at h
  next g=>exact zL g h
  next=>cases h
end Go.Am
end
section
namespace Go.Am
inductive TC where|d (t:Ty) (x:t.D)|sc (t:Ty) (_f:List t.D)|np|nf|un|ptr (b:Nat) (p:List Sp)|cp (t:Ty) (x:t.D) (p:List Sp)|_r (b:Nat)|slo (b n:Nat)|ep (b i:Nat) (p:List Sp)|epo (b e i:Nat) (p:List Sp)|pre (b k:Nat)|pro (b n k:Nat)|suf (b i:Nat)|suo (b i n:Nat)|fn (f:FuncId)
inductive TA where|c (x:TC)|dt (t:Ty) (x:t.D)|m (t:Ty) (cs:List TC)|fn (f:FuncId) (first caps:List TC)
inductive TV where|a (x:TA)|tup (vs:List TA)
inductive TB where|dead|box (t:Ty) (x:t.D)|mbox (t:Ty) (cs:List TC)|arr (w:Bool) (t:Ty) (_f:List t.D)
structure _u where
 env:List (Nat×TV)
 _o:List TB
def hdP:List PV->PV|[c]=>c|_=>.np
def lnB:TB->Nat| .arr _ _ _f=>_f.length|_=>0
def lnO:Option TB->Nat|some x=>lnB x|none=>0
def _v(_o:List TB)(b:Nat):Nat:=lnO _o[b]?
section
variable (L:Nat->Nat)
def bI:TC->AV| .d t x=>.p (hdP (_A t x))| .sc t _f=>.p (.slc t.sz (_f.map (_A t)))| .np=>.p .np| .nf=>.p .nf| .un=>.unk| .ptr b p=>.ptr b (spo p)| .cp t x p=>.cp (_A t x) (spo p)| ._r b=>._r b 0 (L b)| .slo b n=>._r b 0 n| .ep b i p=>.ep b (L b) i (spo p)| .epo b e i p=>.ep b e i (spo p)| .pre b k=>.pre b (L b) k| .pro b n k=>.pre b n k| .suf b i=>._r b (min i (L b)) (L b-i)| .suo b i n=>._r b i n| .fn f=>.fn f [] []
def bY:TA->AV| .c x=>bI L x| .dt t x=>.data (_A t x)| .m _ cs=>.agg (cs.map (bI L))| .fn f a c=>.fn f (a.map (bI L)) (c.map (bI L))
def aZ:TV->AV| .a x=>bY L x| .tup vs=>.tup (vs.map (bY L))
def bH:TB->_w| .dead=>.dead| .box t x=>.box ((_A t x).map .p)| .mbox _ cs=>.box (cs.map (bI L))| .arr w t _f=>.arr w t.sz (_f.map (_A t))
end
def gG(L:Nat->Nat)(env:List (Nat×TV)):List (Nat×AV):=env.map λx=>(x.1,aZ L x.2)
def JD(s:_u):St:=⟨gG (_v s._o) s.env,s._o.map (bH (_v s._o))⟩
section
variable (L:Nat->Nat)
theorem DE(t x):bH L (.box t x)=.box ((_A t x).map .p):=rfl
theorem PR(t cs):bH L (.mbox t cs)=.box (cs.map (bI L)):=rfl
theorem jm(w t _f):bH L (.arr w t _f)=.arr w t.sz (_f.map (_A t)):=rfl
theorem lW(b p):aZ L (.a (.c (.ptr b p)))=.ptr b (spo p):=rfl
theorem nU(t x p):aZ L (.a (.c (.cp t x p)))=.cp (_A t x) (spo p):=rfl
theorem iS(b):aZ L (.a (.c (._r b)))=._r b 0 (L b):=rfl
theorem mM(b i p):aZ L (.a (.c (.ep b i p)))=.ep b (L b) i (spo p):=rfl
theorem e_i(k x):aZ L (.a (.c (.d (.i k) x)))=.p (.i k x):=rfl
theorem e_b(x):aZ L (.a (.c (.d .b x)))=.p (.b x):=rfl
theorem e_s(x):aZ L (.a (.c (.d .s x)))=.p (.s x):=rfl
theorem e_l(t x):aZ L (.a (.c (.d (.l t) x)))=.p (.sl t.sz (x.map (_A t))):=rfl
theorem L9(f):aZ L (.a (.c (.fn f)))=.fn f [] []:=rfl
theorem vg(t x):aZ L (.a (.dt t x))=.data (_A t x):=rfl
theorem vo(f a c):aZ L (.a (.fn f a c))=.fn f (a.map (bI L)) (c.map (bI L)):=rfl
theorem e_m(t cs):aZ L (.a (.m t cs))=.agg (cs.map (bI L)):=rfl
end
theorem MR{t:Ty}(h:t.sz=1)(x:t.D):_A t x=[hdP (_A t x)]:=by
 have:=eW t x;rw[h]at this
 match hc:_A t x,this with
 |[c],_=>rfl
def kC(b n:Nat):TC->TC| ._r c=>if c=b then .slo b n else ._r c| .ep c i p=>if c=b then .epo b n i p else .ep c i p| .pre c k=>if c=b then .pro b n k else .pre c k| .suf c i=>if c=b then .suo b (min i n) (n-i)else .suf c i|x=>x
def kA(b n:Nat):TA->TA| .c x=>.c (kC b n x)| .dt t x=>.dt t x| .m t cs=>.m t (cs.map (kC b n))| .fn f a c=>.fn f (a.map (kC b n)) (c.map (kC b n))
def kV(b n:Nat):TV->TV| .a x=>.a (kA b n x)| .tup vs=>.tup (vs.map (kA b n))
def kB(b n:Nat):TB->TB| .mbox t cs=>.mbox t (cs.map (kC b n))|x=>x
def wS(b:Nat)(x:TB)(s:_u):_u:=⟨s.env,s._o.set b x⟩
def wN(b:Nat)(x:TB)(s:_u):_u:=⟨s.env.map λy=>(y.1,kV b (_v s._o b) y.2),(s._o.map (kB b (_v s._o b))).set b x⟩
def bL(d:Option Nat)(v:TV)(s:_u):_u:=
 match d with
 |some d=>⟨(d,v)::s.env,s._o⟩
 |none=>s
section
variable {L L':Nat->Nat} {b:Nat}
theorem k_C(h: ∀c,c≠b->L' c=L c)(x:TC):bI L' (kC b (L b) x)=bI L x:=by cases x<;>grind [kC,bI]
theorem Lt(h: ∀c,c≠b->L' c=L c)(xs:List TC):(xs.map (kC b (L b))).map (bI L')=xs.map (bI L):=by simp_all [k_C]
theorem k_A(h: ∀c,c≠b->L' c=L c)(x:TA):bY L' (kA b (L b) x)=bY L x:=by cases x<;>simp only[kA,bY,k_C h,Lt h]
theorem k_V(h: ∀c,c≠b->L' c=L c)(x:TV):aZ L' (kV b (L b) x)=aZ L x:=by cases x<;>simp only[kV,aZ,k_A h,BR,Function.comp_def]
theorem k_B(h: ∀c,c≠b->L' c=L c)(x:TB):bH L' (kB b (L b) x)=bH L x:=by cases x<;>simp only[kB,bH,Lt h]
theorem JPL(b n:Nat)(x:TB):lnB (kB b n x)=lnB x:=by cases x<;>rfl
theorem JO8(_o:List TB)(b n c:Nat):_v (_o.map (kB b n)) c=_v _o c:=by
 unfold _v;rw[iM];cases _o[c]? with
 |none=>rfl
 |some x=>exact JPL b n x
theorem P3(_o:List TB)(b:Nat)(x:TB)(c:Nat)(h:c≠b):_v (_o.set b x) c=_v _o c:=by
 grind [_v]
theorem jl{_o:List TB}{b:Nat}(h:b<_o.length)(x:TB):_v (_o.set b x) b=lnB x:=by unfold _v;rw[ML h];rfl
theorem M6(b:Nat)(x:TB)(s:_u):JD (wN b x s)=⟨(JD s).env,(JD s)._o.set b (bH (_v (wN b x s)._o) x)⟩:=by
 have h: ∀c,c≠b->_v (wN b x s)._o c=_v s._o c:=λc hc=>by
  grind [wN,P3,JO8]
 unfold JD
 congr 1
 show gG _ (s.env.map λy=>(y.1,kV b (_v s._o b) y.2))=gG _ s.env;simp_all [gG,k_V];show((s._o.map (kB b (_v s._o b))).set b x).map _=_;grind [List.map_set,List.map_congr_left,k_B]
theorem HZ{b:Nat}{x:TB}{s:_u}(h:lnB x=_v s._o b):_v (wS b x s)._o=_v s._o:=by
 grind [wS,jl,List.set_eq_of_length_le,P3]
theorem CZ{b:Nat}{x:TB}{s:_u}(h:lnB x=_v s._o b):JD (wS b x s)=⟨(JD s).env,(JD s)._o.set b (bH (_v s._o) x)⟩:=by
 grind [JD,HZ,wS,List.map_set]
theorem tJ{s s1:_u}{ws:List (Nat×_w)}(h:JD s1=⟨(JD s).env,upd ws (JD s)._o⟩)(d:Option Nat)(v:TV):put d ⟨aZ (_v s1._o) v,ws⟩ (JD s)=JD (bL d v s1):=by cases d<;>simp_all [bL,JD,gG]
end
theorem PY{s:_u}(d:Option Nat)(v:TV):put d ⟨aZ (_v s._o) v,[]⟩ (JD s)=JD (bL d v s):=tJ rfl d v
def tlk(n:Nat):List (Nat×TV)->Option TV|[]=>Y|(m,v)::r=>if n=m then Z v else tlk n r
theorem DN(L:Nat->Nat)(n:Nat): ∀env:List (Nat×TV),lk n (gG L env)=(tlk n env).map (aZ L)
 |[]=>rfl
 |(m,v)::r=>by
  simp only[gG,cJ,lk,tlk];split;rfl;exact DN L n r
theorem eS(s:_u)(b:Nat):(JD s)._o[b]?=(s._o[b]?).map (bH (_v s._o)):=by simp[JD]
theorem mB{_o:List TB}{b:Nat}{w:Bool}{t:Ty}{_f:List t.D}(h:_o[b]?=Z (.arr w t _f)):_v _o b=_f.length:=by unfold _v;rw[h];rfl
inductive TO where|t (n:Nat)|c (x:TV)
def erO:TO->Opd| .t n=>.t n| .c x=>.c (aZ (λ_=>0) x)
def Mr:TC->Bool| .d _ _| .sc _ _| .np| .nf| .un| .fn _=>O|_=>J
def UD:TA->Bool| .c x=>Mr x| .dt _ _=>O| .m _ _=>J| .fn _ a c=>a.isEmpty&&c.isEmpty
def HI:TV->Bool| .a x=>UD x| .tup vs=>vs.isEmpty
theorem JK1{L L':Nat->Nat}{v:TV}(h:HI v=O):aZ L v=aZ L' v:=by
 cases v with
 |a x=>
  cases x with
  |c x=>cases x<;>first|rfl|grind [HI,UD,Mr]
  |dt t x=>rfl
  |m t cs=>grind [HI,UD]
  |fn f a c=>simp[HI,UD]at h;obtain⟨rfl,rfl⟩:=h;rfl
 |tup vs=>simp[HI]at h;subst h;rfl
def tev:TO->_u->Option TV| .t n,s=>tlk n s.env| .c x,_=>if HI x=O then Z x else Y
theorem cM{x:TO}{s:_u}{v:TV}(h:tev x s=Z v):(ev (erO x)).run (JD s)=Z (aZ (_v s._o) v):=by
 cases x with
 |t n=>simp only[erO,ev,zV];show(lk n (gG (_v s._o) s.env)).bind _=_;rw[DN,show tlk n s.env=Z v from h];rfl
 |c x=>
  grind [tev,erO,ev,bS,JK1]
end Go.Am
end
section
namespace Go.Am
@[reducible] def vi(k:IntKind)(n:Int):TV:=.a (.c (.d (.i k) n))
@[reducible] def vb(x:Bool):TV:=.a (.c (.d .b x))
@[reducible] def vs(l:List UInt8):TV:=.a (.c (.d .s l))
@[reducible] def vl(t:Ty)(l:List t.D):TV:=.a (.c (.d (.l t) l))
def uv:TV:=.tup []
def mkv(agg:Bool)(t:Ty)(x:t.D):TV:=if agg=O then .a (.dt t x)else .a (.c (.d t x))
def Ok{R:Type}(m:RM Eff)(d:Option Nat)(s:_u)(k:_u->Option R)(r:R):Prop:= ∃e s',m.run (JD s)=Z e/\put d e (JD s)=JD s'/\k s'=Z r
def asm:(t:Ty)->List TC->Option t.D
 | .pr a c,l=>match asm a (l.take a.sz),asm c (l.drop a.sz)with|some x,Z y=>Z (x,y)|_,_=>Y
 | .ar _ _,_=>Y
 | .u,l=>if l.isEmpty=O then Z ()else Y
 |t,l=>match l with|[.d t' x]=>if h:t'=t then Z (h▸x)else Y|_=>Y
def CF:(t:Ty)->t.D->Option (List TC)
 | .pr a c,x=>match CF a x.1,CF c x.2 with|some l,Z q=>Z (l++q)|_,_=>Y
 | .ar _ _,_=>Y
 | .u,_=>Z []
 |t,x=>Z [.d t x]
theorem OZ(L:Nat->Nat): ∀{t:Ty} {l:List TC} {x:t.D},asm t l=Z x->l.map (bI L)=(_A t x).map .p
 | .pr a c,l,x,h=>by
  simp only[asm]at h;split at h;rename_i y z g j;cases h;have h1:=OZ L g;have h2:=OZ L j;grind [_A,List.take_append_drop];cases h
 | .ar _ _,_,_,h=>by cases h
 | .u,l,x,h=>by
  simp only[asm]at h;split at h;rename_i e;rw[List.isEmpty_iff.1 e];rfl;cases h
 | .b,l,x,h=>by
  simp only[asm]at h;split at h;split at h;rename_i e;subst e;cases h;rfl;cases h;cases h
 | .i _,l,x,h=>by
  simp only[asm]at h;split at h;split at h;rename_i e;subst e;cases h;rfl;cases h;cases h
 | .s,l,x,h=>by
  simp only[asm]at h;split at h;split at h;rename_i e;subst e;cases h;rfl;cases h;cases h
 | .l _,l,x,h=>by
  simp only[asm]at h;split at h;split at h;rename_i e;subst e;cases h;rfl;cases h;cases h
 | .f,l,x,h=>by
  simp only[asm]at h;split at h;split at h;rename_i e;subst e;cases h;rfl;cases h;cases h
theorem PN(L:Nat->Nat): ∀{t:Ty} {x:t.D} {l:List TC},CF t x=Z l->l.map (bI L)=(_A t x).map .p
 | .pr a c,x,l,h=>by
  simp only[CF]at h;split at h;rename_i y z e g;cases h;have h1:=PN L e;have h2:=PN L g;grind [_A];cases h
 | .ar _ _,_,_,h=>by cases h
 | .u,x,l,h=>by cases h;rfl
 | .b,x,l,h=>by cases h;rfl
 | .i _,x,l,h=>by cases h;rfl
 | .s,x,l,h=>by cases h;rfl
 | .l _,x,l,h=>by cases h;rfl
 | .f,x,l,h=>by cases h;rfl
def zcs:Ty->List TC| .pr a c=>zcs a++zcs c| .ar n t=>(_P n (zcs t)).flatten| .u=>[]|t=>[.d t t.zero]
theorem HX(L:Nat->Nat): ∀t:Ty,(zcs t).map (bI L)=(_A t t.zero).map .p| .pr a c=>by simp only[zcs,sR,HX L a,HX L c,Ty.zero,_A]| .ar n t=>by have ih:=HX L t;simp_all [_A,rA,Ty.zero,zcs]| .u=>rfl| .b=>rfl| .i _=>rfl| .s=>rfl| .l _=>rfl| .f=>rfl
def mkb(t:Ty)(cs:List TC):TB:=match asm t cs with|some x=>.box t x|none=>.mbox t cs
theorem WJ(L:Nat->Nat)(t:Ty)(cs:List TC):bH L (mkb t cs)=.box (cs.map (bI L)):=by
 unfold mkb;split;grind [DE,OZ];rfl
theorem WC(t:Ty)(cs:List TC):lnB (mkb t cs)=0:=by unfold mkb;split<;>rfl
def d6:TC->Bool| .ptr _ _| .cp _ _ _| ._r _| .slo _ _| .ep _ _ _| .epo _ _ _ _| .un| .fn _| .pre _ _| .pro _ _ _| .suf _ _| .suo _ _ _=>O|_=>J
theorem ku(L:Nat->Nat): ∀{cs:List TC},cs.any d6=O->unp (cs.map (bI L))=Y
 |[],h=>by simp at h
 |x::r,h=>by
  simp only[List.any_cons,CM]at h;rcases h with h|h;cases x<;>simp[d6]at h<;>rfl
  have:=ku L h;cases x<;>simp[bI,unp,this]
def mka(agg:Bool)(t:Ty)(cs:List TC):Option TV:=
 if agg=O then
  match asm t cs with
  |some x=>Z (.a (.dt t x))
  |none=>if cs.any d6=O then Z (.a (.m t cs))else Y
 else match cs with|[c]=>Z (.a (.c c))|_=>Y
theorem ID(L:Nat->Nat){agg:Bool}{t:Ty}{cs:List TC}{v:TV}(h:mka agg t cs=Z v):mD agg (cs.map (bI L))=Z (aZ L v):=by
 unfold mka at h;split at h;rename_i e;subst e;split at h;rename_i x j;cases h;rw[OZ L j,D7];rfl;split at h;rename_i g;cases h;simp only[mD,ku L g,if_true];rfl;cases h;rename_i e;split at h;cases h;have:agg=J:=by simpa using e
 subst this;rfl;cases h
def tcs:TV->Option (List TC)| .a (.c .un)=>Y| .a (.c (.pre _ _))=>Y| .a (.c (.pro _ _ _))=>Y| .a (.c x)=>Z [x]| .a (.dt t x)=>CF t x| .a (.m _ cs)=>Z cs| .a (.fn f [] [])=>Z [.fn f]|_=>Y
theorem PC(L:Nat->Nat){v:TV}{cs:List TC}(h:tcs v=Z cs):cellsOf (aZ L v)=Z (cs.map (bI L)):=by
 cases v with
 |a x=>
  cases x with
  |c x=>cases x<;>cases h<;>rfl
  |dt t x=>simp only[aZ,bY,cellsOf];rw[PN L h]
  |m t cs=>cases h;rfl
  |fn f a c=>
   cases a with
   |nil=>cases c with
    |nil=>cases h;rfl
    |cons y c=>cases h
   |cons y a=>cases h
 |tup vs=>cases h
def tdv(t:Ty):TV->Option t.D| .a (.c (.d t' x))=>if h:t'=t then Z (h▸x)else Y| .a (.dt t' x)=>if h:t'=t then Z (h▸x)else Y|_=>Y
def agv:TV->Bool| .a (.dt _ _)=>O|_=>J
theorem JPN(L:Nat->Nat){t:Ty}{v:TV}{x:t.D}(h:tdv t v=Z x):aZ L v=if agv v=O then .data (_A t x)else .p (hdP (_A t x)):=by
 unfold tdv at h;split at h;split at h;rename_i e;subst e;cases h;rfl;cases h;split at h;rename_i e;subst e;cases h;rfl;cases h;cases h
def uU:List Sp->Option Nat
 |[]=>Z 0
 | .f o::r=>match uU r with|some n=>Z (o+n)|none=>Y
 | .a _ _::_=>Y
theorem HV: ∀{p:List Sp} {n:Nat},uU p=Z n->spo p=n
 |[],n,h=>by injection h with h
 | .f o::r,n,h=>by
  simp only[uU]at h;split at h;rename_i m e;injection h with h;simp only[spo,HV e,h];cases h
 | .a _ _::_,_,h=>by cases h
section
variable {R:Type}
def ye(agg:Bool)(t:Ty)(v:TV)(d:Option Nat)(s:_u)(k:_u->Option R):Option R:=
 if agg=O\/t.sz=1 then
  match v with
  | .a (.c (.cp e x p))=>prt e x (spf 0 p).1 (spf 0 p).2 t λy=>k (bL d (mkv agg t y) s)
  | .a (.c (.ptr b p))=>match s._o[b]? with
   |some (.box e x)=>prt e x (spf 0 p).1 (spf 0 p).2 t λy=>k (bL d (mkv agg t y) s)
   |some (.mbox _ cs)=>match uU p with
    |some off=>match sub cs off t.sz with
     |some l=>match mka agg t l with|some v=>k (bL d v s)|none=>Y
     |none=>Y
    |none=>Y
   |_=>Y
  | .a (.c (.ep b i p))=>match s._o[b]? with|some (.arr _ e _f)=>(bM _f i).bind λrow=>prt e row (spf 0 p).1 (spf 0 p).2 t λy=>k (bL d (mkv agg t y) s)|_=>Y
  |_=>Y
 else Y
theorem HU(L:Nat->Nat){agg:Bool}{t:Ty}(h:agg=O\/t.sz=1)(y:t.D):qJ agg (_A t y)=Z (aZ L (mkv agg t y)):=by
 unfold mkv;split;rename_i e;subst e;rfl;rename_i e;have:agg=J:=by simpa using e
 subst this;have:=h.resolve_left (by simp);rw[MR this];rfl
theorem RR(p:List Sp):(spf 0 p).1+spo (spf 0 p).2=spo p:=by simp[TZ]
theorem JKH{agg:Bool}{t:Ty}{v:TV}{d:Option Nat}{s:_u}{k:_u->Option R}{r:R}(h:ye agg t v d s k=Z r):Ok (hY agg t.sz (aZ (_v s._o) v)) d s k r:=by
 unfold ye at h;split at h;rename_i g;split at h;rename_i j x p;obtain⟨y,h1,h2⟩:=zQ h;rw[RR]at h1;refine⟨_,_,?_,PY d (mkv agg t y),h2⟩;simp only[lW,nU,mM,iS,hY,h1,HU (_v s._o) g,val];rfl;rename_i b p;split at h;rename_i j x hb;obtain⟨y,h1,h2⟩:=zQ h;rw[RR]at h1;refine⟨_,_,?_,PY d (mkv agg t y),h2⟩;have hc:mD agg ((_A t y).map .p)=qJ agg (_A t y):=by
  unfold mD qJ;split;rw[IR];cases hcel:_A t y with
  |nil=>rfl
  |cons a l=>cases l<;>rfl
 simp only[lW,nU,mM,iS,hY,eT,eS,hb,dB,JF,bH,IU,h1,hc,HU (_v s._o) g,val];rfl;rename_i cs hb;split at h;rename_i off n;split at h;rename_i l hl;split at h;rename_i v o;refine⟨_,_,?_,PY d v,h⟩;simp only[lW,nU,mM,iS,hY,eT,eS,hb,dB,JF,bH,IU,HV n,hl,ID (_v s._o) o,val];rfl;cases h;cases h;cases h;cases h;rename_i b i p;split at h;rename_i w j _f hb;obtain⟨row,e,h⟩:=bV.1 h;have e:_f[i]?=Z row:=e;obtain⟨y,h1,h2⟩:=zQ h;rw[RR]at h1;refine⟨_,_,?_,PY d (mkv agg t y),h2⟩;simp only[lW,nU,mM,iS,hY,eT,eS,hb,dB,JF,bH,mB hb,eN,if_true,iM,e,h1,HU (_v s._o) g,val];rfl;cases h;cases h;cases h
end
end Go.Am
end
section
namespace Go.Am
section
variable {R:Type}
def fzC:(t:Ty)->List TC->_u->(t.D->_u->Option R)->Option R
 | .pr a c,l,s,k=>fzC a (l.take a.sz) s λx s=>fzC c (l.drop a.sz) s λy s=>k (x,y) s
 | .ar _ _,_,_,_=>Y
 | .u,l,s,k=>if l.isEmpty=O then k () s else Y
 | .l e,l,s,k=>match l with
  |[.d t' x]=>if h:t'=.l e then k (h▸x) s else Y
  |[._r b]=>match s._o[b]? with|some (.arr _ e' _f)=>if h:e'=e then k (h▸_f) (wS b (.arr J e' _f) s)else Y|_=>Y
  |_=>Y
 |t,l,s,k=>match l with|[.d t' x]=>if h:t'=t then k (h▸x) s else Y|_=>Y
def tfz(t:Ty)(v:TV)(s:_u)(k:t.D->_u->Option R):Option R:=
 match v with
 | .a (.dt t' x)=>if h:t'=t then k (h▸x) s else Y
 | .a (.c x)=>fzC t [x] s k
 | .a (.m _ cs)=>fzC t cs s k
 |_=>Y
def Fzd(s s':_u)(ws:List (Nat×_w)):Prop:=s'.env=s.env/\_v s'._o=_v s._o/\JD s'=⟨(JD s).env,upd ws (JD s)._o⟩/\(∀(b:Nat) (t:Ty) (_f:List t.D) (w:Bool),s'._o[b]?=Z (TB.arr w t _f)-> ∃w',s._o[b]?=Z (TB.arr w' t _f))/\(∀(b:Nat) (t:Ty) (_f:List t.D),s._o[b]?=Z (TB.arr J t _f)->s'._o[b]?=Z (TB.arr J t _f))/\ ∀x∈ws,∃(t:Ty) (_f:List t.D),s'._o[x.1]?=Z (TB.arr J t _f)
theorem Fzd.refl(s:_u):Fzd s s []:=⟨rfl,rfl,rfl,λb t _f w h=>⟨w,h⟩,λb t _f h=>h,λx h=>by cases h⟩
theorem Fzd.trans{s1 e g:_u}{a c:List (Nat×_w)}(h:Fzd s1 e a)(j:Fzd e g c):Fzd s1 g (a++c):=by
 obtain⟨h1,h2,B,z,o,y⟩:=h;obtain⟨n,q,A,v,k,r⟩:=j;refine⟨n.trans h1,q.trans h2,?_,λb t _f w h=>?_,λb t _f h=>k b t _f (o b t _f h),λx C=>?_⟩
 all_goals grind [fM]
theorem ky{s:_u}{b:Nat}{w:Bool}{t:Ty}{_f:List t.D}(hb:s._o[b]?=Z (.arr w t _f)):Fzd s (wS b (.arr J t _f) s) [(b,.arr J t.sz (_f.map (_A t)))]:=by
 have hl:lnB (.arr J t _f)=_v s._o b:=by rw[mB hb];rfl
 have hs:(wS b (.arr J t _f) s)._o[b]?=Z (.arr J t _f):=by grind [wS]
 have g: ∀c,c≠b->(wS b (.arr J t _f) s)._o[c]?=s._o[c]?:=λc hc=>by grind [wS]
 refine⟨rfl,HZ hl,CZ hl,λc t' e w' h=>?_,λc t' e h=>?_,λx j=>?_⟩
 all_goals grind
theorem JMp(x y:List AV)(st:St):(fz.fzL (x++y)).run st=((fz.fzL x).run st).bind λa=>((fz.fzL y).run st).map λc=>(a.1++c.1,a.2++c.2):=by
 induction x with
 |nil=>simp_all
 |cons v x ih=>
  simp only[uR,fz.fzL,run_bind,ih];cases(fz.fz1 v).run st with
  |none=>rfl
  |some a=>
   simp only[JF];cases(fz.fzL x).run st with
   |none=>rfl
   |some c=>simp only[JF];cases(fz.fzL y).run st<;>simp_all
theorem OR{L:Nat->Nat}{t t':Ty}{x:t'.D}(h:t'=t)(h1:t.sz=1)(st:St):(fz.fzL ([TC.d t' x].map (bI L))).run st=Z (_A t (h▸x),[]):=by
 grind [MR,bI,fz.fzL,fz.fz1,run_bind,bS]
theorem PF: ∀{t:Ty} {l:List TC} {s0 s:_u} {w0:List (Nat×_w)} {k:t.D->_u->Option R} {r:R},Fzd s0 s w0->fzC t l s k=Z r->
  ∃y s' ws,(fz.fzL (l.map (bI (_v s0._o)))).run (JD s0)=Z (_A t y,ws)/\Fzd s0 s' (w0++ws)/\k y s'=Z r
 | .pr a c,l,s0,s,w0,k,r,j,h=>by simp only[fzC]at h;obtain⟨x,s1,v,A,o,h⟩:=PF j h;obtain⟨y,q,B,z,C,h⟩:=PF o h;refine⟨(x,y),q,v++B,?_,by simp_all,h⟩;have:=JMp ((l.take a.sz).map (bI (_v s0._o))) ((l.drop a.sz).map (bI (_v s0._o))) (JD s0);rw[<-sR,nV,A,z]at this;exact this
 | .ar _ _,_,_,_,_,_,_,_,h=>by cases h
 | .u,l,s0,s,w0,k,r,j,h=>by
  simp only[fzC]at h;split at h;rename_i g;refine⟨(),s,[],?_,by simp_all,h⟩;rw[List.isEmpty_iff.1 g];rfl;cases h
 | .l e,l,s0,s,w0,k,r,j,h=>by
  simp only[fzC]at h;split at h;split at h;rename_i g;exact⟨_,s,[],OR g rfl _,by simp_all,h⟩;cases h;rename_i b;split at h;rename_i w e' _f hb;split at h;rename_i g;subst g;obtain⟨w',n⟩:=j.2.2.2.1 b _ _f w hb;refine⟨_f,_,[(b,.arr J e'.sz (_f.map (_A e')))],?_,j.trans (ky hb),h⟩;simp only[cJ,List.map_nil,bI,fz.fzL,fz.fz1,run_bind,eT,eS,n,dB,JF,bH,mB n,eN,qX,if_true,GL,bS];rfl;cases h;cases h;cases h
 | .b,l,s0,s,w0,k,r,j,h=>by
  simp only[fzC]at h;split at h;split at h;rename_i g;exact⟨_,s,[],OR g rfl _,by simp_all,h⟩;cases h;cases h
 | .i _,l,s0,s,w0,k,r,j,h=>by
  simp only[fzC]at h;split at h;split at h;rename_i g;exact⟨_,s,[],OR g rfl _,by simp_all,h⟩;cases h;cases h
 | .s,l,s0,s,w0,k,r,j,h=>by
  simp only[fzC]at h;split at h;split at h;rename_i g;exact⟨_,s,[],OR g rfl _,by simp_all,h⟩;cases h;cases h
 | .f,l,s0,s,w0,k,r,j,h=>by
  simp only[fzC]at h;split at h;split at h;rename_i g;exact⟨_,s,[],OR g rfl _,by simp_all,h⟩;cases h;cases h
theorem JRu(x:AV)(hx:(∀cs,x≠.data cs)/\ ∀cs,x≠.agg cs)(st:St){y:List PV}{ws:List (Nat×_w)}(h:(fz.fzL [x]).run st=Z (y,ws)):(fz x).run st=Z (y,ws):=by simp only[fz.fzL,run_bind,bS]at h;cases x<;>simp_all [bV]
theorem Ob{t:Ty}{v:TV}{s0 s:_u}{w0:List (Nat×_w)}{k:t.D->_u->Option R}{r:R}(g:Fzd s0 s w0)(h:tfz t v s k=Z r):
  ∃y s' ws,(fz (aZ (_v s0._o) v)).run (JD s0)=Z (_A t y,ws)/\Fzd s0 s' (w0++ws)/\k y s'=Z r:=by
 unfold tfz at h;split at h;split at h;rename_i j;subst j;exact⟨_,s,[],rfl,by simp_all,h⟩;cases h;rename_i x;obtain⟨y,s',ws,h1,h2,e⟩:=PF g h;refine⟨y,s',ws,JRu _ ⟨λcs=>?_,λcs=>?_⟩ _ h1,h2,e⟩<;>cases x<;>simp[bI,aZ,bY]
 obtain⟨y,s',ws,h1,h2,e⟩:=PF g h;exact⟨y,s',ws,h1,h2,e⟩;cases h
end
end Go.Am
end
section
namespace Go.Am
section
variable {R:Type}
theorem pu(L:Nat->Nat){t:Ty}{v:TV}{x:t.D}(h:tdv t v=Z x)(ha:agv v=O\/t.sz=1):cellsOf (aZ L v)=Z ((_A t x).map .p):=by
 rw[JPN L h];split;rfl;rename_i e;rw[MR (ha.resolve_left e)];rfl
def jp(t:Ty)(x u:TV)(d:Option Nat)(s:_u)(k:_u->Option R):Option R:=
 match x with
 | .a (.c (.ptr b p))=>match s._o[b]? with
  |some (.box e y)=>match tdv t u with
   |some z=>if agv u=O\/t.sz=1 then pst e y (spf 0 p).1 (spf 0 p).2 t z λh=>k (bL d uv (wS b (.box e h) s))else Y
   |none=>match uU p,CF e y,tcs u with
    |some off,Z cs,Z l=>if l.length=t.sz then
     match spl cs off l with
     |some cs'=>k (bL d uv (wS b (mkb e cs') s))
     |none=>Y
     else Y
    |some off,Y,Z l=>if off=0/\l.length=e.sz/\l.length=t.sz then k (bL d uv (wS b (mkb e l) s))else Y
    |_,_,_=>Y
  |some (.mbox e cs)=>match uU p,tcs u with
   |some off,Z l=>if l.length=t.sz then
    match spl cs off l with
    |some cs'=>k (bL d uv (wS b (mkb e cs') s))
    |none=>Y
    else Y
   |_,_=>Y
  |_=>Y
 | .a (.c (.ep b i p))=>tfz t u s λz s1=>match s1._o[b]? with|some (.arr O e _f)=>(bM _f i).bind λrow=>pst e row (spf 0 p).1 (spf 0 p).2 t z λg=>k (bL d uv (wS b (.arr O e (bJ _f i g)) s1))|_=>Y
 |_=>Y
theorem JPO(L:Nat->Nat):aZ L uv=iC:=rfl
theorem VR{s:_u}{b:Nat}{t:Ty}{x:t.D}(h:s._o[b]?=Z (.box t x)):_v s._o b=0:=by unfold _v;rw[h];rfl
theorem Ac{s:_u}{b:Nat}{t:Ty}{cs:List TC}(h:s._o[b]?=Z (.mbox t cs)):_v s._o b=0:=by unfold _v;rw[h];rfl
theorem EE{s:_u}{b:Nat}(h:s._o[b]?=Z .dead):_v s._o b=0:=by unfold _v;rw[h];rfl
theorem NY{m:RM Eff}{d:Option Nat}{s:_u}{k:_u->Option R}{r:R}{b:Nat}{x:TB}{v:TV}(hl:lnB x=_v s._o b)(hm:m.run (JD s)=Z ⟨aZ (_v s._o) v,[(b,bH (_v s._o) x)]⟩)
  (h:k (bL d v (wS b x s))=Z r):Ok m d s k r:=by
 refine⟨_,_,hm,?_,h⟩;have e:=HZ hl;rw[<-e];refine tJ ?_ d v;simp_all [CZ]
theorem wy{m:RM Eff}{d:Option Nat}{s:_u}{k:_u->Option R}{r:R}{b:Nat}{x:TB}{v:TV}(hm:m.run (JD s)=Z ⟨aZ (_v (wN b x s)._o) v,[(b,bH (_v (wN b x s)._o) x)]⟩)
  (h:k (bL d v (wN b x s))=Z r):Ok m d s k r:=
 ⟨_,_,hm,tJ (M6 b x s) d v,h⟩
theorem fY{m:RM Eff}{d:Option Nat}{s:_u}{k:_u->Option R}{r:R}{v:TV}(hm:m.run (JD s)=Z ⟨aZ (_v s._o) v,[]⟩)(h:k (bL d v s)=Z r):Ok m d s k r:=
 ⟨_,_,hm,PY d v,h⟩
theorem yp{m:RM Eff}{d:Option Nat}{s s':_u}{ws:List (Nat×_w)}{k:_u->Option R}{r:R}{v:TV}(f:Fzd s s' ws)(hm:m.run (JD s)=Z ⟨aZ (_v s._o) v,ws⟩)(h:k (bL d v s')=Z r):Ok m d s k r:=by refine⟨_,_,hm,?_,h⟩;rw[<-f.2.1];exact tJ f.2.2.1 d v
theorem JGJ{t:Ty}{x u:TV}{d:Option Nat}{s:_u}{k:_u->Option R}{r:R}(h:jp t x u d s k=Z r):Ok (jI t.sz (aZ (_v s._o) x) (aZ (_v s._o) u)) d s k r:=by
 unfold jp at h;split at h;rename_i b p;split at h;rename_i e y hb;split at h;rename_i z D;split at h;rename_i G;obtain⟨B,h1,h2⟩:=DP h;rw[RR]at h1;refine NY (x:=.box e B) (v:=uv) (VR hb).symm ?_ h2;simp only[lW,nU,mM,iS,jI,eT,eS,hb,dB,JF,bH,pu (_v s._o) D G,eN,eW,if_true,IS,h1,bS];rfl;cases h;split at h;rename_i off cs l n hc hl;split at h;rename_i w;split at h;rename_i cs' hs;refine NY (x:=mkb e cs') (v:=uv) ((WC _ _).trans (VR hb).symm) ?_ h;rw[WJ];simp only[lW,nU,mM,iS,jI,eT,eS,hb,dB,JF,bH,PC (_v s._o) hl,eN,w,if_true,HV n,<-PN (_v s._o) hc,IS,hs,bS];rfl;cases h;cases h;rename_i off l n _ hl;split at h;rename_i C;obtain⟨rfl,h1,h2⟩:=C;refine NY (x:=mkb e l) (v:=uv) ((WC _ _).trans (VR hb).symm) ?_ h;rw[WJ];have H:spl ((_A e y).map AV.p) 0 (l.map (bI (_v s._o)))=Z (l.map (bI (_v s._o))):=Rl (by grind [eW]);simp only[lW,nU,mM,iS,jI,eT,eS,hb,dB,JF,bH,PC (_v s._o) hl,eN,h2,if_true,HV n,H,bS];rfl;cases h;cases h;rename_i e cs hb;split at h;rename_i off l n hl;split at h;rename_i w;split at h;rename_i cs' hs;refine NY (x:=mkb e cs') (v:=uv) ((WC _ _).trans (Ac hb).symm) ?_ h;rw[WJ];simp only[lW,nU,mM,iS,jI,eT,eS,hb,dB,JF,bH,PC (_v s._o) hl,eN,w,if_true,HV n,IS,hs,bS];rfl;cases h;cases h;cases h;cases h;rename_i b i p;obtain⟨z,s1,ws,h1,f,h⟩:=Ob (Fzd.refl s) h;rw[qS]at f;split at h;rename_i e _f hb;obtain⟨row,q,h⟩:=bV.1 h;have q:_f[i]?=Z row:=q;obtain⟨g,A,_e⟩:=DP h;rw[RR]at A;obtain⟨w',j⟩:=f.2.2.2.1 b _ _f O hb;have E:w'=O:=by
  cases w' with
  |true=>rfl
  |false=>have:=f.2.2.2.2.1 b _ _f j;simp_all
 subst E;have o:(ws.all λy=>y.1 !=b)=O:=(by rw[List.all_eq_true];intro y F;obtain⟨t',rows',hf⟩:=f.2.2.2.2.2 y F;grind);have hl:lnB (.arr O e (bJ _f i g))=_v s1._o b:=by grind [mB,lnB,bJ]
 refine⟨⟨iC,ws++[(b,.arr O e.sz ((bJ _f i g).map (_A e)))]⟩,_,?_,?_,_e⟩;simp only[lW,nU,mM,iS,jI,eT,eS,j,dB,JF,bH,mB j,eN,if_true,iM,q,run_bind,h1,eW,o,and_self,A,bS,List.map_set,bJ];rw[<-JPO (_v (wS b (.arr O e (bJ _f i g)) s1)._o)];refine tJ ?_ d uv;rw[CZ hl,f.2.2.1,fM];rfl;cases h;cases h
def tpv:List (Nat×Ty×TO)->_u->Option (List (Nat×(w:Ty)×w.D))
 |[],_=>Z []
 |(off,w,o)::r,s=>match tev o s with
  |some v=>match tdv w v with
   |some z=>if agv v=O\/w.sz=1 then
    match tpv r s with
    |some l=>Z ((off,⟨w,z⟩)::l)
    |none=>Y
    else Y
   |none=>Y
  |none=>Y
def UI(t:Ty):t.D->List (Nat×(w:Ty)×w.D)->(t.D->Option R)->Option R|x,[],k=>k x|x,(off,⟨w,z⟩)::r,k=>pst t x off [] w z λe=>UI t e r k
def tpc:List (Nat×Ty×TO)->_u->Option (List (Nat×Nat×List TC))
 |[],_=>Z []
 |(off,w,o)::r,s=>match tev o s with
  |some v=>match tcs v with
   |some l=>match tpc r s with|some q=>Z ((off,w.sz,l)::q)|none=>Y
   |none=>Y
  |none=>Y
def NK:List (Nat×Nat×List TC)->List TC->Option (List TC)
 |[],cs=>Z cs
 |(off,n,c)::r,cs=>if c.length=n then
  match spl cs off c with
  |some cs'=>NK r cs'
  |none=>Y
  else Y
def erP(parts:List (Nat×Ty×TO)):List (Nat×Nat×Opd):=parts.map λx=>(x.1,x.2.1.sz,erO x.2.2)
theorem jh{s:_u}: ∀{parts:List (Nat×Ty×TO)} {l:List (Nat×Nat×List TC)},tpc parts s=Z l->
  (lZ (erP parts)).run (JD s)=Z (l.map λx=>(x.1,x.2.1,x.2.2.map (bI (_v s._o))))
 |[],l,h=>by cases h;rfl
 |(off,w,o)::r,l,h=>by
  simp only[tpc]at h;split at h;rename_i v g;split at h;rename_i c hc;split at h;rename_i q e;cases h;have ih:=jh e;simp only[erP,cJ,lZ,run_bind,cM g,JF,PC (_v s._o) hc];simp_all [erP];cases h;cases h;cases h
theorem Nq{s:_u}: ∀{parts:List (Nat×Ty×TO)} {l:List (Nat×(w:Ty)×w.D)},tpv parts s=Z l->
  (lZ (erP parts)).run (JD s)=Z (l.map λx=>(x.1,x.2.1.sz,(_A x.2.1 x.2.2).map .p))
 |[],l,h=>by cases h;rfl
 |(off,w,o)::r,l,h=>by
  simp only[tpv]at h;split at h;rename_i v g;split at h;rename_i z k;split at h;rename_i j;split at h;rename_i q e;cases h;have ih:=Nq e;simp only[erP,cJ,lZ,run_bind,cM g,JF,pu (_v s._o) k j];simp_all [erP];cases h;cases h;cases h;cases h
theorem Ba{t:Ty}: ∀{l:List (Nat×(w:Ty)×w.D)} {x:t.D} {k:t.D->Option R} {r:R},UI t x l k=Z r->
  ∃y,rS (l.map λx=>(x.1,x.2.1.sz,(_A x.2.1 x.2.2).map .p)) ((_A t x).map .p)=Z ((_A t y).map .p)/\k y=Z r
 |[],x,k,r,h=>⟨x,rfl,h⟩
 |(off,⟨w,z⟩)::q,x,k,r,h=>by
  simp only[UI]at h;obtain⟨e,h1,h2⟩:=DP h;obtain⟨y,j,g⟩:=Ba h2;grind [rS,eW,IS,spo]
theorem nv(L:Nat->Nat): ∀{l:List (Nat×Nat×List TC)} {cs cs':List TC},NK l cs=Z cs'->
  rS (l.map λx=>(x.1,x.2.1,x.2.2.map (bI L))) (cs.map (bI L))=Z (cs'.map (bI L))
 |[],cs,cs',h=>by cases h;rfl
 |(off,n,c)::q,cs,cs',h=>by
  simp only[NK]at h;split at h;rename_i e;split at h;rename_i g hs;simp only[cJ,rS,eN,e,if_true,IS,hs,dB];exact nv L h;cases h;cases h
def jr(t:Ty)(parts:List (Nat×Ty×TO))(d:Option Nat)(s:_u)(k:_u->Option R):Option R:=
 match tpv parts s with
 |some l=>UI t t.zero l λy=>k (bL d (.a (.dt t y)) s)
 |none=>match tpc parts s with
  |some l=>match NK l (zcs t)with
   |some cs'=>match mka O t cs' with|some v=>k (bL d v s)|none=>Y
   |none=>Y
  |none=>Y
theorem JHy(F:Orc)(_m:Nat){t:Ty}{parts:List (Nat×Ty×TO)}{d:Option Nat}{s:_u}{k:_u->Option R}{r:R}(h:jr t parts d s k=Z r):Ok (_y F (.build (_A t t.zero) (erP parts)) _m) d s k r:=by
 unfold jr at h;split at h;rename_i l hl;obtain⟨y,h1,h2⟩:=Ba h;refine fY (v:=.a (.dt t y)) ?_ h2;simp only[_y,run_bind,Nq hl,JF,h1,D7,val,bS];rfl;split at h;rename_i l hl;split at h;rename_i cs' hf;split at h;rename_i v e;refine fY (v:=v) ?_ h;simp only[_y,run_bind,jh hl,JF,<-HX (_v s._o) t,nv (_v s._o) hf,ID (_v s._o) e,val,bS];cases h;cases h;cases h
def ju(agg:Bool)(off:Nat)(t:Ty)(v:TV)(d:Option Nat)(s:_u)(k:_u->Option R):Option R:=
 if agg=O\/t.sz=1 then
  match v with
  | .a (.dt e x)=>prt e x off [] t λy=>k (bL d (mkv agg t y) s)
  | .a (.m _ cs)=>match sub cs off t.sz with
   |some l=>match mka agg t l with|some v=>k (bL d v s)|none=>Y
   |none=>Y
  |_=>Y
 else Y
theorem JH3{agg:Bool}{off:Nat}{t:Ty}{v:TV}{d:Option Nat}{s:_u}{k:_u->Option R}{r:R}(h:ju agg off t v d s k=Z r):Ok (val (tE agg off t.sz (aZ (_v s._o) v))) d s k r:=by
 unfold ju at h;split at h;rename_i j;split at h;rename_i e x;obtain⟨y,h1,h2⟩:=zQ h;refine fY (v:=mkv agg t y) ?_ h2;grind [spo,vg,tE,HU,val,bS];rename_i cs;split at h;rename_i l hl;split at h;rename_i v g;refine fY (v:=v) ?_ h;grind [e_m,tE,IU,ID,val,bS];cases h;cases h;cases h;cases h
end
end Go.Am
end
section
namespace Go.Am
section
variable {R:Type}
theorem lg{α:Type} [BEq α] [LawfulBEq α] [DecidableEq α](x y:α):(x==y)=decide (x=y):=by
 grind
def Vl(m:Option AV)(s:_u)(kk:TV->Option R)(r:R):Prop:= ∃v,m=Z (aZ (_v s._o) v)/\kk v=Z r
theorem Vl.ok{m:Option AV}{d:Option Nat}{s:_u}{k:_u->Option R}{r:R}(h:Vl m s (λv=>k (bL d v s)) r):Ok (val m) d s k r:=by obtain⟨v,h1,h2⟩:=h;refine fY (v:=v) ?_ h2;rw[h1];rfl
def uq(op:BinOp)(k:IntKind)(a c:Int)(kk:TV->Option R):Option R:=
 match op with
 | .add=>kk (vi k (J1 k a c))
 | .sub=>kk (vi k (Ji k a c))
 | .mul=>kk (vi k (bX k a c))
 | .quo=>(L6 k a c).bind λq=>kk (vi k q)
 | .rem=>(uZ a c).bind λq=>kk (vi k q)
 | .and=>kk (vi k (lQ k a c))
 | .or=>kk (vi k (orI k a c))
 | .xor=>kk (vi k (hW k a c))
 | .eql=>kk (vb (aO a c))
 | .neq=>kk (vb (aQ a c))
 | .lss=>kk (vb (aN a c))
 | .leq=>kk (vb (bD a c))
 | .gtr=>kk (vb (aS a c))
 | .geq=>kk (vb (aT a c))
 |_=>Y
def wq(op:BinOp)(a c:List UInt8)(kk:TV->Option R):Option R:=
 match op with
 | .add=>(cT a c).bind λq=>kk (vs q)
 | .eql=>kk (vb (eqS a c))
 | .neq=>kk (vb (neS a c))
 | .lss=>kk (vb (ltS a c))
 | .leq=>kk (vb (leS a c))
 | .gtr=>kk (vb (gtS a c))
 | .geq=>kk (vb (geS a c))
 |_=>Y
inductive TBT where|plain|bool|flat (t:Ty)|nilp|nilf
def erT:TBT->BT| .plain=>.plain| .bool=>.bool| .flat t=>.flat (t.ks.getD [])| .nilp=>.nilp| .nilf=>.nilf
def pO(op:BinOp)(x:Bool)(kk:TV->Option R):Option R:=
 match op with
 | .eql=>kk (vb x)
 | .neq=>kk (vb (Jj x))
 |_=>Y
def vn(op:BinOp)(bt:TBT)(x y:TV)(kk:TV->Option R):Option R:=
 match bt with
 | .plain=>match x,y with
  | .a (.c (.d (.i k) a)),.a (.c (.d (.i k') c))=>match op with| .shl=>(nP k a c).bind λq=>kk (vi k q)| .shr=>(hX k a c).bind λq=>kk (vi k q)|_=>if k=k' then uq op k a c kk else Y
  | .a (.c (.d .s a)),.a (.c (.d .s c))=>wq op a c kk
  |_,_=>Y
 | .bool=>match x,y with| .a (.c (.d .b a)),.a (.c (.d .b c))=>pO op (eqB a c) kk|_,_=>Y
 | .flat t=>match x,y with| .a (.dt g a),.a (.dt e c)=>if h:g=t/\e=t/\t.ks.isSome=O then pO op (eqT t (h.1▸a) (h.2.1▸c)) kk else Y|_,_=>Y
 | .nilp=>match x with| .a (.c .np)=>pO op O kk| .a (.c (.ptr _ _))=>pO op J kk| .a (.c (.cp _ _ _))=>pO op J kk| .a (.c (.ep _ _ _))=>pO op J kk|_=>Y
 | .nilf=>match x with| .a (.c .nf)=>pO op O kk| .a (.fn _ _ _)=>pO op J kk| .a (.c (.fn _))=>pO op J kk| .a (.c (.d .f _))=>pO op O kk|_=>Y
theorem VU{op:BinOp}{x:Bool}{s:_u}{kk:TV->Option R}{r:R}(h:pO op x kk=Z r):Vl (kM op (Z x)) s kk r:=by
 unfold pO at h;split at h;exact⟨_,rfl,h⟩;exact⟨_,rfl,h⟩;cases h
theorem JLs{op:BinOp}{k:IntKind}{a c:Int}{s:_u}{kk:TV->Option R}{r:R}(h:uq op k a c kk=Z r):Vl ((BQ op k a c).map .p) s kk r:=by
 unfold uq at h;split at h<;>first
  |exact⟨_,rfl,h⟩
  |(obtain⟨q,h1,h⟩:=bV.1 h
    refine⟨_,?_,h⟩
    first|unfold L6 at h1|unfold uZ at h1
    split at h1;cases h1;rename_i e;injection h1 with h1;simp only[BQ,if_neg e,h1,dB,e_i])
  |(refine⟨_,?_,h⟩;simp only[BQ,lg,dB,e_b,bne,aO,aQ,aN,bD,aS,aT];done)
  |cases h
theorem JNh{op:BinOp}{a c:List UInt8}{s:_u}{kk:TV->Option R}{r:R}(h:wq op a c kk=Z r):Vl ((BX op a c).map .p) s kk r:=by
 unfold wq at h;split at h<;>first
  |(obtain⟨q,h1,h⟩:=bV.1 h
    refine⟨_,?_,h⟩;unfold cT at h1;split at h1;rename_i e;injection h1 with h1;simp only[BX,if_pos e,h1,dB,e_s];cases h1)
  |(refine⟨_,?_,h⟩;simp only[BX,lg,dB,e_b,eqS,neS,ltS,leS,gtS,geS];done)
  |cases h
theorem JMz{op:BinOp}{bt:TBT}{x y:TV}{s:_u}{kk:TV->Option R}{r:R}(h:vn op bt x y kk=Z r):Vl (pK op (erT bt) (aZ (_v s._o) x) (aZ (_v s._o) y)) s kk r:=by
 unfold vn at h;split at h;split at h;rename_i k a k' c;simp only[e_i,erT,pK];split at h;obtain⟨q,h1,h⟩:=bV.1 h;unfold nP at h1;split at h1;cases h1;rename_i e;injection h1 with h1;exact⟨_,by simp_all [e_i],h⟩;obtain⟨q,h1,h⟩:=bV.1 h;unfold hX at h1;split at h1;cases h1;rename_i e;injection h1 with h1;exact⟨_,by simp_all [e_i],h⟩;grind [JLs];exact JNh h;cases h;split at h;rename_i a c;simp only[e_b,erT,pK,lg];exact VU h;cases h;grind [Option.isSome_iff_exists,vg,erT,pK,VQ,VU];split at h<;>first|exact VU h|cases h
 split at h<;>first|exact VU h|cases h
def tUn(op:UnOp)(x:TV)(kk:TV->Option R):Option R:=
 match op,x with
 | .neg,.a (.c (.d (.i k) n))=>kk (vi k (JRA k n))
 | .xor,.a (.c (.d (.i k) n))=>kk (vi k (NJ k n))
 | .not,.a (.c (.d .b x))=>kk (vb (Jj x))
 |_,_=>Y
theorem JPt{op:UnOp}{x:TV}{s:_u}{kk:TV->Option R}{r:R}(h:tUn op x kk=Z r):Vl (unP op (aZ (_v s._o) x)) s kk r:=by unfold tUn at h;split at h<;>first|exact⟨_,rfl,h⟩|cases h
def tMm(mx:Bool)(x y:TV)(kk:TV->Option R):Option R:=
 match x,y with
 | .a (.c (.d (.i k) a)),.a (.c (.d (.i _) c))=>kk (vi k (if mx=O then bP a c else gX a c))
 |_,_=>Y
theorem JPX{mx:Bool}{x y:TV}{s:_u}{kk:TV->Option R}{r:R}(h:tMm mx x y kk=Z r):Vl (mmP mx (aZ (_v s._o) x) (aZ (_v s._o) y)) s kk r:=by
 unfold tMm at h;split at h;exact⟨_,by cases mx<;>rfl,h⟩;cases h
def tls(t:Ty)(v:TV)(s:_u):Option (List t.D):=
 match v with
 | .a (.c (.d (.l t') l))=>if h:t'=t then Z (h▸l)else Y
 | .a (.c (.d .s l))=>if h:t=.i .u8 then Z (h▸(aW l:List (Ty.i .u8).D))else Y
 | .a (.c (._r b))=>match s._o[b]? with|some (.arr _ t' _f)=>if h:t'=t then Z (h▸_f)else Y|_=>Y
 | .a (.c (.suf b i))=>match s._o[b]? with|some (.arr _ t' _f)=>if h:t'=t then Z (h▸_f.drop i)else Y|_=>Y
 |_=>Y
theorem kb{t:Ty}{v:TV}{s:_u}{l:List t.D}(h:tls t v s=Z l):(gL t.sz (aZ (_v s._o) v)).run (JD s)=Z (l.map (_A t)):=by
 unfold tls at h;split at h;grind [e_l,gL,bS];split at h;rename_i g;subst g;cases h;simp only[e_s,gL,Ty.sz,if_true,bS,mw];rfl;cases h;rename_i b;split at h;rename_i w t' _f hb;split at h;rename_i g;subst g;cases h;simp only[iS,gL,eT,eS,hb,dB,JF,bH,mB hb,eN,qX,and_self,if_true,bS,GL];cases h;cases h;rename_i b i;split at h;rename_i w t' _f hb;split at h;rename_i g;subst g;cases h;have e:aZ (_v s._o) (.a (.c (.suf b i)))=._r b (min i (_v s._o b)) (_v s._o b-i):=rfl;have k:min i _f.length+(_f.length-i)=_f.length:=by omega
 have j:(_f.map (_A t')).drop (min i _f.length)=(_f.map (_A t')).drop i:=(by rcases Nat.le_total i _f.length with h|h;rw[Nat.min_eq_left h];rw[Nat.min_eq_right h,List.drop_of_length_le (by simp),List.drop_of_length_le (by simpa using h)]);simp only[e,gL,eT,eS,hb,dB,JF,bH,mB hb,eN,k,and_self,if_true,bS,j,List.map_drop];cases h;cases h;cases h
def xe(k:CK)(x:TV)(d:Option Nat)(_m:Nat)(s:_u)(kk:_u->Option R):Option R:=
 match k with
 | .int k=>match x with| .a (.c (.d (.i _) n))=>kk (bL d (vi k (aX k n)) s)|_=>Y
 | .same=>match x with| .a (.c (.d .s l))=>kk (bL d (vs l) s)|_=>Y
 | ._C=>match tls (.i .u8) x s with|some l=>kk (bL d (vs (_C l)) s)|none=>Y
 | .toBytes own=>match x with| .a (.c (.d .s l))=>if own=O then kk (bL d (.a (.c (._r _m))) (wN _m (.arr O (.i .u8) (aW l)) s))else kk (bL d (vl (.i .u8) (aW l)) s)|_=>Y
theorem JJv(F:Orc){k:CK}{x:TO}{v:TV}{d:Option Nat}{_m:Nat}{s:_u}{kk:_u->Option R}{r:R}(hx:tev x s=Z v)(hn:k=.toBytes O->_m<s._o.length)(h:xe k v d _m s kk=Z r):Ok (_y F (.conv k (erO x)) _m) d s kk r:=by
 unfold xe at h;split at h;split at h;refine fY (v:=vi _ _) ?_ h;simp only[_y,run_bind,cM hx,JF,e_i,bS,aX];cases h;split at h;refine fY (v:=vs _) ?_ h;grind [_y,run_bind,cM,e_s,bS];cases h;split at h;rename_i l hl;refine fY (v:=vs _) ?_ h;have:=kb hl;have e:l.map (_A (.i .u8))=l.map (r_i .u8):=rfl;rw[e]at this;simp only[_y,run_bind,cM hx,JF,this,qb,e_s,bS,Ty.sz];rw[show(gL 1 (aZ (_v s._o) v)).run (JD s)=Z (l.map (r_i .u8))from this];simp[qb];cases h;rename_i own;split at h;rename_i l;split at h;rename_i g;subst g;refine wy (x:=.arr O (.i .u8) (aW l)) (v:=.a (.c (._r _m))) ?_ h;simp only[_y,run_bind,cM hx,JF,e_s,if_true,bS,iS,bH,mw];have e:_v (wN _m (TB.arr O (Ty.i IntKind.u8) (aW l)) s)._o _m=l.length:=(by grind [wN,jl,lnB,aW]);rw[e];rfl;rename_i g;have:own=J:=by simpa using g
 subst this;refine fY (v:=vl _ _) ?_ h;simp only[_y,run_bind,cM hx,JF,e_s,fK,if_false,bS,e_l,mw];rfl;cases h
end
end Go.Am
end
section
namespace Go.Am
section
variable {R:Type}
theorem Qj(p q:List Sp):spo (p++q)=spo p+spo q:=by
 induction p with
 |nil=>simp[spo]
 |cons x p ih=>cases x<;>simp only[uR,spo,ih]<;>omega
def js(off:Nat)(x:TV)(kk:TV->Option R):Option R:=
 match x with
 | .a (.c (.ptr b p))=>kk (.a (.c (.ptr b (p++[.f off]))))
 | .a (.c (.cp t x p))=>kk (.a (.c (.cp t x (p++[.f off]))))
 | .a (.c (.ep b i p))=>kk (.a (.c (.ep b i (p++[.f off]))))
 |_=>Y
theorem JHk{off:Nat}{x:TV}{s:_u}{kk:TV->Option R}{r:R}(h:js off x kk=Z r):Vl (OO off (aZ (_v s._o) x)) s kk r:=by
 unfold js at h;split at h<;>first
  |(refine⟨_,?_,h⟩;simp only[lW,nU,mM,OO,Qj,spo,yI];done)
  |cases h
def jz(len _l:Nat)(x i:TV)(kk:TV->Option R):Option R:=
 match i with
 | .a (.c (.d (.i _) n))=>(bE len n).bind λ_=>match x with| .a (.c (.ptr b p))=>kk (.a (.c (.ptr b (p++[.a n.toNat _l]))))| .a (.c (.cp t x p))=>kk (.a (.c (.cp t x (p++[.a n.toNat _l]))))| .a (.c (.ep b i p))=>kk (.a (.c (.ep b i (p++[.a n.toNat _l]))))|_=>Y
 |_=>Y
theorem JHC{len _l:Nat}{x i:TV}{s:_u}{kk:TV->Option R}{r:R}(h:jz len _l x i kk=Z r):Vl (OV len _l (aZ (_v s._o) x) (aZ (_v s._o) i)) s kk r:=by
 unfold jz at h;split at h;obtain⟨_,h1,h⟩:=bV.1 h;have e:=kn h1;split at h<;>first
  |(refine⟨_,?_,h⟩;simp only[lW,nU,mM,e_i,OV,if_pos e,Qj,spo,yI];done)
  |cases h
 cases h
def jq(t:Ty)(x i:TV)(s:_u)(kk:TV->Option R):Option R:=
 match i with
 | .a (.c (.d (.i _) n))=>match x with
  | .a (.c (.d (.l t') l))=>if t'=t then(idx l n).bind λy=>kk (.a (.c (.cp t' y [])))else Y
  | .a (.c (._r b))=>match s._o[b]? with|some (.arr _ t' _f)=>if t'=t then(bE _f.length n).bind λ_=>kk (.a (.c (.ep b n.toNat [])))else Y|_=>Y
  | .a (.c (.suf b j))=>match s._o[b]? with|some (.arr _ t' _f)=>if t'=t then(bE (Nat.sub _f.length j) n).bind λ_=>kk (.a (.c (.ep b (Nat.add j n.toNat) [])))else Y|_=>Y
  |_=>Y
 |_=>Y
theorem JGY{t:Ty}{x i:TV}{d:Option Nat}{s:_u}{k:_u->Option R}{r:R}(h:jq t x i s (λv=>k (bL d v s))=Z r):Ok (mZ t.sz (aZ (_v s._o) x) (aZ (_v s._o) i)) d s k r:=by
 unfold jq at h;split at h;split at h;split at h;rename_i g;subst g;obtain⟨y,h1,h⟩:=bV.1 h;refine fY (v:=.a (.c (.cp _ y []))) ?_ h;grind [e_l,e_i,nU,mZ,JGU,bS,spo];cases h;rename_i b;split at h;rename_i w t' _f hb;split at h;rename_i g;subst g;obtain⟨_,h1,h⟩:=bV.1 h;have g:=kn h1;refine fY (v:=.a (.c (.ep b _ []))) ?_ h;simp only[iS,e_i,mM,mZ,eT,eS,hb,dB,JF,bH,mB hb,eN,qX,true_and];rw[if_pos g];rfl;cases h;cases h;rename_i b j;split at h;rename_i w t' _f hb;split at h;rename_i g;subst g;obtain⟨_,h1,h⟩:=bV.1 h;have g:=kn h1;rw[show _f.length.sub j=_f.length-j from rfl]at g;refine fY (v:=.a (.c (.ep b _ []))) ?_ h;have e:aZ (_v s._o) (.a (.c (.suf b j)))=._r b (min j (_v s._o b)) (_v s._o b-j):=rfl;have n:min j _f.length=j:=by omega
 have o:j+(_f.length-j)=_f.length:=by omega
 simp only[e,e_i,mM,mZ,eT,eS,hb,dB,JF,bH,mB hb,eN,n,o,true_and];rw[if_pos g];rfl;cases h;cases h;cases h;cases h
def x9(x i:TV)(kk:TV->Option R):Option R:=
 match x,i with
 | .a (.c (.d .s l)),.a (.c (.d (.i _) n))=>(nR l n).bind λu=>kk (vi .u8 u)
 |_,_=>Y
theorem JL1(F:Orc){x i:TO}{g e:TV}{d:Option Nat}{_m:Nat}{s:_u}{k:_u->Option R}{r:R}(hx:tev x s=Z g)(hi:tev i s=Z e)(h:x9 g e (λv=>k (bL d v s))=Z r):Ok (_y F (.sidx (erO x) (erO i)) _m) d s k r:=by
 unfold x9 at h;split at h
 ·rename_i l k' n;obtain⟨u,h1,h⟩:=bV.1 h;refine fY (v:=vi .u8 u) ?_ h;simp only[_y,run_bind,cM hx,cM hi,JF,e_s,e_i];unfold nR at h1;split at h1
  ·rename_i j;rw[if_pos j];split at h1
   all_goals simp_all
  cases h1
 cases h
def eg(j:Int)(k:Nat->Option R):Nat->Option R|0=>Y|m+1=>if aO j m=O then k m else eg j k m
theorem O5{j:Int}{k:Nat->Option R}{r:R}: ∀{n:Nat},eg j k n=Z r-> ∃m,m<n/\j=m/\k m=Z r
 |0,h=>by cases h
 |n+1,h=>by
  simp only[eg]at h;split at h;grind [aO];obtain⟨m,h1,h2,e⟩:=O5 h;grind
def xh(agg:Bool)(len:Nat)(t:Ty)(x i:TV)(d:Option Nat)(s:_u)(k:_u->Option R):Option R:=
 if agg=O\/t.sz=1 then
  match x,i with
  | .a (.dt (.ar n t') v),.a (.c (.d (.i _) j))=>if h:t'=t/\n=len then(uy v j).bind λy=>k (bL d (mkv agg t (h.1▸y)) s)else Y
  | .a (.m _ cs),.a (.c (.d (.i _) j))=>eg j (λm=>match sub cs (m*t.sz) t.sz with
   |some l=>match mka agg t l with|some v=>k (bL d v s)|none=>Y
   |none=>Y) len
  |_,_=>Y
 else Y
theorem JJT(F:Orc){agg:Bool}{len:Nat}{t:Ty}{x i:TO}{o g:TV}{d:Option Nat}{_m:Nat}{s:_u}{k:_u->Option R}{r:R}(hx:tev x s=Z o)(hi:tev i s=Z g)(h:xh agg len t o g d s k=Z r):
  Ok (_y F (.aidx agg len t.sz (erO x) (erO i)) _m) d s k r:=by
 unfold xh at h;split at h;rename_i B;split at h;rename_i n t' v k' j;split at h;rename_i w;obtain⟨rfl,rfl⟩:=w;obtain⟨y,h1,h⟩:=bV.1 h;obtain⟨h2,e⟩:=JIw h1;refine fY (v:=mkv agg t' y) ?_ h;simp only[_y,run_bind,cM hx,cM hi,JF,vg,e_i,if_pos h2,tE];grind [_A,PD,eW,HU,val,bS];cases h;rename_i A cs k' j;obtain⟨m,h1,q,e⟩:=O5 h;clear h;subst q;split at e;rename_i l hl;split at e;rename_i v z;refine fY (v:=v) ?_ e;have h2:(0:Int)<=m/\(m:Int)<len:=by omega
 simp only[_y,run_bind,cM hx,cM hi,JF,e_m,e_i,if_pos h2,tE,_X,IU,hl,dB,ID (_v s._o) z,val,bS];cases e;cases e;cases h;cases h
def xf(x:TV)(i:Nat)(kk:TV->Option R):Option R:=
 match x with
 | .tup vs=>match vs[i]? with|some v=>kk (.a v)|none=>Y
 |_=>Y
theorem JKN{x:TV}{i:Nat}{s:_u}{kk:TV->Option R}{r:R}(h:xf x i kk=Z r):Vl (TR i (aZ (_v s._o) x)) s kk r:=by
 unfold xf at h;split at h;split at h;rename_i v e;refine⟨_,?_,h⟩;simp_all [aZ];cases h;cases h
def wk(str:Bool)(x:TV)(s:_u)(kk:TV->Option R):Option R:=
 match str,x with
 |true,.a (.c (.d .s l))=>kk (vi I (J0 l))
 |false,.a (.c (.d (.l _) l))=>kk (vi I (J0 l))
 |false,.a (.c (._r b))=>match s._o[b]? with|some (.arr _ _ _f)=>kk (vi I (J0 _f))|_=>Y
 |false,.a (.c (.slo _ n))=>kk (vi I n)
 |false,.a (.c (.suf b j))=>match s._o[b]? with|some (.arr _ _ _f)=>kk (vi I (Int.ofNat (Nat.sub _f.length j)))|_=>Y
 |_,_=>Y
theorem JLB{str:Bool}{x:TV}{s:_u}{kk:TV->Option R}{r:R}(h:wk str x s kk=Z r):Vl (NC str (aZ (_v s._o) x)) s kk r:=by
 unfold wk at h;split at h;exact⟨_,rfl,h⟩;exact⟨_,by simp[e_l,e_i,J0],h⟩;split at h;rename_i hb;exact⟨_,by grind [iS,NC,mB,e_i,J0],h⟩;cases h;exact⟨_,rfl,h⟩;rename_i b j;split at h;rename_i w t' _f hb;refine⟨_,?_,h⟩;have e:aZ (_v s._o) (.a (.c (.suf b j)))=._r b (min j (_v s._o b)) (_v s._o b-j):=rfl;rw[e,mB hb];rfl;cases h;cases h
theorem mj{s:_u}{_m:Nat}(hn:_m<s._o.length){w:Bool}{t:Ty}{_f:List t.D}:_v (wN _m (TB.arr w t _f) s)._o _m=_f.length:=by unfold wN;rw[jl (by simpa using hn)];rfl
theorem kd{m:RM Eff}{d:Option Nat}{s:_u}{k:_u->Option R}{r:R}{_m:Nat}{t:Ty}{_f:List t.D}(hn:_m<s._o.length)
  (hm:m.run (JD s)=Z ⟨._r _m 0 _f.length,[(_m,.arr O t.sz (_f.map (_A t)))]⟩) (h:k (bL d (.a (.c (._r _m))) (wN _m (.arr O t _f) s))=Z r):Ok m d s k r:=by
 refine wy (x:=.arr O t _f) (v:=.a (.c (._r _m))) ?_ h;rw[hm,iS,mj hn];rfl
def mu(own:Bool)(t:Ty)(bytes:Nat)(l c:TV)(d:Option Nat)(_m:Nat)(s:_u)(k:_u->Option R):Option R:=
 match l,c with
 | .a (.c (.d (.i _) n)),.a (.c (.d (.i _) m))=>(mkS bytes n m t.zero).bind λ_f=>
  if own=O then k (bL d (.a (.c (._r _m))) (wN _m (.arr O t _f) s))else k (bL d (vl t _f) s)
 |_,_=>Y
theorem JBU(F:Orc){own:Bool}{t:Ty}{bytes:Nat}{l c:TO}{e n:TV}{d:Option Nat}{_m:Nat}{s:_u}{k:_u->Option R}{r:R}(hl:tev l s=Z e)(hc:tev c s=Z n)(hn:own=O->_m<s._o.length)
  (h:mu own t bytes e n d _m s k=Z r):Ok (_y F (._D own t.sz bytes (_A t t.zero) (erO l) (erO c)) _m) d s k r:=by
 unfold mu at h;split at h;obtain⟨_f,h1,j⟩:=bV.1 h;obtain⟨h2,rfl⟩:=JMX h1;clear h;split at j;rename_i g;subst g;refine kd (hn rfl) ?_ j;simp only[_y,run_bind,cM hl,cM hc,JF,e_i,if_pos h2,if_true,bS,fy,em];rename_i g;have:own=J:=by simpa using g
 subst this;refine fY (v:=vl t _) ?_ j;simp only[_y,run_bind,cM hl,cM hc,JF,e_i,if_pos h2,fK,if_false,bS,e_l,em];cases h
def uj(t:Ty)(bytes:Nat)(x y:TV)(d:Option Nat)(s:_u)(k:_u->Option R):Option R:=
 match x with
 | .a (.c (._r b))=>match s._o[b]? with
  |some (.arr w t' _f)=>if h:t'=t then
   match tls t' y s with
   |some l=>(Ju bytes _f l).bind λm=>k (bL d (.a (.c (._r b))) (wN b (.arr w t' m) s))
   |none=>Y
   else Y
  |_=>Y
 |_=>Y
theorem JNe{t:Ty}{bytes:Nat}{x y:TV}{d:Option Nat}{s:_u}{k:_u->Option R}{r:R}(h:uj t bytes x y d s k=Z r):Ok (kJ t.sz bytes (aZ (_v s._o) x) (aZ (_v s._o) y)) d s k r:=by
 unfold uj at h;split at h;rename_i b;split at h;rename_i w t' _f hb;split at h;rename_i g;subst g;split at h;rename_i l hl;obtain⟨m,h1,h⟩:=bV.1 h;refine wy (x:=.arr w t' m) (v:=.a (.c (._r b))) ?_ h;have e:(JD s)._o[b]?=Z (.arr w t'.sz (_f.map (_A t'))):=by rw[eS,hb];rfl
 have:=JMG h1 e (kb hl);rw[iS,mB hb,this,iS,mj (JE hb)];rfl;cases h;cases h;cases h;cases h
def xl(t:Ty)(bytes:Nat)(y:TV)(d:Option Nat)(_m:Nat)(s:_u)(k:_u->Option R):Option R:=
 match tls t y s with
 |some l=>(bU bytes l).bind λm=>k (bL d (.a (.c (._r _m))) (wN _m (.arr O t m) s))
 |none=>Y
theorem JIZ(F:Orc){t:Ty}{bytes:Nat}{z:List PV}{y:TO}{e:TV}{d:Option Nat}{_m:Nat}{s:_u}{k:_u->Option R}{r:R}(hy:tev y s=Z e)(hn:_m<s._o.length)(h:xl t bytes e d _m s k=Z r):Ok (_y F (.appn t.sz bytes z (erO y)) _m) d s k r:=by
 unfold xl at h;split at h;rename_i l hl;obtain⟨m,h1,g⟩:=bV.1 h;obtain⟨h2,rfl⟩:=JIs h1;refine kd hn ?_ g;simp only[_y,run_bind,cM hy,JF,kb hl,eN,h2,if_true,bS];cases h
def tbn(x:Option TO)(s:_u):Option (Option (IntKind×Int)):=
 match x with
 |none=>Z Y
 |some o=>match tev o s with|some (.a (.c (.d (.i k) n)))=>Z (Z (k,n))|_=>Y
def bv(x:Option (IntKind×Int)):Option AV:=x.map λy=>.p (.i y.1 y.2)
theorem HT{x:Option TO}{s:_u}{y:Option (IntKind×Int)}(h:tbn x s=Z y):(evo (x.map erO)).run (JD s)=Z (bv y):=by
 cases x with
 |none=>cases h;rfl
 |some o=>
  simp only[tbn]at h;split at h;rename_i k n e;cases h;simp only[dB,evo,run_bind,cM e,JF,bS,bv,e_i];cases h
theorem JPj(x:Option (IntKind×Int))(top d:Nat):rU (bv x) top d=vD (x.map (·.2)) top d:=by cases x<;>rfl
theorem Nz(n:Nat)(lo hi:Option (IntKind×Int)):xX n (bv lo) (bv hi)=sO n (lo.map (·.2)) (hi.map (·.2)):=by
 grind [xX,sO,JPj]
inductive TSK where|str|sl (t:Ty)
def erK:TSK->SK| .str=>.str| .sl t=>.sl t.sz
def vc(t:Ty)(x:TV)(s:_u)(kk:List t.D->_u->Option R):Option R:=
 match x with
 | .a (.c (.d (.l t') l))=>if h:t'=t then kk (h▸l) s else Y
 | .a (.c (._r b))=>match s._o[b]? with|some (.arr _ t' _f)=>if h:t'=t then kk (h▸_f) (wS b (.arr J t' _f) s)else Y|_=>Y
 |_=>Y
theorem JMM{t:Ty}{x:TV}{s:_u}{kk:List t.D->_u->Option R}{r:R}(h:vc t x s kk=Z r):
  ∃l s' ws,Fzd s s' ws/\kk l s'=Z r/\((aZ (_v s._o) x=.p (.sl t.sz (l.map (_A t)))/\ws=[])\/
   ∃b,aZ (_v s._o) x=._r b 0 l.length/\(fz (._r b 0 l.length)).run (JD s)=Z ([.sl t.sz (l.map (_A t))],ws)):=by
 unfold vc at h;split at h;grind [Fzd.refl,e_l];rename_i b;split at h;rename_i w t' _f hb;split at h;rename_i e;subst e;refine⟨_,_,_,ky hb,h,.inr ⟨b,by rw[iS,mB hb],?_⟩⟩;simp_all [eS,bH];cases h;cases h;cases h
def yk(e:TSK)(x:TV)(lo hi mx:Option (IntKind×Int))(d:Option Nat)(s:_u)(k:_u->Option R):Option R:=
 match e with
 | .str=>match x,mx with| .a (.c (.d .s l)),Y=>(bA l (lo.map (·.2)) (hi.map (·.2))).bind λq=>k (bL d (vs q) s)|_,_=>Y
 | .sl t=>vc t x s λl s1=>match mx with|none=>(bA l (lo.map (·.2)) (hi.map (·.2))).bind λq=>k (bL d (vl t q) s1)|some (_,n)=>match lo,hi with|none,Z (_,h)=>if h=l.length/\n=l.length then k (bL d (.a (.c (.sc t l))) s1)else Y|_,_=>Y
theorem Q5{α:Type}{l q:List α}{lo hi:Option Int}(h:bA l lo hi=Z q): ∃c,sO l.length lo hi=Z c/\q=(l.drop c.1).take (c.2-c.1):=by
 grind [bA]
theorem JHm(F:Orc){n:TSK}{x:TO}{j:TV}{lo hi mx:Option TO}{l g m:Option (IntKind×Int)}{d:Option Nat}{_m:Nat}{s:_u}{k:_u->Option R}{r:R}(hx:tev x s=Z j)(hl:tbn lo s=Z l)(o:tbn hi s=Z g)(hm:tbn mx s=Z m)
  (h:yk n j l g m d s k=Z r):Ok (_y F (.slice (erK n) (erO x) (lo.map erO) (hi.map erO) (mx.map erO)) _m) d s k r:=by
 unfold yk at h;split at h;split at h;rename_i A;obtain⟨q,h1,h⟩:=bV.1 h;obtain⟨c,hc,rfl⟩:=Q5 h1;refine fY (v:=vs _) ?_ h;have w:bv Y=Y:=rfl;simp only[_y,run_bind,cM hx,HT hl,HT o,HT hm,JF,e_s,erK,w,mA,zH,val,Nz,hc,bS];cases h;rename_i t;obtain⟨y,s1,ws,f,h,C⟩:=JMM h;have e: ∀(res:AV),mA (.sl t.sz) (.p (.sl t.sz (y.map (_A t)))) (bv l) (bv g) (bv m)=Z res->
   (_y F (.slice (erK (.sl t)) (erO x) (lo.map erO) (hi.map erO) (mx.map erO)) _m).run (JD s)=Z ⟨res,ws⟩:=by
  intro res B;simp only[_y,run_bind,cM hx,HT hl,HT o,HT hm,JF,erK];grind [val,bS,run_bind]
 split at h;obtain⟨q,h2,h⟩:=bV.1 h;obtain⟨c,hc,rfl⟩:=Q5 h2;refine yp (v:=vl t _) f (e _ ?_) h;grind [bv,mA,zE,Nz,e_l,List.map_take,List.map_drop];split at h;split at h;rename_i z;refine yp (v:=.a (.c (.sc t y))) f (e _ ?_) h;simp only[bv,Option.map_none,dB,mA,TM,eN,z,and_self,if_true];rfl;cases h;cases h
end
end Go.Am
end
section
namespace Go.Am
section
variable {R:Type}
def dm(t:Ty):List (Nat×TO)->_u->_u->(List (Nat×t.D)->_u->Option R)->Option R|[],_,s,k=>k [] s|(i,o)::r,s0,s,k=>match tev o s0 with|some v=>tfz t v s λz s'=>dm t r s0 s' λl e=>k ((i,z)::l) e|none=>Y
theorem Rr{t:Ty}: ∀{parts:List (Nat×TO)} {s0 s:_u} {w0:List (Nat×_w)} {k:List (Nat×t.D)->_u->Option R} {r:R},Fzd s0 s w0->dm t parts s0 s k=Z r->
  ∃l s' ws,(fzs (parts.map λx=>erO x.2)).run (JD s0)=Z (l.map λx=>_A t x.2,ws)/\Fzd s0 s' (w0++ws)/\l.map (·.1)=parts.map (·.1)/\k l s'=Z r
 |[],s0,s,w0,k,r,f,h=>⟨[],s,[],rfl,by simp_all,rfl,h⟩
 |(i,o)::q,s0,s,w0,k,r,f,h=>by
  simp only[dm]at h;split at h;rename_i v w;obtain⟨z,s1,j,h1,e,h⟩:=Ob f h;obtain⟨l,g,y,h2,A,n,h⟩:=Rr e h;refine⟨(i,z)::l,g,j++y,?_,by simp_all,by simp[n],h⟩;simp only[cJ,fzs,run_bind,cM w,JF,h1,h2,bS];cases h
def VG{α:Type}:List (Nat×α)->List α->Option (List α)|[],_f=>Z _f|(i,c)::r,_f=>if i<_f.length then VG r (_f.set i c)else Y
theorem Ck{t:Ty}: ∀{l:List (Nat×t.D)} {_f rows':List t.D},VG l _f=Z rows'->
  ED t.sz ((l.map (·.1)).zip (l.map λx=>_A t x.2)) (_f.map (_A t))=Z (rows'.map (_A t))/\rows'.length=_f.length
 |[],_f,rows',h=>by injection h with h;simp_all
 |(i,c)::q,_f,rows',h=>by
  simp only[VG]at h;split at h;rename_i e;obtain⟨h1,h2⟩:=Ck h;simp_all [eW];cases h
def xx(own:Bool)(t:Ty)(n:Nat)(parts:List (Nat×TO))(d:Option Nat)(_m:Nat)(s:_u)(k:_u->Option R):Option R:=
 dm t parts s s λl s1=>match VG l (_P n t.zero)with|some _f=>if own=O then k (bL d (.a (.c (._r _m))) (wN _m (.arr O t _f) s1))else k (bL d (vl t _f) s1)|none=>Y
theorem JJi(F:Orc){own:Bool}{t:Ty}{n:Nat}{parts:List (Nat×TO)}{d:Option Nat}{_m:Nat}{s:_u}{k:_u->Option R}{r:R}(hn:own=O->_m<s._o.length)
  (h:xx own t n parts d _m s k=Z r):Ok (_y F (.lits own t.sz n (_A t t.zero) (parts.map λx=>(x.1,erO x.2))) _m) d s k r:=by
 unfold xx at h;obtain⟨l,s1,ws,h1,f,h2,e⟩:=Rr (Fzd.refl s) h;rw[qS]at f;clear h;split at e;rename_i _f hp;obtain⟨j,o⟩:=Ck hp;rw[fy]at o;rw[em]at j;have y:(parts.map λx=>(x.1,erO x.2)).map (·.2)=parts.map λx=>erO x.2:=by simp
 have w:(parts.map λx=>(x.1,erO x.2)).map (·.1)=l.map (·.1):=by rw[h2];simp
 split at e;rename_i g;subst g;have q:_m<s1._o.length:=(by have:=congrArg (λst=>st._o.length) f.2.2.1;grind [JD,DR]);refine⟨⟨aZ (_v (wN _m (.arr O t _f) s1)._o) (.a (.c (._r _m))),ws++[(_m,.arr O t.sz (_f.map (_A t)))]⟩,_,?_,tJ ?_ d _,e⟩;grind [iS,mj,_y,run_bind,bS];rw[M6,f.2.2.1,fM];rfl;rename_i g;have:own=J:=by simpa using g
 subst this;refine yp (v:=vl t _f) f ?_ e;grind [_y,run_bind,bS,e_l];cases e
def pQ(s:_u):Nat->Nat->Bool
 |_,0=>O
 |_m,k+1=>(match s._o[_m]? with
  |some .dead=>O
  |_=>J)&&pQ s (_m+1) k
theorem zo{s:_u}: ∀{k _m:Nat},pQ s _m k=O->(vQ _m k).run (JD s)=Z ()
 |0,_,_=>rfl
 |k+1,_m,h=>by
  simp only[pQ,bB]at h;obtain⟨h1,h2⟩:=h;split at h1;rename_i hd;simp only[vQ,eT,eS,hd,dB,JF,bH];exact zo h2;cases h1
theorem zT{s:_u}: ∀{k _m:Nat},pQ s _m k=O-> ∀j,j<k->s._o[_m+j]?=Z .dead
 |0,_,_,j,hj=>by omega
 |k+1,_m,h,j,hj=>by
  simp only[pQ,bB]at h;obtain⟨h1,h2⟩:=h;cases j with
  |zero=>
   grind
  |succ j=>
   have:=zT h2 j (by omega);grind
theorem lm{m:RM Eff}{d:Option Nat}{s:_u}{k:_u->Option R}{r:R}{_m:Nat}{x:TB}(hd:s._o[_m]?=Z .dead)(h0:lnB x=0)
  (hm:m.run (JD s)=Z ⟨.ptr _m 0,[(_m,bH (_v s._o) x)]⟩) (h:k (bL d (.a (.c (.ptr _m []))) (wS _m x s))=Z r):Ok m d s k r:=by
 refine NY (x:=x) (v:=.a (.c (.ptr _m []))) (h0.trans (EE hd).symm) ?_ h;rw[hm];rfl
def Ro(t:Ty)(d:Option Nat)(_m:Nat)(s:_u)(k:_u->Option R):Option R:=k (bL d (.a (.c (.ptr _m []))) (wS _m (.box t t.zero) s))
theorem JEt(F:Orc){t:Ty}{d:Option Nat}{_m:Nat}{s:_u}{k:_u->Option R}{r:R}(hd:s._o[_m]?=Z .dead)(h:Ro t d _m s k=Z r):Ok (_y F (.newbox (_A t t.zero)) _m) d s k r:=
 lm hd (x:=.box t t.zero) rfl rfl h
def uu(t:Ty)(x:TV)(d:Option Nat)(_m:Nat)(s:_u)(k:_u->Option R):Option R:=
 match tdv t x with
 |some z=>if agv x=O\/t.sz=1 then k (bL d (.a (.c (.ptr _m []))) (wS _m (.box t z) s))else Y
 |none=>match tcs x with|some cs=>if cs.length=t.sz then k (bL d (.a (.c (.ptr _m []))) (wS _m (.mbox t cs) s))else Y|none=>Y
theorem JLD(F:Orc){t:Ty}{x:TO}{v:TV}{d:Option Nat}{_m:Nat}{s:_u}{k:_u->Option R}{r:R}(hd:s._o[_m]?=Z .dead)(hx:tev x s=Z v)(h:uu t v d _m s k=Z r):Ok (_y F (.box t.sz (erO x)) _m) d s k r:=by
 unfold uu at h;split at h;rename_i z j;split at h;rename_i e;refine lm hd (x:=.box t z) rfl ?_ h;simp only[_y,run_bind,cM hx,JF,pu (_v s._o) j e,eN,eW,if_true,bS,bH];cases h;split at h;rename_i cs hc;split at h;rename_i g;refine lm hd (x:=.mbox t cs) rfl ?_ h;simp only[_y,run_bind,cM hx,JF,PC (_v s._o) hc,eN,g,if_true,bS,bH];cases h;cases h
def rK:List (Nat×Ty)->Nat->_u->_u|[],_,s=>s|(_,t)::r,n,s=>rK r (n+1) (wS n (.arr O t []) s)
def CD:List (Nat×Ty)->Nat->List TC->List TC|[],_,cs=>cs|(off,_)::r,n,cs=>CD r (n+1) (cs.set off (._r n))
def mO(os:List (Nat×Ty)):List (Nat×Nat):=os.map λx=>(x.1,x.2.sz)
theorem m6: ∀{os:List (Nat×Ty)} {_m:Nat} {s:_u},(∀j,j<os.length->s._o[_m+j]?=Z .dead)->
  _v (rK os _m s)._o=_v s._o/\JD (rK os _m s)=⟨(JD s).env,upd (iR (mO os) _m) (JD s)._o⟩/\(∀b,(∀j,j<os.length->b≠_m+j)->(rK os _m s)._o[b]?=s._o[b]?)
 |[],_,s,_=>⟨rfl,rfl,λ_ _=>rfl⟩
 |(off,t)::q,_m,s,h=>by
  have hd:s._o[_m]?=Z .dead:=h 0 (by simp);have hl:lnB (.arr O t [])=_v s._o _m:=(EE hd).symm;have e:=HZ hl;have g: ∀c,c≠_m->(wS _m (.arr O t []) s)._o[c]?=s._o[c]?:=λc hc=>by grind [wS]
  obtain⟨h1,h2,n⟩:=m6 (os:=q) (_m:=_m+1) (s:=wS _m (.arr O t []) s) (λj k=>by
   rw[g _ (by omega)];have:=h (j+1) (by simp;omega);grind)
  refine⟨h1.trans e,?_,λb hb=>?_⟩;simp only[rK];rw[h2,CZ hl];simp only[mO,cJ,iR];rfl;simp only[rK];rw[n b (λj k=>by have:=hb (j+1) (by simp;omega);omega),g b (by have:=hb 0 (by simp);omega)]
theorem mh{L:Nat->Nat}: ∀{os:List (Nat×Ty)} {_m:Nat} {cs:List TC},(∀j,j<os.length->L (_m+j)=0)->(CD os _m cs).map (bI L)=nS (mO os) _m (cs.map (bI L))
 |[],_,_,_=>rfl
 |(off,t)::q,_m,cs,h=>by
  simp only[CD,mO,cJ,nS];rw[mh (os:=q) (_m:=_m+1) (λj e=>by have:=h (j+1) (by simp;omega);grind),List.map_set];have:bI L (._r _m)=._r _m 0 0:=by simp only[bI];rw[show L _m=0 from h 0 (by simp)]
  rw[this];rfl
def nm(t:Ty)(os:List (Nat×Ty))(d:Option Nat)(_m:Nat)(s:_u)(k:_u->Option R):Option R:=k (bL d (.a (.c (.ptr (_m+os.length) []))) (wS (_m+os.length) (.mbox t (CD os _m (zcs t))) (rK os _m s)))
theorem JBS(F:Orc){t:Ty}{os:List (Nat×Ty)}{d:Option Nat}{_m:Nat}{s:_u}{k:_u->Option R}{r:R}(hd:pQ s _m (os.length+1)=O)(h:nm t os d _m s k=Z r):
  Ok (_y F (.newboxo (_A t t.zero) (mO os)) _m) d s k r:=by
 unfold nm at h;generalize hc:zcs t=cs at h;have g:=zT hd;obtain⟨h1,h2,o⟩:=m6 (os:=os) (_m:=_m) (s:=s) (λj n=>g j (by omega));have hl:lnB (.mbox t (CD os _m cs))=_v (rK os _m s)._o (_m+os.length):=by rw[h1,EE (g os.length (by omega))];rfl
 have e:=HZ hl;have el:(mO os).length=os.length:=by simp[mO]
 refine⟨⟨aZ (_v (wS (_m+os.length) (.mbox t (CD os _m cs)) (rK os _m s))._o) (.a (.c (.ptr (_m+os.length) []))),iR (mO os) _m++[(_m+os.length,.box (nS (mO os) _m ((_A t t.zero).map .p)))]⟩,_,?_,tJ ?_ d _,h⟩;simp only[_y,bS,el];rfl;rw[CZ hl,h2,fM];simp only[bH];rw[mh (λj n=>by rw[h1];grind [EE]),<-hc,HX];rfl
def me(t:Ty)(parts:List (Nat×Ty×TO))(os:List (Nat×Ty))(d:Option Nat)(_m:Nat)(s:_u)(k:_u->Option R):Option R:=
 match tpc parts s with
 |some l=>match NK l (CD os _m (zcs t))with
  |some cs'=>match mka O t cs' with|some v=>k (bL d v (rK os _m s))|none=>Y
  |none=>Y
 |none=>Y
theorem JEm(F:Orc){t:Ty}{parts:List (Nat×Ty×TO)}{os:List (Nat×Ty)}{d:Option Nat}{_m:Nat}{s:_u}{k:_u->Option R}{r:R}(hd:pQ s _m os.length=O)(h:me t parts os d _m s k=Z r):
  Ok (_y F (.buildo (_A t t.zero) (erP parts) (mO os)) _m) d s k r:=by
 unfold me at h;split at h;rename_i l hl;have e:=zT hd;obtain⟨h1,h2,q⟩:=m6 (os:=os) (_m:=_m) (s:=s) (λj n=>e j (by omega));split at h;rename_i cs' hf;split at h;rename_i v w;refine⟨⟨aZ (_v (rK os _m s)._o) v,iR (mO os) _m⟩,_,?_,tJ h2 d _,h⟩;have g:=mh (L:=_v s._o) (os:=os) (_m:=_m) (cs:=zcs t) (λj n=>EE (e j (by omega)));rw[HX]at g;have o:=nv (_v s._o) hf;grind [_y,run_bind,jh,ID,bS];cases h;cases h;cases h
def N6(t:Ty)(d:Option Nat)(_m:Nat)(s:_u)(k:_u->Option R):Option R:=k (bL d (.a (.c (._r _m))) (wN _m (.arr O t []) s))
theorem JGG(F:Orc){t:Ty}{x:Opd}{d:Option Nat}{_m:Nat}{s:_u}{k:_u->Option R}{r:R}(hn:_m<s._o.length)(h:N6 t d _m s k=Z r):Ok (_y F (.mkarr t.sz x) _m) d s k r:=
 kd (_f:=[]) hn rfl h
def tyB:Option TB->Ty|some (.box t _)=>t|some (.mbox t _)=>t|_=>.u
def li(t:Ty)(x:TV)(d:Option Nat)(_m:Nat)(s:_u)(k:_u->Option R):Option R:=
 match x with
 | .a (.c (.ptr b p))=>match uU p,(match s._o[b]? with
   |some (.box e y)=>CF e y
   |some (.mbox _ cs)=>Z cs
   |_=>Y)with
  |some off,Z cs=>match spl cs off [._r _m]with|some cs'=>k (bL d uv (wS b (.mbox (tyB s._o[b]?) cs') (wS _m (.arr O t []) s)))|none=>Y
  |_,_=>Y
 |_=>Y
theorem JEl(F:Orc){t:Ty}{x:TO}{v:TV}{d:Option Nat}{_m:Nat}{s:_u}{k:_u->Option R}{r:R}(hd:s._o[_m]?=Z .dead)(hx:tev x s=Z v)(h:li t v d _m s k=Z r):Ok (_y F (.storen t.sz (erO x)) _m) d s k r:=by
 unfold li at h;split at h;rename_i b p;split at h;rename_i off cs z hc;split at h;rename_i cs' hs;have hl:lnB (.arr O t [])=_v s._o _m:=(EE hd).symm;have j:b≠_m/\_v s._o b=0/\(JD s)._o[b]?=Z (.box (cs.map (bI (_v s._o)))):=(by split at hc;rename_i w y hb;refine⟨λe=>?_,VR hb,?_⟩;simp_all;rw[eS,hb,PN _ hc];rfl;rename_i w C hb;cases hc;refine⟨λe=>?_,Ac hb,?_⟩;simp_all;rw[eS,hb];rfl;cases hc);obtain⟨B,o,hb⟩:=j;have n:=HZ hl;have g:lnB (.mbox (tyB s._o[b]?) cs')=_v (wS _m (.arr O t []) s)._o b:=by rw[n,o];rfl
 refine⟨⟨aZ (_v (wS b (.mbox (tyB s._o[b]?) cs') (wS _m (.arr O t []) s))._o) uv,(_m,.arr O t.sz [])::[(b,.box (cs'.map (bI (_v s._o))))]⟩,_,?_,tJ ?_ d _,h⟩;have q:bI (_v s._o) (._r _m)=._r _m 0 0:=by grind [bI,EE]
 have A:spl (cs.map (bI (_v s._o))) (spo p) [._r _m 0 0]=Z (cs'.map (bI (_v s._o))):=by rw[<-q,HV z];have:=IS (bI (_v s._o)) cs off [TC._r _m];simp_all
 simp only[_y,run_bind,cM hx,JF,lW,jI,eT,hb,cellsOf,pH,List.length_nil,qX,if_true,A,bS];rfl;rw[CZ g,CZ hl,n];rfl;cases h;cases h;cases h
def xa(c:Bool)(a b:Option TV)(kk:TV->Option R):Option R:=
 match a,b with
 |some (.a (.c (.d t x))),Z (.a (.c (.d t' y)))=>if h:t'=t then kk (.a (.c (.d t (JRg c x (h▸y)))))else Y
 |some x,Z y=>if c=O then kk x else kk y
 |some x,Y=>if c=O then kk x else Y
 |none,Z y=>if c=O then Y else kk y
 |none,Y=>Y
theorem JKK(F:Orc){c a b:TO}{x:Bool}{d:Option Nat}{_m:Nat}{s:_u}{k:_u->Option R}{r:R}(hc:tev c s=Z (vb x))(h:xa x (tev a s) (tev b s) (λv=>k (bL d v s))=Z r):Ok (_y F (.pick (erO c) (erO a) (erO b)) _m) d s k r:=by
 have e: ∃v,(if x=O then tev a s else tev b s)=Z v/\k (bL d v s)=Z r:=by
  unfold xa at h;split at h;rename_i t y t' z j hb;split at h;rename_i g;subst g;refine⟨_,?_,h⟩;rw[j,hb];cases x<;>rfl
  cases h
  all_goals grind
 obtain⟨v,h1,h2⟩:=e;refine fY (v:=v) ?_ h2;simp only[_y,run_bind,cM hc,JF,e_b];grind [run_bind,cM,bS]
def tcl:List TO->_u->Option (List TC)
 |[],_=>Z []
 |o::r,s=>match tev o s with
  |some (.a (.c x))=>match tcl r s with|some l=>Z (x::l)|none=>Y
  |_=>Y
theorem Oh{s:_u}: ∀{xs:List TO} {l:List TC},tcl xs s=Z l->(evs (xs.map erO)).run (JD s)=Z (l.map (bI (_v s._o)))
 |[],l,h=>by cases h;rfl
 |o::q,l,h=>by
  simp only[tcl]at h;split at h;rename_i x e;split at h;rename_i l' hl;cases h;simp only[cJ,evs,run_bind,cM e,JF,Oh hl,bS];rfl;cases h;cases h
def vj(x:TV)(kk:TV->Option R):Option R:=
 match x with
 | .a (.c (.ptr b p))=>kk (.a (.c (.ptr b p)))
 | .a (.c (.cp t y p))=>kk (.a (.c (.cp t y p)))
 | .a (.c (.ep b i p))=>kk (.a (.c (.ep b i p)))
 | .a (.fn f a c)=>kk (.a (.fn f a c))
 | .a (.c (.fn f))=>kk (.a (.c (.fn f)))
 |_=>Y
theorem JLH(F:Orc){x:TO}{v:TV}{d:Option Nat}{_m:Nat}{s:_u}{k:_u->Option R}{r:R}(hx:tev x s=Z v)(h:vj v (λv=>k (bL d v s))=Z r):Ok (_y F (.nilchk (erO x)) _m) d s k r:=by
 unfold vj at h;split at h<;>first
  |(refine fY (v:=_) ?_ h
    simp only[_y,run_bind,cM hx,JF,lW,nU,mM,vo,L9,bS];done)
  |cases h
end
end Go.Am
end
section
namespace Go.Am
section
variable {R:Type}
def us(keep:Bool)(v:TV)(s:_u)(kk:TA->_u->Option R):Option R:=
 match v with
 | .a x=>if keep=O then kk x s else
  match x with
  | .c (._r b)=>match s._o[b]? with|some (.arr _ t' _f)=>kk (.c (.d (.l t') _f)) (wS b (.arr J t' _f) s)|_=>Y
  | .c (.slo _ _)=>Y
  | .c (.suf _ _)=>Y
  | .c (.suo _ _ _)=>Y
  | .m t cs=>fzC t cs s λx s'=>kk (.dt t x) s'
  |x=>kk x s
 | .tup _=>Y
def NN:List (TV×Bool)->_u->(List TA->_u->Option R)->Option R|[],s,kk=>kk [] s|(v,keep)::r,s,kk=>us keep v s λx s=>NN r s λl s=>kk (x::l) s
theorem JMD{keep:Bool}{v:TV}{s0 s:_u}{w0:List (Nat×_w)}{kk:TA->_u->Option R}{r:R}(f:Fzd s0 s w0)(h:us keep v s kk=Z r):
  ∃x s' ws,(if keep=O then RM.ret (aZ (_v s0._o) v,[])else kI (aZ (_v s0._o) v)).run (JD s0)=Z (bY (_v s0._o) x,ws)/\Fzd s0 s' (w0++ws)/\kk x s'=Z r:=by
 unfold us at h;split at h;rename_i x;split at h;rename_i hk;subst hk;exact⟨x,s,[],rfl,by simp_all,h⟩;rename_i hk;have:keep=J:=by simpa using hk
 subst this;simp only[fK,if_false];split at h;rename_i b;split at h;rename_i w t' _f hb;obtain⟨w',e⟩:=f.2.2.2.1 b _ _f w hb;refine⟨_,_,[(b,.arr J t'.sz (_f.map (_A t')))],?_,f.trans (ky hb),h⟩;simp only[iS,kI,fz,run_bind,eT,eS,e,dB,JF,bH,mB e,eN,qX,if_true,GL,bS];rfl;cases h;cases h;cases h;cases h;obtain⟨y,s',ws,h1,h2,g⟩:=PF f h;refine⟨_,s',ws,?_,h2,g⟩;simp only[e_m,kI,fz,run_bind,h1,JF,bS];rfl;rename_i q z k o j;refine⟨x,s,[],?_,by simp_all,h⟩;cases x with
 |c x=>
  cases x with
  |_r b=>simp_all
  |slo b n=>simp_all
  |suf b i=>simp_all
  |suo b i n=>simp_all
  |_=>rfl
 |m t cs=>simp_all
 |_=>rfl
 cases h
theorem n4: ∀{vs:List (TV×Bool)} {s0 s:_u} {w0:List (Nat×_w)} {kk:List TA->_u->Option R} {r:R},Fzd s0 s w0->NN vs s kk=Z r->
  ∃xs s' ws,(fW (vs.map (·.2)) (vs.map λx=>aZ (_v s0._o) x.1)).run (JD s0)=Z (xs.map (bY (_v s0._o)),ws)/\Fzd s0 s' (w0++ws)/\kk xs s'=Z r
 |[],s0,s,w0,kk,r,f,h=>⟨[],s,[],rfl,by simp_all,h⟩
 |(v,keep)::q,s0,s,w0,kk,r,f,h=>by simp only[NN]at h;obtain⟨x,s1,j,h1,e,h⟩:=JMD f h;obtain⟨xs,g,k,h2,n,h⟩:=n4 e h;refine⟨x::xs,g,j++k,?_,by simp_all,h⟩;cases keep<;>simp_all [fW]
theorem YB: ∀(vs:List AV),fW [] vs=lR vs|[]=>rfl|x::r=>by simp only[fW,lR,YB r]
theorem QV: ∀(m:List Bool) (vs:List AV),(∀x∈m,x=J)->fW m vs=lR vs|[],vs,_=>YB vs|b::m,[],_=>rfl|b::m,x::r,h=>by have:b=J:=h b (by simp);subst this;simp only[fW,lR,QV m r (λx e=>h x (by simp[e]))]
def MQ(b:Nat)(l:List Nat):List Nat:=if l.any (λx=>x==b)=O then l else l++[b]
def UG(x:TC)(l:List Nat):Option (List Nat):=
 match x with
 | .ptr b _=>Z (MQ b l)
 | ._r b=>Z (MQ b l)
 | .slo b _=>Z (MQ b l)
 | .ep _ _ _=>Y
 | .epo _ _ _ _=>Y
 | .suf _ _=>Y
 | .suo _ _ _=>Y
 |_=>Z l
def yP:List TC->List Nat->Option (List Nat)|[],l=>Z l|x::r,l=>match UG x l with|some l=>yP r l|none=>Y
def x8(x:TA)(l:List Nat):Option (List Nat):=
 match x with
 | .c x=>UG x l
 | .dt _ _=>Z l
 | .m _ cs=>yP cs l
 | .fn _ a c=>match yP a l with|some l=>yP c l|none=>Y
def IC:List TA->List Nat->Option (List Nat)|[],l=>Z l|x::r,l=>match x8 x l with|some l=>IC r l|none=>Y
def yN(s:_u):List Nat->List Nat->Option (List Nat)
 |[],acc=>Z acc
 |b::r,acc=>match s._o[b]? with
  |some (.mbox _ cs)=>match yP cs acc with|some acc=>yN s r acc|none=>Y
  |some _=>yN s r acc
  |none=>Y
theorem JAU(b:Nat)(l:List Nat):zF (.whole b) (l.map .whole)=(MQ b l).map .whole:=by
 grind [zF,MQ]
section
variable (L:Nat->Nat)
theorem Bb{x:TC}{l l':List Nat}(h:UG x l=Z l'):dA (bI L x) (l.map .whole)=l'.map .whole:=by
 unfold UG at h;split at h<;>first
  |(cases h;simp only[bI,dA,JAU];done)
  |(cases h;done)
  |skip
 cases h;rename_i o q r v k g j;cases x with
 |ptr b p=>simp_all
 |_r b=>simp_all
 |slo b n=>simp_all
 |ep b i p=>simp_all
 |epo b e i p=>grind
 |suf b i=>grind
 |suo b i n=>grind
 |_=>rfl
theorem QE: ∀{xs:List TC} {l l':List Nat},yP xs l=Z l'->dA.entsOfL (xs.map (bI L)) (l.map .whole)=l'.map .whole
 |[],l,l',h=>by cases h;rfl
 |x::r,l,l',h=>by
  simp only[yP]at h;split at h;rename_i e h1;simp only[cJ,dA.entsOfL,Bb L h1];exact QE h;cases h
theorem JK3{x:TA}{l l':List Nat}(h:x8 x l=Z l'):dA (bY L x) (l.map .whole)=l'.map .whole:=by
 cases x with
 |c x=>exact Bb L h
 |dt t x=>cases h;rfl
 |m t cs=>exact QE L h
 |fn f a c=>
  simp only[x8]at h;split at h
  all_goals simp_all [bY,QE]
theorem XL: ∀{xs:List TA} {l l':List Nat},IC xs l=Z l'->dA.entsOfL (xs.map (bY L)) (l.map .whole)=l'.map .whole
 |[],l,l',h=>by cases h;rfl
 |x::r,l,l',h=>by
  simp only[IC]at h;split at h;rename_i e h1;simp only[cJ,dA.entsOfL,JK3 L h1];exact XL h;cases h
end
theorem ng{s0 s1:_u}{ws:List (Nat×_w)}(f:Fzd s0 s1 ws){b:Nat}{y:TB}(h:s1._o[b]?=Z y):(sQ ws b).run (JD s0)=Z (bH (_v s0._o) y):=by
 have h1:(JD s1)._o[b]?=Z (bH (_v s0._o) y):=by rw[eS,h,f.2.1];rfl
 rw[f.2.2.1]at h1;grind [DR,zO,sQ,eT,bS]
theorem EI{s0 s1:_u}{ws:List (Nat×_w)}(f:Fzd s0 s1 ws): ∀{r acc l:List Nat},yN s1 r acc=Z l->(eU ws (r.map .whole) (acc.map .whole)).run (JD s0)=Z (l.map .whole)
 |[],acc,l,h=>by cases h;rfl
 |b::r,acc,l,h=>by
  simp only[yN]at h;split at h;rename_i cs hb;split at h;rename_i e g;simp only[cJ,eU,run_bind,ng f hb,JF,bH,QE (_v s0._o) g];exact EI f h;cases h;rename_i x j hb;simp only[cJ,eU,run_bind,ng f hb,JF];cases x with
  |mbox t cs=>simp_all
  |box t x=>simp only[bH];rw[Ch];exact EI f h
  |_=>exact EI f h
  cases h
end
end Go.Am
end
section
namespace Go.Am
def kCs(K:List Nat)(L:Nat->Nat):TC->TC| ._r c=>if K.any (λx=>x==c)=O then .slo c (L c)else ._r c| .ep c i p=>if K.any (λx=>x==c)=O then .epo c (L c) i p else .ep c i p| .pre c k=>if K.any (λx=>x==c)=O then .pro c (L c) k else .pre c k| .suf c i=>if K.any (λx=>x==c)=O then .suo c (min i (L c)) (L c-i)else .suf c i|x=>x
def kAs(K:List Nat)(L:Nat->Nat):TA->TA| .c x=>.c (kCs K L x)| .dt t x=>.dt t x| .m t cs=>.m t (cs.map (kCs K L))| .fn f a c=>.fn f (a.map (kCs K L)) (c.map (kCs K L))
def kVs(K:List Nat)(L:Nat->Nat):TV->TV| .a x=>.a (kAs K L x)| .tup vs=>.tup (vs.map (kAs K L))
def kBs(K:List Nat)(L:Nat->Nat):TB->TB| .mbox t cs=>.mbox t (cs.map (kCs K L))|x=>x
section
variable {K:List Nat} {L L':Nat->Nat} (h: ∀c,K.any (λx=>x==c)=J->L' c=L c)
include h
theorem Lz(x:TC):bI L' (kCs K L x)=bI L x:=by cases x<;>grind [kCs,bI]
theorem Mw(xs:List TC):(xs.map (kCs K L)).map (bI L')=xs.map (bI L):=by
 grind [List.map_congr_left,Lz]
theorem JRo(x:TA):bY L' (kAs K L x)=bY L x:=by cases x<;>simp only[kAs,bY,Lz h,Mw h]
theorem JRB(x:TV):aZ L' (kVs K L x)=aZ L x:=by cases x<;>simp only[kVs,aZ,JRo h,BR,Function.comp_def]
theorem JRj(x:TB):bH L' (kBs K L x)=bH L x:=by cases x<;>simp only[kBs,bH,Mw h]
end
theorem JMZ(K:List Nat)(L:Nat->Nat)(x:TB):lnB (kBs K L x)=lnB x:=by cases x<;>rfl
theorem JMC(_o:List TB)(K:List Nat)(L:Nat->Nat)(c:Nat):_v (_o.map (kBs K L)) c=_v _o c:=by
 unfold _v;rw[iM];cases _o[c]? with
 |none=>rfl
 |some x=>exact JMZ K L x
def xU(ws:List (Nat×Bool×TB))(_o:List TB):List TB:=ws.foldl (λσ x=>σ.set x.1 x.2.2) _o
def pP(ws:List (Nat×Bool×TB))(s:_u):_u:=
 match ws with
 |[]=>s
 |ws=>
  let K:=(ws.filter λx=> !x.2.1).map (·.1)
  ⟨s.env.map λy=>(y.1,kVs K (_v s._o) y.2),xU ws (s._o.map (kBs K (_v s._o)))⟩
theorem nz: ∀{ws:List (Nat×Bool×TB)} {_o:List TB} {c:Nat},c∉ws.map (·.1)->(xU ws _o)[c]?=_o[c]?|[],_,_,_=>rfl|x::ws,_o,c,h=>by simp only[cJ,cV,not_or]at h;show(xU ws (_o.set x.1 x.2.2))[c]?=_;rw[nz h.2,dv (λe=>h.1 e.symm)]
theorem O0: ∀{ws:List (Nat×Bool×TB)} {_o:List TB},(ws.map (·.1)).Nodup-> ∀x∈ws,x.1<_o.length->(xU ws _o)[x.1]?=Z x.2.2
 |[],_,_,x,e,_=>by cases e
 |y::ws,_o,g,x,e,hl=>by
  simp only[cJ,List.nodup_cons]at g;show(xU ws (_o.set y.1 y.2.2))[x.1]?=_;rcases cV.1 e with rfl|e;grind [nz];exact O0 g.2 x e (by simpa using hl)
theorem Ag(f:TB->_w): ∀(ws:List (Nat×Bool×TB)) (_o:List TB),(xU ws _o).map f=upd (ws.map λx=>(x.1,f x.2.2)) (_o.map f)
 |[],_=>rfl
 |x::ws,_o=>by show(xU ws (_o.set x.1 x.2.2)).map f=upd (ws.map λx=>(x.1,f x.2.2)) ((_o.map f).set x.1 (f x.2.2));rw[Ag f ws,List.map_set]
theorem JN3{ws:List (Nat×Bool×TB)}{s:_u}(hn:(ws.map (·.1)).Nodup)(hl: ∀x∈ws,x.1<s._o.length)(hf: ∀x∈ws,x.2.1=O->lnB x.2.2=_v s._o x.1):
  JD (pP ws s)=⟨(JD s).env,upd (ws.map λx=>(x.1,bH (_v (pP ws s)._o) x.2.2)) (JD s)._o⟩/\ ∀x∈ws,_v (pP ws s)._o x.1=lnB x.2.2:=by
 cases ws with
 |nil=>exact⟨rfl,λx g=>by cases g⟩
 |cons x0 j=>
  generalize k:x0::j=ws at*;have e:pP ws s=⟨s.env.map λy=>(y.1,kVs ((ws.filter λx=> !x.2.1).map (·.1)) (_v s._o) y.2),xU ws (s._o.map (kBs ((ws.filter λx=> !x.2.1).map (·.1)) (_v s._o)))⟩:=by subst k;rfl
  have h: ∀x∈ws,_v (pP ws s)._o x.1=lnB x.2.2:=λx g=>by rw[e];unfold _v;rw[O0 hn x g (by grind)];rfl
  have hk: ∀c,((ws.filter λx=> !x.2.1).map (·.1)).any (λx=>x==c)=J->_v (pP ws s)._o c=_v s._o c:=(by intro c hc;by_cases n:c∈ws.map (·.1);obtain⟨x,g,rfl⟩:=iN.1 n;grind;rw[e];have:=JMC s._o ((ws.filter λx=> !x.2.1).map (·.1)) (_v s._o) c;grind [_v,nz]);refine⟨?_,h⟩;generalize hL:_v (pP ws s)._o=L' at*;unfold JD;rw[hL,e];grind [gG,List.map_congr_left,JRB,Ag,JRj]
theorem P9(b:Nat): ∀(_p:List Nat) (k:Nat),dU (.whole b) (_p.map .whole) k=fG b _p k
 |[],_=>rfl
 |x::r,k=>by
  simp only[cJ,dU,fG];by_cases h:x=b;subst h;simp;simp[h,P9 b r (k+1)]
def UL(_p:List Nat):TC->Option TC| .ptr b p=>(fG b _p 0).bind λk=>Z (.ptr k p)| ._r b=>(fG b _p 0).bind λk=>Z (._r k)| .slo b n=>(fG b _p 0).bind λk=>Z (.slo k n)| .ep _ _ _=>Y| .epo _ _ _ _=>Y| .pre _ _=>Y| .pro _ _ _=>Y| .suf _ _=>Y| .suo _ _ _=>Y|x=>Z x
def CV(_p:List Nat):List TC->Option (List TC)|[]=>Z []|x::r=>match UL _p x,CV _p r with|some y,Z l=>Z (y::l)|_,_=>Y
def OG(_p:List Nat):TA->Option TA
 | .c x=>match UL _p x with|some y=>Z (.c y)|none=>Y
 | .dt t x=>Z (.dt t x)
 | .m t cs=>match CV _p cs with|some l=>Z (.m t l)|none=>Y
 | .fn f a c=>match CV _p a,CV _p c with|some a,Z c=>Z (.fn f a c)|_,_=>Y
def VC(_p:List Nat):List TA->Option (List TA)|[]=>Z []|x::r=>match OG _p x,VC _p r with|some y,Z l=>Z (y::l)|_,_=>Y
def yj(_p:List Nat):TB->Option TB
 | .box t x=>Z (.box t x)
 | .mbox t cs=>match CV _p cs with|some l=>Z (.mbox t l)|none=>Y
 | .arr w t _f=>Z (.arr w t _f)
 | .dead=>Y
def zN(_p:List Nat)(s:_u):List Nat->Option (List TB)
 |[]=>Z []
 |b::r=>match s._o[b]? with
  |some x=>match yj _p x,zN _p s r with|some y,Z l=>Z (y::l)|_,_=>Y
  |none=>Y
section
variable {_p:List Nat} {L L':Nat->Nat} (hL: ∀b k,fG b _p 0=Z k->L' k=L b)
include hL
theorem zq{x y:TC}(h:UL _p x=Z y):ren (λe=>dU e (_p.map .whole) 0) (bI L x)=Z (bI L' y):=by
 cases x<;>simp only[UL]at h<;>first
  |(obtain⟨k,hk,h⟩:=bV.1 h
    cases h;simp only[bI,ren,P9,hk,dB]
    try rw[hL _ _ hk]
    done)
  |(cases h;rfl)
  |cases h
theorem WQ: ∀{xs g:List TC},CV _p xs=Z g->ren.renL (λe=>dU e (_p.map .whole) 0) (xs.map (bI L))=Z (g.map (bI L'))
 |[],g,h=>by cases h;rfl
 |x::r,g,h=>by
  simp only[CV]at h;split at h;rename_i y l j hl;cases h;simp only[cJ,ren.renL,zq hL j,WQ hl];cases h
theorem JJL{x y:TA}(h:OG _p x=Z y):ren (λe=>dU e (_p.map .whole) 0) (bY L x)=Z (bY L' y):=by
 cases x with
 |c x=>
  simp only[OG]at h;split at h;rename_i y g;cases h;exact zq hL g;cases h
 |dt t x=>cases h;rfl
 |m t cs=>
  grind [OG,bY,ren,WQ]
 |fn f a c=>
  grind [OG,bY,ren,WQ]
theorem B3: ∀{xs g:List TA},VC _p xs=Z g->ren.renL (λe=>dU e (_p.map .whole) 0) (xs.map (bY L))=Z (g.map (bY L'))
 |[],g,h=>by cases h;rfl
 |x::r,g,h=>by
  simp only[VC]at h;split at h;rename_i y l j hl;cases h;simp only[cJ,ren.renL,JJL hL j,B3 hl];cases h
theorem Db{s0 s1:_u}{ws:List (Nat×_w)}(f:Fzd s0 s1 ws)(j:_v s0._o=L): ∀{bs:List Nat} {bl:List TB},zN _p s1 bs=Z bl->
  (lY ws (λe=>dU e (_p.map .whole) 0) (bs.map .whole)).run (JD s0)=Z (bl.map (bH L'))
 |[],bl,h=>by cases h;rfl
 |b::r,bl,h=>by
  simp only[zN]at h;split at h;rename_i x hb;split at h;rename_i y l g hl;cases h;have ih:=Db f j hl;have k:=ng f hb;rw[j]at k;simp only[cJ,lY,CQ,run_bind,k,JF];cases x with
  |dead=>cases g
  |box t x=>injection g with g;grind [Bz,dd,bH,bS]
  |mbox t cs=>
   grind [yj,bH,WQ,bS]
  |arr w t _f=>injection g with g;grind [bH,bS]
  cases h;cases h
end
theorem D1{_p:List Nat}{s:_u}: ∀{bs:List Nat} {bl:List TB},zN _p s bs=Z bl->bl.length=bs.length/\ ∀(k b:Nat),bs[k]?=Z b->_v bl k=_v s._o b
 |[],bl,h=>by injection h with h;simp_all
 |b::r,bl,h=>by
  simp only[zN]at h;split at h;rename_i x hb;split at h;rename_i y l e hl;cases h;obtain⟨h1,h2⟩:=D1 hl;refine⟨by simp[h1],λk c hk=>?_⟩;cases k with
  |zero=>
   simp at hk;subst hk;unfold _v;rw[hb];show lnB y=lnB x;cases x with
   |dead=>cases e
   |box t x=>cases e;rfl
   |mbox t cs=>
    simp only[yj]at e;split at e;cases e;rfl;cases e
   |arr w t _f=>cases e;rfl
  |succ k=>
   grind [_v]
  cases h;cases h
def fS(_p:List Nat)(_m m k:Nat):Option Nat:=if k<_p.length then _p[k]? else if k<m then Z (_m+(k-_p.length))else Y
def ed(_p:List Nat)(_m m:Nat):TC->Option TC| .ptr k p=>(fS _p _m m k).bind λb=>Z (.ptr b p)| ._r k=>(fS _p _m m k).bind λb=>Z (._r b)| .slo k n=>(fS _p _m m k).bind λb=>Z (.slo b n)| .ep k i p=>(fS _p _m m k).bind λb=>Z (.ep b i p)| .epo k e i p=>(fS _p _m m k).bind λb=>Z (.epo b e i p)| .pre _ _=>Y| .pro _ _ _=>Y| .suf _ _=>Y| .suo _ _ _=>Y|x=>Z x
def CL(_p:List Nat)(_m m:Nat):List TC->Option (List TC)|[]=>Z []|x::r=>match ed _p _m m x,CL _p _m m r with|some y,Z l=>Z (y::l)|_,_=>Y
def ga(_p:List Nat)(_m m:Nat):TA->Option TA
 | .c x=>match ed _p _m m x with|some y=>Z (.c y)|none=>Y
 | .dt t x=>Z (.dt t x)
 | .m t cs=>match CL _p _m m cs with|some l=>Z (.m t l)|none=>Y
 | .fn f a c=>match CL _p _m m a,CL _p _m m c with|some a,Z c=>Z (.fn f a c)|_,_=>Y
def TF(_p:List Nat)(_m m:Nat):List TA->Option (List TA)|[]=>Z []|x::r=>match ga _p _m m x,TF _p _m m r with|some y,Z l=>Z (y::l)|_,_=>Y
def vh(_p:List Nat)(_m m:Nat):TV->Option TV
 | .a x=>match ga _p _m m x with|some y=>Z (.a y)|none=>Y
 | .tup vs=>match TF _p _m m vs with|some l=>Z (.tup l)|none=>Y
def CH(_p:List Nat)(_m m:Nat):TB->Option TB
 | .box t x=>Z (.box t x)
 | .mbox t cs=>match CL _p _m m cs with|some l=>Z (.mbox t l)|none=>Y
 | .arr w t _f=>Z (.arr w t _f)
 | .dead=>Y
section
variable {_p:List Nat} {_m m:Nat} {L Lp:Nat->Nat} (hL: ∀k b,fS _p _m m k=Z b->Lp b=L k)
theorem JPT{k b o:Nat}(h:fS _p _m m k=Z b):bk (_p.map .whole) _m (.ptr k o)=Z (.ptr b o):=by
 grind [fS,bk]
theorem JOY{k b i n:Nat}(h:fS _p _m m k=Z b):bk (_p.map .whole) _m (._r k i n)=Z (._r b i n):=by
 grind [fS,bk]
theorem JQe{k b e i o:Nat}(h:fS _p _m m k=Z b):bk (_p.map .whole) _m (.ep k e i o)=Z (.ep b e i o):=by
 grind [fS,bk]
include hL
theorem Pd{x y:TC}(h:ed _p _m m x=Z y):bk (_p.map .whole) _m (bI L x)=Z (bI Lp y):=by
 cases x<;>simp only[ed]at h<;>first
  |(obtain⟨b,hb,h⟩:=bV.1 h
    cases h;simp only[bI,JPT hb,JOY hb,JQe hb,hL _ _ hb]
    done)
  |(cases h;done)
  |(cases h;rfl)
theorem WE: ∀{xs e:List TC},CL _p _m m xs=Z e->bk.bkL (_p.map .whole) _m (xs.map (bI L))=Z (e.map (bI Lp))
 |[],e,h=>by cases h;rfl
 |x::r,e,h=>by
  simp only[CL]at h;split at h;rename_i y l g hl;cases h;simp only[cJ,bk.bkL,Pd hL g,WE hl];cases h
theorem Q2{x y:TA}(h:ga _p _m m x=Z y):bk (_p.map .whole) _m (bY L x)=Z (bY Lp y):=by cases x<;>grind [ga,Pd,bY,bk,WE]
theorem zv: ∀{xs e:List TA},TF _p _m m xs=Z e->bk.bkL (_p.map .whole) _m (xs.map (bY L))=Z (e.map (bY Lp))
 |[],e,h=>by cases h;rfl
 |x::r,e,h=>by
  simp only[TF]at h;split at h;rename_i y l g hl;cases h;simp only[cJ,bk.bkL,Q2 hL g,zv hl];cases h
theorem JLy{x y:TV}(h:vh _p _m m x=Z y):bk (_p.map .whole) _m (aZ L x)=Z (aZ Lp y):=by cases x<;>grind [vh,Q2,aZ,bk,zv]
end
end Go.Am
end
section
namespace Go.Am
structure TG where
 go: ∀{R:Type},FuncId->List TA->List TB->(TV->List (Bool×TB)->Option R)->Option R
def qV(out:List (Bool×TB)):Nat->Nat:=_v (out.map (·.2))
structure GOk(F:Orc)(G:TG):Prop where
 ok: ∀{R:Type} {f:FuncId} {xs:List TA} {bl:List TB} {kk:TV->List (Bool×TB)->Option R} {r:R},G.go f xs bl kk=Z r->
  ∃v out,F f (xs.map (bY (_v bl))) (bl.map (bH (_v bl)))=Z (aZ (qV out) v,out.map λx=>bH (qV out) x.2)/\
   (∀(k:Nat) x,out[k]?=Z (O,x)->k<bl.length->lnB x=_v bl k)/\kk v out=Z r
def rD(_p:List Nat)(_m m:Nat):Nat->List (Bool×TB)->Option (List (Nat×Bool×TB))|_,[]=>Z []|k,(s,x)::r=>match fS _p _m m k,CH _p _m m x,rD _p _m m (k+1) r with|some b,Z y,Z l=>Z ((b,s&&decide (k<_p.length),y)::l)|_,_,_=>Y
section
variable {R:Type}
def wv(e:Bool)(a b n:Nat):Bool:=if e=O then decide (a<=b/\b<=a+n)else decide (b=a+n)
theorem JHa{e:Bool}{a b n:Nat}(h:wv e a b n=O):(if e=O then a<=b/\b<=a+n else b=a+n)/\a<=b/\b<=a+n:=by
 grind [wv]
def GZ(G:TG)(f:FuncId)(args:List (TV×Bool))(e:Bool)(n:Nat)(d:Option Nat)(_m:Nat)(s:_u)(kk:_u->Option R):Option R:=
 NN args s λxs s1=>
 match IC xs []with
 |none=>Y
 |some g=>match yN s1 g g with
  |none=>Y
  |some i1=>match yN s1 i1 i1 with
   |none=>Y
   |some _p=>if kU _p=O then
    match VC _p xs,zN _p s1 _p with
    |some j,Z bl=>G.go f j bl λv out=>
     if wv e _p.length out.length n=O then
      match vh _p _m out.length v,rD _p _m out.length 0 out with
      |some h,Z ws=>if kU (ws.map (·.1))=O then kk (bL d h (pP ws s1))else Y
      |_,_=>Y
     else Y
    |_,_=>Y
    else Y
theorem Rw{_p:List Nat}{_m m:Nat}{x y:TB}(h:CH _p _m m x=Z y):lnB y=lnB x:=by
 cases x with
 |dead=>cases h
 |box t x=>cases h;rfl
 |mbox t cs=>
  simp only[CH]at h;split at h;cases h;rfl;cases h
 |arr w t _f=>cases h;rfl
theorem Bc{_p:List Nat}{_m m:Nat}: ∀{k:Nat} {out:List (Bool×TB)} {ws:List (Nat×Bool×TB)},rD _p _m m k out=Z ws->
  ws.length=out.length/\ ∀(j:Nat) s x,out[j]?=Z (s,x)-> ∃b y,fS _p _m m (k+j)=Z b/\CH _p _m m x=Z y/\ws[j]?=Z (b,s&&decide (k+j<_p.length),y)
 |k,[],ws,h=>by injection h with h;simp_all
 |k,(s,x)::r,ws,h=>by
  simp only[rD]at h;split at h;rename_i b y l hb n hl;cases h;obtain⟨h1,h2⟩:=Bc hl;refine⟨by simp[h1],λj s' e g=>?_⟩;cases j<;>grind
  cases h
theorem JKJ{l:List Nat}(h:kU l=O):l.Nodup:=XY h
theorem JC7{_p:List Nat}(h:kU _p=O):kU ((_p.map _z.whole).map _z.id)=O:=by rw[BR,show _z.id∘_z.whole=id from rfl,List.map_id];exact h
theorem As{_p:List Nat}{_m m:Nat}{L Lp:Nat->Nat}(hL: ∀k b,fS _p _m m k=Z b->Lp b=L k){ws0:List (Nat×_w)}{st:St}: ∀{j:Nat} {es:List Nat} {out:List (Bool×TB)} {ws:List (Nat×Bool×TB)},
  (∀(i:Nat) b,es[i]?=Z b->_p[j+i]?=Z b)->j+es.length=_p.length->es.length<=out.length->rD _p _m m j out=Z ws->
  (jZ ws0 (_p.map .whole) _m (es.map .whole) (out.map λx=>bH L x.2)).run st=Z ((ws.take es.length).map λx=>(x.1,bH Lp x.2.2))
 |j,[],out,ws,_,_,_,h=>by simp[jZ]
 |j,b::es,[],ws,_,_,hl,h=>by simp at hl
 |j,b::es,(s,x)::out,ws,he,hj,hl,h=>by
  simp only[rD]at h;split at h;rename_i e y l hb r n;cases h;have ih:=As hL (ws0:=ws0) (st:=st) (j:=j+1) (es:=es) (out:=out) (ws:=l) (λi c hc=>by
   have:=he (i+1) c (by simpa using hc);grind) (by grind) (by simpa using hl) n
  have g:e=b:=(by have q:=he 0 b (by simp);grind [fS]);subst g;simp only[cJ,jZ,run_bind];have o:(vU ws0 (_p.map .whole) _m (.whole e) (bH L x)).run st=Z (e,bH Lp y):=by cases x<;>grind [DE,vU,pt,dd,bS,CH,PR,WE,jm]
  simp_all;cases h
theorem zu{_p:List Nat}{_m m:Nat}{L Lp:Nat->Nat}(hL: ∀k b,fS _p _m m k=Z b->Lp b=L k): ∀{j:Nat} {out:List (Bool×TB)} {ws:List (Nat×Bool×TB)},
  rD _p _m m (_p.length+j) out=Z ws->iV (_p.map .whole) _m (_m+j) (out.map λx=>bH L x.2)=Z (ws.map λx=>(x.1,bH Lp x.2.2))
 |j,[],ws,h=>by cases h;rfl
 |j,(s,x)::out,ws,h=>by
  simp only[rD]at h;split at h;rename_i o y l hb e n;cases h;have ih:=zu hL (j:=j+1) n;have g:o=_m+j:=(by grind [fS]);subst g;cases x with
  |dead=>cases e
  |box t x=>injection e with e;grind [DE,iV,pt,dd]
  |mbox t cs=>
   grind [CH,PR,iV,WE]
  |arr w t _f=>injection e with e;grind [jm,iV]
  cases h
theorem Dd{_p:List Nat}{_m m:Nat}: ∀{n k:Nat} {out:List (Bool×TB)} {ws:List (Nat×Bool×TB)},rD _p _m m k out=Z ws->rD _p _m m (k+n) (out.drop n)=Z (ws.drop n)
 |0,k,out,ws,h=>h
 |n+1,k,[],ws,h=>by cases h;rfl
 |n+1,k,(s,x)::out,ws,h=>by
  simp only[rD]at h;split at h;rename_i b y l hb e hl;cases h;have:=Dd (n:=n) hl;grind;cases h
theorem YD{F:Orc}{G:TG}(hG:GOk F G){f:FuncId}{args:List (TV×Bool)}{A:Bool}{n:Nat}{d:Option Nat}{_m:Nat}{s:_u}{kk:_u->Option R}{r:R}
  (hd:pQ s _m n=O) (h:GZ G f args A n d _m s kk=Z r):
  ∃xs ws B es z _q v res D fresh,(fW (args.map (·.2)) (args.map λx=>aZ (_v s._o) x.1)).run (JD s)=Z (xs,ws)/\
   (eU ws (dA.entsOfL xs []) (dA.entsOfL xs [])).run (JD s)=Z B/\(eU ws B B).run (JD s)=Z es/\kU (es.map _z.id)=O/\
   ren.renL (λe=>dU e es 0) xs=Z z/\(lY ws (λe=>dU e es 0) es).run (JD s)=Z _q/\F f z _q=Z res/\
   (if A=O then es.length<=res.2.length/\res.2.length<=es.length+n else res.2.length=es.length+n)/\bk es _m res.1=Z v/\iV es _m _m (res.2.drop es.length)=Z fresh/\
   (jZ ws es _m es res.2).run (JD s)=Z D/\ ∃s',put d ⟨v,ws++D++fresh⟩ (JD s)=JD s'/\kk s'=Z r:=by
 unfold GZ at h;obtain⟨xs,s1,ws,h1,q,h⟩:=n4 (Fzd.refl s) h;rw[qS]at q;split at h;cases h;rename_i i0 T;split at h;cases h;rename_i i1 P;split at h;cases h;rename_i _p L;split at h;rename_i V;split at h;rename_i ys bl S K;obtain⟨v,out,hF,_a,h⟩:=hG.ok h;split at h;rename_i hlen;split at h;rename_i N g U o;split at h;rename_i M;have e0:dA.entsOfL (xs.map (bY (_v s._o))) []=i0.map .whole:=XL (_v s._o) (l:=[]) T;have e1:=EI q P;have e2:=EI q L;obtain⟨ai,W⟩:=D1 K;have hL: ∀b k,fG b _p 0=Z k->_v bl k=_v s._o b:=by intro b k hk;obtain⟨_,hk⟩:=XX hk;rw[W k b (by simpa using hk),q.2.1]
 have e3:=B3 hL S;have e4:=Db hL q rfl K;obtain⟨b1,b2⟩:=Bc o;have a4: ∀(j:Nat),qV out j=match out[j]? with
   |some x=>lnB x.2
   |none=>0:=by
  intro j;unfold qV _v;rw[iM];cases out[j]?<;>rfl
 have _c: ∀(k b:Nat),_p[k]?=Z b->b<s1._o.length:=by
  have aj: ∀(bs:List Nat) (bl:List TB),zN _p s1 bs=Z bl-> ∀(k b:Nat),bs[k]?=Z b->b<s1._o.length:=by
   intro bs
   induction bs with
   |nil=>simp_all
   |cons c bs ih=>
    grind [zN]
  grind
 have a2:s1._o.length=s._o.length:=(by have:=congrArg (λst=>st._o.length) q.2.2.1;grind [JD,DR]);obtain⟨a1,_d,a0⟩:=JHa hlen;have _b:=zT hd;have a9: ∀x∈g,∃(j:Nat) (Q:Bool) (y:TB),out[j]?=Z (Q,y)/\fS _p _m out.length j=Z x.1/\CH _p _m out.length y=Z x.2.2/\x.2.1=(Q&&decide (j<_p.length)):=by
  intro x hx;obtain⟨j,hj⟩:=kN hx;have w:j<out.length:=by grind
  obtain⟨b,y,q1,q2,H⟩:=b2 j (out[j]'w).1 (out[j]'w).2 (bF w);rw[hj]at H;injection H with H;rw[qX]at q1 H;exact⟨j,_,_,bF w,by simp_all,by simp_all,by rw[H];rfl⟩
 have E: ∀x∈g,x.1<s1._o.length:=(by grind [fS,JE]);have _e: ∀x∈g,x.2.1=O->lnB x.2.2=_v s1._o x.1:=(by grind [Rw,fS]);obtain⟨w1,w2⟩:=JN3 (JKJ M) E _e;have C: ∀k b,fS _p _m out.length k=Z b->_v (pP g s1)._o b=qV out k:=(by grind [fS,Rw]);have e5:=JLy C U;have e6:=As C (ws0:=ws) (st:=JD s) (j:=0) (es:=_p) (out:=out) (ws:=g) (λi b hb=>by grind) (by omega) _d o;have e7:=zu C (j:=0) (out:=out.drop _p.length) (ws:=g.drop _p.length) (by have:=Dd (n:=_p.length) o;grind);rw[yI]at e7;refine⟨xs.map (bY (_v s._o)),ws,i1.map .whole,_p.map .whole,_,_,aZ (_v (pP g s1)._o) N,_,_,(g.drop _p.length).map (λx=>(x.1,bH (_v (pP g s1)._o) x.2.2)),h1,?_,e2,JC7 V,e3,e4,hF,?_,e5,?_,e6,bL d N (pP g s1),?_,h⟩;grind;grind;grind [List.map_drop];refine tJ ?_ d N;rw[w1,q.2.2.1];simp[fM];cases h;cases h;cases h;cases h;cases h
end
end Go.Am
end
section
namespace Go.Am
inductive TOp where
 |mv (x:TO)
 |mkarr (t:Ty) (x:TO)
 |pick (c a b:TO)
 |newbox (t:Ty)
 |box (t:Ty) (x:TO)
 |build (t:Ty) (parts:List (Nat×Ty×TO))
 |lits (own:Bool) (t:Ty) (n:Nat) (parts:List (Nat×TO))
 |load (agg:Bool) (t:Ty) (x:TO)
 |store (t:Ty) (x v:TO)
 |nilchk (x:TO)
 |bin (op:BinOp) (bt:TBT) (x y:TO)
 |un (op:UnOp) (x:TO)
 |conv (k:CK) (x:TO)
 |_D (own:Bool) (t:Ty) (bytes:Nat) (l c:TO)
 |slice (k:TSK) (x:TO) (lo hi mx:Option TO)
 |faddr (off:Nat) (x:TO)
 |field (agg:Bool) (off:Nat) (t:Ty) (x:TO)
 |iaddr (t:Ty) (x i:TO)
 |aaddr (len _l:Nat) (x i:TO)
 |sidx (x i:TO)
 |aidx (agg:Bool) (len:Nat) (t:Ty) (x i:TO)
 |extr (x:TO) (i:Nat)
 |call (f:FuncId) (args:List TO) (k:Nat)
 |callo (f:FuncId) (args:List (TO×Bool)) (k:Nat)
 |callv (g:TO) (args:List TO) (k:Nat)
 |len (str:Bool) (x:TO)
 |app (t:Ty) (bytes:Nat) (x y:TO)
 |appn (t:Ty) (bytes:Nat) (y:TO)
 |mm (mx:Bool) (x y:TO)
 |mkfn (f:FuncId) (first caps:List TO)
 |newboxo (t:Ty) (os:List (Nat×Ty))
 |buildo (t:Ty) (parts:List (Nat×Ty×TO)) (os:List (Nat×Ty))
 |storen (t:Ty) (x:TO)
def zer(t:Ty):List PV:=_A t t.zero
def erp:TOp->AOp
 | .mv x=>.mv (erO x)
 | .mkarr t x=>.mkarr t.sz (erO x)
 | .pick c a b=>.pick (erO c) (erO a) (erO b)
 | .newbox t=>.newbox (zer t)
 | .box t x=>.box t.sz (erO x)
 | .build t parts=>.build (zer t) (erP parts)
 | .lits own t n parts=>.lits own t.sz n (zer t) (parts.map λx=>(x.1,erO x.2))
 | .load agg t x=>.load agg t.sz (erO x)
 | .store t x v=>.store t.sz (erO x) (erO v)
 | .nilchk x=>.nilchk (erO x)
 | .bin op bt x y=>.bin op (erT bt) (erO x) (erO y)
 | .un op x=>.un op (erO x)
 | .conv k x=>.conv k (erO x)
 | ._D own t bytes l c=>._D own t.sz bytes (zer t) (erO l) (erO c)
 | .slice k x lo hi mx=>.slice (erK k) (erO x) (lo.map erO) (hi.map erO) (mx.map erO)
 | .faddr off x=>.faddr off (erO x)
 | .field agg off t x=>.field agg off t.sz (erO x)
 | .iaddr t x i=>.iaddr t.sz (erO x) (erO i)
 | .aaddr len _l x i=>.aaddr len _l (erO x) (erO i)
 | .sidx x i=>.sidx (erO x) (erO i)
 | .aidx agg len t x i=>.aidx agg len t.sz (erO x) (erO i)
 | .extr x i=>.extr (erO x) i
 | .call f args k=>.call f (args.map erO) k
 | .callo f args k=>.callo f (args.map (·.2)) (args.map λx=>erO x.1) k
 | .callv g args k=>.callv (erO g) (args.map erO) k
 | .len str x=>.len str (erO x)
 | .app t bytes x y=>.app t.sz bytes (zer t) (erO x) (erO y)
 | .appn t bytes y=>.appn t.sz bytes (zer t) (erO y)
 | .mm mx x y=>.mm mx (erO x) (erO y)
 | .mkfn f first caps=>.mkfn f (first.map erO) (caps.map erO)
 | .newboxo t os=>.newboxo (zer t) (mO os)
 | .buildo t parts os=>.buildo (zer t) (erP parts) (mO os)
 | .storen t x=>.storen t.sz (erO x)
def cS:TOp->Nat| .newbox _| .box _ _| .mkarr _ _| .appn _ _ _=>1| .lits own _ _ _=>if own=O then 1 else 0| ._D own _ _ _ _=>if own=O then 1 else 0| .conv (.toBytes own) _=>if own=O then 1 else 0| .call _ _ k| .callv _ _ k| .callo _ _ k=>k| .newboxo _ os=>os.length+1| .buildo _ _ os=>os.length| .storen _ _=>1|_=>0
theorem PK(op:TOp):nW (erp op)=cS op:=by
 cases op<;>try rfl
 rename_i k x;cases k<;>rfl
 all_goals simp[erp,cS,mO]
def yE:List (TO×Bool)->_u->Option (List (TV×Bool))|[],_=>Z []|(o,x)::r,s=>match tev o s,yE r s with|some v,Z l=>Z ((v,x)::l)|_,_=>Y
theorem DY{s:_u}: ∀{xs:List (TO×Bool)} {l:List (TV×Bool)},yE xs s=Z l->
  (evs (xs.map λx=>erO x.1)).run (JD s)=Z (l.map λx=>aZ (_v s._o) x.1)/\l.map (·.2)=xs.map (·.2)
 |[],l,h=>by injection h with h;simp_all
 |(o,x)::q,l,h=>by
  simp only[yE]at h;split at h;rename_i v l' e hl;cases h;obtain⟨h1,h2⟩:=DY hl;exact⟨by simp only[cJ,evs,run_bind,cM e,JF,h1,bS],by simp[h2]⟩;cases h
section
variable {R:Type}
def top(G:TG)(op:TOp)(d:Option Nat)(_m:Nat)(s:_u)(k:_u->Option R):Option R:=
 match op with
 | .mv x=>match tev x s with|some v=>k (bL d v s)|none=>Y
 | .mkarr t _=>N6 t d _m s k
 | .pick c a b=>match tev c s with|some (.a (.c (.d .b x)))=>xa x (tev a s) (tev b s) λv=>k (bL d v s)|_=>Y
 | .newbox t=>Ro t d _m s k
 | .box t x=>match tev x s with|some v=>uu t v d _m s k|none=>Y
 | .build t parts=>jr t parts d s k
 | .lits own t n parts=>xx own t n parts d _m s k
 | .load agg t x=>match tev x s with|some v=>ye agg t v d s k|none=>Y
 | .store t x y=>match tev x s,tev y s with|some v,Z u=>jp t v u d s k|_,_=>Y
 | .nilchk x=>match tev x s with|some v=>vj v λv=>k (bL d v s)|none=>Y
 | .bin op bt x y=>match tev x s,tev y s with|some v,Z u=>vn op bt v u λv=>k (bL d v s)|_,_=>Y
 | .un op x=>match tev x s with|some v=>tUn op v λv=>k (bL d v s)|none=>Y
 | .conv c x=>match tev x s with|some v=>xe c v d _m s k|none=>Y
 | ._D own t bytes l c=>match tev l s,tev c s with|some v,Z u=>mu own t bytes v u d _m s k|_,_=>Y
 | .slice e x lo hi mx=>match tev x s,tbn lo s,tbn hi s,tbn mx s with|some v,Z a,Z b,Z c=>yk e v a b c d s k|_,_,_,_=>Y
 | .faddr off x=>match tev x s with|some v=>js off v λv=>k (bL d v s)|none=>Y
 | .field agg off t x=>match tev x s with|some v=>ju agg off t v d s k|none=>Y
 | .iaddr t x i=>match tev x s,tev i s with|some v,Z u=>jq t v u s λv=>k (bL d v s)|_,_=>Y
 | .aaddr len _l x i=>match tev x s,tev i s with|some v,Z u=>jz len _l v u λv=>k (bL d v s)|_,_=>Y
 | .sidx x i=>match tev x s,tev i s with|some v,Z u=>x9 v u λv=>k (bL d v s)|_,_=>Y
 | .aidx agg len t x i=>match tev x s,tev i s with|some v,Z u=>xh agg len t v u d s k|_,_=>Y
 | .extr x i=>match tev x s with|some v=>xf v i λv=>k (bL d v s)|none=>Y
 | .call f args n=>match yE (args.map λx=>(x,J)) s with|some l=>GZ G f l J n d _m s k|none=>Y
 | .callo f args n=>match yE args s with|some l=>GZ G f l O n d _m s k|none=>Y
 | .callv g args n=>match tev g s,yE (args.map λx=>(x,J)) s with|some (.a (.fn f a c)),Z l=>GZ G f (a.map (λx=>(.a (.c x),J))++l++c.map (λx=>(.a (.c x),J))) J n d _m s k|some (.a (.c (.fn f))),Z l=>GZ G f l J n d _m s k|_,_=>Y
 | .len str x=>match tev x s with|some v=>wk str v s λv=>k (bL d v s)|none=>Y
 | .app t bytes x y=>match tev x s,tev y s with|some v,Z u=>uj t bytes v u d s k|_,_=>Y
 | .appn t bytes y=>match tev y s with|some u=>xl t bytes u d _m s k|none=>Y
 | .mm mx x y=>match tev x s,tev y s with|some v,Z u=>tMm mx v u λv=>k (bL d v s)|_,_=>Y
 | .mkfn f first caps=>match tcl first s,tcl caps s with|some a,Z c=>k (bL d (.a (.fn f a c)) s)|_,_=>Y
 | .newboxo t os=>nm t os d _m s k
 | .buildo t parts os=>me t parts os d _m s k
 | .storen t x=>match tev x s with|some v=>li t v d _m s k|none=>Y
theorem oa{F:Orc}{f:FuncId}{vs xs g:List AV}{ws:List (Nat×_w)}{h es:List _z}{_q:List _w}{v:AV}{res:Res}{j fresh:List (Nat×_w)}{n _m:Nat}{st:St}
  (h1:(lR vs).run st=Z (xs,ws)) (h2:(eU ws (dA.entsOfL xs []) (dA.entsOfL xs [])).run st=Z h) (h3:(eU ws h h).run st=Z es) (h4:kU (es.map _z.id)=O)
  (h5:ren.renL (λe=>dU e es 0) xs=Z g) (w:(lY ws (λe=>dU e es 0) es).run st=Z _q) (q:F f g _q=Z res) (r:res.2.length=es.length+n)
  (x:bk es _m res.1=Z v) (k:iV es _m _m (res.2.drop es.length)=Z fresh) (o:(jZ ws es _m es res.2).run st=Z j):
  (jF F f vs n _m).run st=Z ⟨v,ws++j++fresh⟩:=by
 simp_all [jF]
theorem JIq{F:Orc}{f:FuncId}{xs g:List AV}{ws:List (Nat×_w)}{h es:List _z}{_q:List _w}{v:AV}{res:Res}{j fresh:List (Nat×_w)}{n _m:Nat}{st:St}
  (h2:(eU ws (dA.entsOfL xs []) (dA.entsOfL xs [])).run st=Z h) (h3:(eU ws h h).run st=Z es) (h4:kU (es.map _z.id)=O)
  (h5:ren.renL (λe=>dU e es 0) xs=Z g) (w:(lY ws (λe=>dU e es 0) es).run st=Z _q) (q:F f g _q=Z res) (r:es.length<=res.2.length/\res.2.length<=es.length+n)
  (x:bk es _m res.1=Z v) (k:iV es _m _m (res.2.drop es.length)=Z fresh) (o:(jZ ws es _m es res.2).run st=Z j):
  (gJ F f (xs,ws) n _m).run st=Z ⟨v,ws++j++fresh⟩:=by
 simp_all [gJ]
theorem WZ(args:List TO):(args.map λx=>(x,J)).map (λx:TO×Bool=>erO x.1)=args.map erO:=by simp_all
theorem JOK{F:Orc}{G:TG}(K:GOk F G){op:TOp}{d:Option Nat}{_m:Nat}{s:_u}{k:_u->Option R}{r:R}(hd:pQ s _m (cS op)=O)(h:top G op d _m s k=Z r):Ok (_y F (erp op) _m) d s k r:=by
 have a2: ∀j,j<cS op->_m+j<s._o.length:=λj hj=>JE (zT hd j hj);unfold top at h;split at h;split at h;rename_i x _ v o;refine fY (v:=v) ?_ h;simp only[erp,_y,run_bind,cM o,JF,bS];cases h;exact JGG F (by simp_all [cS]) h;split at h;rename_i hc;exact JKK F hc h;cases h;exact JEt F (by have:=zT hd 0 (by simp[cS]);simp_all) h;split at h;rename_i o;exact JLD F (by have:=zT hd 0 (by simp[cS]);simp_all) o h;cases h;exact JHy F _m h;rename_i own t n parts;exact JJi F (λ_b=>by simp_all [cS]) h;split at h;rename_i o;obtain⟨e,s',h1,h2,q⟩:=JKH h;exact⟨e,s',by grind [erp,_y,run_bind,cM],h2,q⟩;cases h;split at h;rename_i o w;obtain⟨e,s',h1,h2,q⟩:=JGJ h;exact⟨e,s',by grind [erp,_y,run_bind,cM],h2,q⟩;cases h;split at h;rename_i o;exact JLH F o h;cases h;split at h;rename_i o w;obtain⟨e,s',h1,h2,q⟩:=(JMz h).ok;exact⟨e,s',by grind [erp,_y,run_bind,cM],h2,q⟩;cases h;split at h;rename_i o;obtain⟨e,s',h1,h2,q⟩:=(JPt h).ok;exact⟨e,s',by grind [erp,_y,run_bind,cM],h2,q⟩;cases h;split at h;rename_i o;exact JJv F o (λ_b=>by simp_all [cS]) h;cases h;split at h;rename_i o w;exact JBU F o w (λ_b=>by simp_all [cS]) h;cases h;split at h;rename_i h1 h2 q h4;exact JHm F h1 h2 q h4 h;cases h;split at h;rename_i o;obtain⟨e,s',h1,h2,q⟩:=(JHk h).ok;exact⟨e,s',by grind [erp,_y,run_bind,cM],h2,q⟩;cases h;split at h;rename_i o;obtain⟨e,s',h1,h2,q⟩:=JH3 h;exact⟨e,s',by grind [erp,_y,run_bind,cM],h2,q⟩;cases h;split at h;rename_i o w;obtain⟨e,s',h1,h2,q⟩:=JGY h;exact⟨e,s',by grind [erp,_y,run_bind,cM],h2,q⟩;cases h;split at h;rename_i o w;obtain⟨e,s',h1,h2,q⟩:=(JHC h).ok;exact⟨e,s',by grind [erp,_y,run_bind,cM],h2,q⟩;cases h;split at h;rename_i o w;exact JL1 F o w h;cases h;split at h;rename_i o w;exact JJT F o w h;cases h;split at h;rename_i o;obtain⟨e,s',h1,h2,q⟩:=(JKN h).ok;exact⟨e,s',by grind [erp,_y,run_bind,cM],h2,q⟩;cases h;rename_i f args n;split at h;rename_i l hl;obtain⟨C,L⟩:=DY hl;rw[WZ]at C;obtain⟨xs,ws,H,es,B,_q,v,res,D,fresh,E,V,U,Q,P,_c,N,S,M,_d,_e,s',A,y⟩:=YD K hd h;rw[QV _ _ (λx _a=>by simp_all)]at E;refine⟨_,s',?_,A,y⟩;grind [erp,_y,run_bind,oa,cS];cases h;rename_i f args n;split at h;rename_i l hl;obtain⟨C,L⟩:=DY hl;obtain⟨xs,ws,H,es,B,_q,v,res,D,fresh,E,V,U,Q,P,_c,N,S,M,_d,_e,s',A,y⟩:=YD K hd h;rw[L]at E;refine⟨_,s',?_,A,y⟩;simp_all [erp,JIq,cS];cases h;rename_i g args n;split at h;rename_i f a c l T hl;obtain⟨C,L⟩:=DY hl;rw[WZ]at C;obtain⟨xs,ws,H,es,B,_q,v,res,D,fresh,E,V,U,Q,P,_c,N,S,M,_d,_e,s',A,y⟩:=YD K hd h;have W: ∀z:List TC,(z.map (λx=>((TV.a (.c x),J):TV×Bool))).map (λx=>aZ (_v s._o) x.1)=z.map (bI (_v s._o)):=λz=>by rw[BR];rfl
 rw[QV _ _ (λx _a=>by
  grind),sR,sR,W,W]at E
 refine⟨_,s',?_,A,y⟩;simp only[erp,_y,run_bind,cM T,JF,vo,C];grind [oa,cS];rename_i f l T hl;obtain⟨C,L⟩:=DY hl;rw[WZ]at C;obtain⟨xs,ws,H,es,B,_q,v,res,D,fresh,E,V,U,Q,P,_c,N,S,M,_d,_e,s',A,y⟩:=YD K hd h;rw[QV _ _ (λx _a=>by simp_all)]at E;refine⟨_,s',?_,A,y⟩;simp only[erp,_y,run_bind,cM T,JF,L9,C,qS,gE];grind [oa,cS];cases h;split at h;rename_i o;obtain⟨e,s',h1,h2,q⟩:=(JLB h).ok;exact⟨e,s',by grind [erp,_y,run_bind,cM],h2,q⟩;cases h;split at h;rename_i o w;obtain⟨e,s',h1,h2,q⟩:=JNe h;exact⟨e,s',by grind [erp,_y,run_bind,cM],h2,q⟩;cases h;split at h;rename_i w;exact JIZ F w (by simp_all [cS]) h;cases h;split at h;rename_i o w;obtain⟨e,s',h1,h2,q⟩:=(JPX h).ok;exact⟨e,s',by grind [erp,_y,run_bind,cM],h2,q⟩;cases h;rename_i f first caps
 split at h;rename_i a c ha hc;refine fY (v:=.a (.fn f a c)) ?_ h;simp_all [erp,Oh,vo];cases h;exact JBS F hd h;exact JEm F hd h;split at h;rename_i o;exact JEl F (by have:=zT hd 0 (by simp[cS]);simp_all) o h;cases h
structure kK where
 op:TOp
 dst:Option Nat
 g:Option (Nat×Bool)
def eri(i:kK):cG:=⟨erp i.op,i.dst,i.g⟩
def rbE(g:Nat)(v:TV):List (Nat×TV)->List (Nat×TV)|[]=>[]|(m,u)::r=>if m=g then(m,v)::r else(m,u)::rbE g v r
def rb(g:Nat)(v:TV)(s:_u):_u:=⟨rbE g v s.env,s._o⟩
theorem jf{g:Nat}{v:TV}{s:_u}(h:tlk g s.env=Z v):rb g v s=s:=by
 have e: ∀env:List (Nat×TV),tlk g env=Z v->rbE g v env=env:=by
  intro env
  induction env with
  |nil=>intro h;cases h
  |cons x r ih=>
   grind [tlk,rbE]
 simp_all [rb]
def d8(G:TG)(i:kK)(_m:Nat)(s:_u)(k:_u->Option R):Option R:=
 match i.g with
 |none=>if pQ s _m (cS i.op)=O then top G i.op i.dst _m s k else Y
 |some (g,e)=>match tlk g s.env with
  |some (.a (.c (.d .b x)))=>if x=e then
   (if pQ s _m (cS i.op)=O then top G i.op i.dst _m (rb g (vb e) s) k else Y)
   else k (bL i.dst uv (rb g (vb !e) s))
  |some (.tup [])=>k (bL i.dst uv s)
  |_=>Y
theorem Qn{F:Orc}{G:TG}(A:GOk F G){i:kK}{_m:Nat}{s:_u}{k:_u->Option R}{r:R}(h:d8 G i _m s k=Z r):Ok (cL F (eri i) _m) i.dst s k r:=by
 have y: ∀{s:_u},pQ s _m (cS i.op)=O->top G i.op i.dst _m s k=Z r->Ok (opD F (erp i.op) _m) i.dst s k r:=(by intro s hd h;obtain⟨e,s',h1,h2,q⟩:=JOK A hd h;refine⟨e,s',?_,h2,q⟩;grind [opD,run_bind,PK,zo]);unfold d8 at h;split at h;grind [cL,eri];rename_i g n z;split at h;rename_i x j;have hl:lk g (JD s).env=Z (.p (.b x)):=by show lk g (gG _ s.env)=_;rw[DN,j];rfl
 split at h;rename_i o;subst o;rw[jf j]at h;split at h;rename_i hd;obtain⟨e,s',h1,h2,q⟩:=y hd h;refine⟨e,s',?_,h2,q⟩;grind [cL,eri,zV];cases h;rename_i o;have w:x= !n:=by clear hl j h;cases x<;>cases n<;>first|rfl|grind
 subst w;rw[jf j]at h;refine fY (v:=uv) ?_ h;simp only[cL,eri,z,zV,hl,JF];rw[if_neg o];rfl;rename_i j;have hl:lk g (JD s).env=Z (.tup []):=by show lk g (gG _ s.env)=_;rw[DN,j];rfl
 refine fY (v:=uv) ?_ h;simp only[cL,eri,z,zV,hl,JF,bS];rfl;cases h
def gg(G:TG):List kK->Nat->_u->(_u->Option R)->Option R|[],_,s,k=>k s|i::r,_m,s,k=>d8 G i _m s λs=>gg G r (_m+cS i.op) s k
theorem Q3{F:Orc}{G:TG}(g:GOk F G): ∀{ins:List kK} {_m:Nat} {s:_u} {k:_u->Option R} {r:R},gg G ins _m s k=Z r-> ∃s',hC F (ins.map eri) _m (JD s)=Z (JD s')/\k s'=Z r
 |[],_m,s,k,r,h=>⟨s,rfl,h⟩
 |i::q,_m,s,k,r,h=>by
  simp only[gg]at h;obtain⟨e,s1,h1,h2,h⟩:=Qn g h;obtain⟨j,o,n⟩:=Q3 g h;grind [hC,eri,PK]
def OH:List kK->Nat|[]=>0|i::r=>cS i.op+OH r
theorem ns: ∀ins:List kK,news (ins.map eri)=OH ins
 |[]=>rfl
 |i::r=>by
  simp only[cJ,news,OH,ns r];grind [eri,PK]
def US(n:Nat)(s:_u):_u:=if n=0 then s else⟨s.env,s._o++_P n .dead⟩
theorem S8(_o:List TB)(n:Nat):_v (_o++_P n .dead)=_v _o:=by
 funext c
 unfold _v;rcases zQ3 c _o.length with h|h;grind;rw[uQ h,qR h,List.getElem?_replicate];split<;>rfl
theorem Ae(n:Nat)(s:_u):JD (US n s)=⟨(JD s).env,room n (JD s)._o⟩:=by
 unfold US room;split;rfl;unfold JD;rw[S8];simp only[sR,em];rfl
end
end Go.Am
end
section
namespace Go.Am
def Rb{α:Type}(S:Nat->Prop)(m:RM α)(st:St):Prop:= ∀b,Loc.blk b∈m.reads st->S b
section
variable {α β:Type} {S:Nat->Prop} {st:St}
theorem cR(a:α):Rb S (.ret a) st:=λb h=>by grind [RM.reads]
theorem fC:Rb S (.fail:RM α) st:=λb h=>by grind [RM.reads]
theorem cE{m:RM α}{f:α->RM β}(h:Rb S m st)(hf: ∀a,m.run st=Z a->Rb S (f a) st):Rb S (m.bind f) st:=by
 intro b hb;rw[AI]at hb;rcases zQ9.1 hb with hb|hb;exact h b hb;cases hm:m.run st with
 |none=>simp_all
 |some a=>rw[hm]at hb;exact hf a hm b (by simpa using hb)
theorem tH{b:Nat}{k:_w->RM α}(hb:S b)(h: ∀v,st._o[b]?=Z v->Rb S (k v) st):Rb S (.blk b k) st:=by
 intro c hc;simp only[RM.reads,cV]at hc;rcases hc with hc|hc;simp_all;cases hv:st._o[b]? with
 |none=>simp_all
 |some v=>rw[hv]at hc;exact h v hv c hc
theorem Qu{n:Nat}{k:AV->RM α}(h: ∀v,lk n st.env=Z v->Rb S (k v) st):Rb S (.slot n k) st:=by
 intro c hc;simp only[RM.reads,cV]at hc;rcases hc with hc|hc;cases hc;cases hv:lk n st.env with
 |none=>simp_all
 |some v=>rw[hv]at hc;exact h v hv c hc
theorem Ol(x:Option AV):Rb S (val x) st:=by cases x<;>first|exact fC|exact cR _
theorem lT(x:Opd):Rb S (ev x) st:=by cases x<;>first|exact cR _|exact Qu λv _=>cR v
theorem kh: ∀xs:List Opd,Rb S (evs xs) st|[]=>cR _|x::r=>cE (lT x) λv _=>cE (kh r) λvs _=>cR _
theorem yi(x:Option Opd):Rb S (evo x) st:=by cases x<;>simp_all [cR,cE,lT]
end
def gU:AV->List Nat| .ptr b _=>[b]| ._r b _ _=>[b]| .ep b _ _ _=>[b]| .pre b _ _=>[b]|_=>[]
def avR:AV->List Nat| .agg cs=>cs.flatMap gU|x=>gU x
section
variable {S:Nat->Prop} {st:St}
theorem JNr{x:AV}(h: ∀b∈gU x,S b):Rb S (fz.fz1 x) st:=by
 cases x with
 |_r b i n=>
  refine tH (h b (by simp[gU])) λv _=>?_;grind [cR,fC]
 |p c=>exact cR _
 |_=>exact fC
theorem Nd: ∀{xs:List AV},(∀b∈xs.flatMap gU,S b)->Rb S (fz.fzL xs) st|[],_=>cR _|x::r,h=>cE (JNr λb hb=>h b (by simp[hb])) λa _=>cE (Nd λb hb=>h b (by simp_all)) λc _=>cR _
theorem NZ{x:AV}(h: ∀b∈avR x,S b):Rb S (fz x) st:=by
 cases x with
 |_r b i n=>
  refine tH (h b (by simp[avR,gU])) λv _=>?_;grind [cR,fC]
 |p c=>exact cR _
 |data cs=>exact cR _
 |agg cs=>exact Nd h
 |_=>exact fC
theorem JPA{x:AV}{a:List PV×List (Nat×_w)}(h:(fz.fz1 x).run st=Z a): ∀y∈a.2,y.1∈gU x:=by
 cases x with
 |_r b i n=>
  simp only[fz.fz1,eT]at h;obtain⟨v,_,h⟩:=bV.1 h;cases v with
  |arr w _l _f=>
   dsimp only at h;split at h;injection h with h;grind [gU];cases h
  |_=>cases h
 |p c=>cases h;simp
 |_=>cases h
theorem On: ∀{xs:List AV} {a:List PV×List (Nat×_w)},(fz.fzL xs).run st=Z a-> ∀y∈a.2,y.1∈xs.flatMap gU
 |[],a,h,y,g=>by injection h with h;grind
 |x::r,a,h,y,g=>by
  simp only[fz.fzL]at h;obtain⟨c,h1,h⟩:=bind_some h;obtain⟨e,h2,h⟩:=bind_some h;cases h;simp only[zQ9]at g;simp only[List.flatMap_cons,zQ9];rcases g with g|g;grind [JPA];exact .inr (On h2 y g)
theorem NV{x:AV}{a:List PV×List (Nat×_w)}(h:(fz x).run st=Z a): ∀y∈a.2,y.1∈avR x:=by
 cases x with
 |_r b i n=>
  simp only[fz,eT]at h;obtain⟨v,_,h⟩:=bV.1 h;cases v with
  |arr w _l _f=>
   dsimp only at h;split at h;injection h with h;grind [avR,gU];cases h
  |_=>cases h
 |p c=>cases h;simp
 |data cs=>cases h;simp
 |agg cs=>exact On h
 |_=>cases h
theorem mi{_l:Nat}{x:AV}(h: ∀b∈avR x,S b):Rb S (gL _l x) st:=by
 unfold gL;grind [cR,fC,tH,avR,gU]
theorem JMg{agg:Bool}{size:Nat}{x:AV}(h: ∀b∈avR x,S b):Rb S (hY agg size x) st:=by
 unfold hY;split
 all_goals grind [Ol,fC,tH,avR,gU]
theorem VJ{x:Option AV}{e:Eff}(h:(val x).run st=Z e):e.ws=[]:=by
 cases x with
 |none=>cases h
 |some v=>cases h;rfl
theorem JM5{agg:Bool}{size:Nat}{x:AV}{e:Eff}(h:(hY agg size x).run st=Z e):e.ws=[]:=by
 unfold hY at h;split at h;split at h<;>first|exact VJ h|cases h
 simp only[eT]at h;obtain⟨v,_,h⟩:=bV.1 h;split at h;split at h<;>first|exact VJ h|cases h
 cases h;simp only[eT]at h;obtain⟨v,_,h⟩:=bV.1 h;split at h;split at h;split at h;split at h<;>first|exact VJ h|cases h
 cases h;cases h;cases h;cases h
theorem JKj{size:Nat}{x v:AV}(h: ∀b∈avR x,S b)(hv: ∀b∈avR v,S b):Rb S (jI size x v) st:=by
 unfold jI;split;grind [tH,avR,gU,cR,fC];refine tH (h _ (by simp[avR,gU])) λy _=>?_;grind [cE,NZ,cR,fC];simp[fC]
theorem JKX{size:Nat}{x v:AV}{e:Eff}(h:(jI size x v).run st=Z e): ∀y∈e.ws,y.1∈avR x++avR v:=by
 unfold jI at h;split at h;simp only[eT]at h;obtain⟨w,_,h⟩:=bV.1 h;split at h;split at h;split at h;split at h;injection h with h;grind [avR,gU];cases h;cases h;cases h;cases h;simp only[eT]at h;obtain⟨w,_,h⟩:=bV.1 h;split at h;split at h;split at h;obtain⟨a,h1,h⟩:=bind_some h;split at h;split at h;cases h;intro y g;grind [NV,avR,gU];cases h;cases h;cases h;cases h;cases h;cases h
theorem JIt{_l:Nat}{x i:AV}(h: ∀b∈avR x,S b):Rb S (mZ _l x i) st:=by
 unfold mZ;grind [cR,fC,tH,avR,gU]
theorem JKQ{_l:Nat}{x i:AV}{e:Eff}(h:(mZ _l x i).run st=Z e):e.ws=[]:=by
 unfold mZ at h;split at h;split at h;split at h;cases h;rfl;cases h;cases h;simp only[eT]at h;obtain⟨v,_,h⟩:=bV.1 h;split at h;split at h;cases h;rfl;cases h;cases h;cases h
theorem JPD{_l bytes:Nat}{x y:AV}(h: ∀b∈avR x,S b)(hy: ∀b∈avR y,S b):Rb S (kJ _l bytes x y) st:=by
 unfold kJ;split
 all_goals grind [tH,avR,gU,cE,mi,cR,fC]
theorem JOi{_l bytes:Nat}{x y:AV}{e:Eff}(h:(kJ _l bytes x y).run st=Z e): ∀z∈e.ws,z.1∈avR x:=by
 unfold kJ at h;split at h;simp only[eT]at h;obtain⟨v,_,h⟩:=bV.1 h;split at h;obtain⟨_m,_,h⟩:=bind_some h;split at h;injection h with h;grind [avR,gU];cases h;cases h;cases h
theorem Qr: ∀{k _m:Nat},(∀j,j<k->S (_m+j))->Rb S (vQ _m k) st
 |0,_,_=>cR _
 |k+1,_m,h=>tH (h 0 (by omega)) λv _=>by
  cases v with
  |dead=>exact Qr λj e=>by grind
  |_=>exact fC
theorem Oo: ∀{xs:List Opd},(∀x∈xs,∀v,(ev x).run st=Z v-> ∀b∈avR v,S b)->Rb S (fzs xs) st|[],_=>cR _|x::r,h=>cE (lT x) λv e=>cE (NZ (h x (by simp) v e)) λa _=>cE (Oo λy g=>h y (by simp[g])) λc _=>cR _
theorem kc: ∀{xs:List Opd} {a:List (List PV)×List (Nat×_w)},(∀x∈xs,∀v,(ev x).run st=Z v-> ∀b∈avR v,S b)->(fzs xs).run st=Z a-> ∀y∈a.2,S y.1
 |[],a,_,h,y,g=>by injection h with h;grind
 |x::r,a,j,h,y,g=>by
  simp only[fzs]at h;obtain⟨v,k,h⟩:=bind_some h;obtain⟨c,h1,h⟩:=bind_some h;obtain⟨e,h2,h⟩:=bind_some h;cases h;simp only[zQ9]at g;rcases g with g|g;exact j x (by simp) v k _ (NV h1 y g);exact kc (λz n=>j z (by simp[n])) h2 y g
theorem O4{x:AV}(h: ∀b∈avR x,S b):Rb S (kI x) st:=by
 cases x with
 |_r b i n=>
  refine cE (NZ h) λa _=>?_;grind [cR,fC]
 |agg cs=>exact cE (NZ h) λa _=>cR _
 |tup cs=>exact fC
 |_=>exact cR _
theorem Q8{x:AV}{a:AV×List (Nat×_w)}(h:(kI x).run st=Z a): ∀y∈a.2,y.1∈avR x:=by
 cases x with
 |_r b i n=>
  simp only[kI]at h;obtain⟨c,h1,h⟩:=bind_some h;split at h;cases h;exact NV h1;cases h
 |agg cs=>simp only[kI]at h;obtain⟨c,h1,h⟩:=bind_some h;cases h;exact NV h1
 |tup cs=>cases h
 |_=>cases h;simp
theorem QJ: ∀{m:List Bool} {xs:List AV},(∀x∈xs,∀b∈avR x,S b)->Rb S (fW m xs) st|_,[],_=>by simp[fW,cR]|[],x::r,h=>cE (O4 (h x (by simp))) λa _=>cE (QJ λy e=>h y (by simp[e])) λc _=>cR _|true::m,x::r,h=>cE (QJ λy e=>h y (by simp[e])) λc _=>cR _|false::m,x::r,h=>cE (O4 (h x (by simp))) λa _=>cE (QJ λy e=>h y (by simp[e])) λc _=>cR _
theorem QD: ∀{m:List Bool} {xs:List AV} {a:List AV×List (Nat×_w)},(∀x∈xs,∀b∈avR x,S b)->(fW m xs).run st=Z a-> ∀y∈a.2,S y.1
 |m,[],a,_,h,y,g=>by unfold fW at h;injection h with h;grind
 |[],x::r,a,j,h,y,g=>by
  simp only[fW]at h;obtain⟨c,h1,h⟩:=bind_some h;obtain⟨e,h2,h⟩:=bind_some h;cases h;simp only[zQ9]at g;rcases g with g|g;exact j x (by simp) _ (Q8 h1 y g);exact QD (λz k=>j z (by simp[k])) h2 y g
 |true::m,x::r,a,j,h,y,g=>by simp only[fW]at h;obtain⟨e,h2,h⟩:=bind_some h;cases h;exact QD (λz k=>j z (by simp[k])) h2 y g
 |false::m,x::r,a,j,h,y,g=>by
  simp only[fW]at h;obtain⟨c,h1,h⟩:=bind_some h;obtain⟨e,h2,h⟩:=bind_some h;cases h;simp only[zQ9]at g;rcases g with g|g;exact j x (by simp) _ (Q8 h1 y g);exact QD (λz k=>j z (by simp[k])) h2 y g
theorem Qb{ws:List (Nat×_w)}{b:Nat}(h:S b):Rb S (sQ ws b) st:=tH h λv _=>by grind [cR]
theorem mc{ws:List (Nat×_w)}: ∀{r:List Nat} {acc:List _z},(∀b∈r,S b)->Rb S (eU ws (r.map .whole) acc) st|[],acc,_=>cR _|b::r,acc,h=>by simp only[cJ,eU];refine cE (Qb (h b (by simp))) λx _=>?_;cases x<;>exact mc λc hc=>h c (by simp[hc])
theorem Ci{ws:List (Nat×_w)}{ρ:_z->Option Nat}: ∀{r:List Nat},(∀b∈r,S b)->Rb S (lY ws ρ (r.map .whole)) st
 |[],_=>cR _
 |b::r,h=>by
  simp only[cJ,lY,CQ];refine cE (cE (Qb (h b (by simp))) λx _=>?_) λx _=>cE (Ci λc hc=>h c (by simp[hc])) λl _=>cR _;grind [cR,fC]
theorem C2{ws:List (Nat×_w)}{es:List _z}{_m:Nat}: ∀{r:List Nat} {l:List _w},Rb S (jZ ws es _m (r.map .whole) l) st
 |[],l=>by cases l<;>exact cR _
 |b::r,[]=>fC
 |b::r,x::l=>by simp only[cJ,jZ];refine cE ?_ λy _=>cE C2 λe _=>cR _;cases x<;>grind [vU,cR,fC]
theorem C4{ws:List (Nat×_w)}{es:List _z}{_m:Nat}: ∀{r:List Nat} {l:List _w} {g:List (Nat×_w)},(jZ ws es _m (r.map .whole) l).run st=Z g-> ∀y∈g,y.1∈r
 |[],l,g,h,y,j=>by
  have:g=[]:=by cases l<;>(injection h with h;exact h.symm)
  simp_all
 |b::r,[],g,h,_,_=>by cases h
 |b::r,x::l,g,h,y,j=>by
  simp only[cJ,jZ]at h;obtain⟨z,h1,h⟩:=bind_some h;obtain⟨k,h2,h⟩:=bind_some h;cases h;rcases cV.1 j with rfl|j;cases x with
  |box cs=>
   simp only[vU]at h1;split at h1;cases h1;simp;cases h1
  |arr w e _f=>cases h1;simp
  |dead=>cases h1
  exact fR _ (C4 h2 y j)
theorem px{es:List _z}{_m:Nat}: ∀{l:List _w} {k:Nat} {n:List (Nat×_w)},iV es _m k l=Z n-> ∀y∈n,∃j,j<l.length/\y.1=k+j
 |[],k,n,h,y,g=>by injection h with h;simp_all
 | .dead::l,k,n,h,_,_=>by cases h
 | .box cs::l,k,n,h,y,g=>by
  simp only[iV]at h;split at h;rename_i c q _ o;cases h;rcases cV.1 g with rfl|g;simp_all;obtain⟨j,r,e⟩:=px o y g;exact⟨j+1,by simp;omega,by omega⟩;cases h
 | .arr w e _f::l,k,n,h,y,g=>by
  simp only[iV]at h;split at h;rename_i q o;cases h;rcases cV.1 g with rfl|g;simp_all;obtain⟨j,r,e⟩:=px o y g;exact⟨j+1,by simp;omega,by omega⟩;cases h
theorem n0(e x:_z)(l:List _z)(h:e∈l):e∈zF x l:=by grind [zF]
mutual
theorem JKD: ∀(x:AV) (l:List _z) (e:_z),e∈l->e∈dA x l| .ptr b off,l,e,h=>n0 e _ l h| ._r b i n,l,e,h=>n0 e _ l h| .ep b g i off,l,e,h=>n0 e _ l h| .fn f a c,l,e,h=>entsL_sub c _ e (entsL_sub a l e h)| .agg cs,l,e,h=>entsL_sub cs l e h| .tup cs,l,e,h=>entsL_sub cs l e h| .p _,l,e,h=>h| .data _,l,e,h=>h| .cp _ _,l,e,h=>h| .unk,l,e,h=>h| .pre _ _ _,l,e,h=>h
theorem entsL_sub: ∀(xs:List AV) (l:List _z) (e:_z),e∈l->e∈dA.entsOfL xs l|[],l,e,h=>h|x::r,l,e,h=>entsL_sub r _ e (JKD x l e h)
end
theorem Ao{ws:List (Nat×_w)}: ∀{r acc l:List _z},(eU ws r acc).run st=Z l-> ∀e∈acc,e∈l:=by
 intro r
 induction r with
 |nil=>intro acc l h e g;injection h with h;simp_all
 |cons x r ih=>
  intro acc l h e g;cases x with
  |whole b=>
   simp only[eU]at h;obtain⟨y,_,h⟩:=bind_some h;cases y with
   |box cs=>exact ih h e (entsL_sub cs acc e g)
   |_=>exact ih h e g
  |elem b j i=>exact ih h e g
theorem Cb{F:Orc}{f:FuncId}{xs:List AV}{ws:List (Nat×_w)}{e0 k _p:List Nat}{n _m:Nat}(q: ∀b∈_p,S b)(hw: ∀y∈ws,S y.1)(hn: ∀j,j<n->S (_m+j))
  (h0:dA.entsOfL xs []=e0.map .whole) (h1:(eU ws (e0.map .whole) (e0.map .whole)).run st=Z (k.map .whole)) (h2:(eU ws (k.map .whole) (k.map .whole)).run st=Z (_p.map .whole)):
  Rb S (gJ F f (xs,ws) n _m) st/\(∀e,(gJ F f (xs,ws) n _m).run st=Z e-> ∀y∈e.ws,S y.1):=by
 have s1: ∀b∈k,S b:=λb hb=>by have:=Ao h2 (.whole b) (iN.2 ⟨b,hb,rfl⟩);simp_all
 have s0: ∀b∈e0,S b:=λb hb=>by have:=Ao h1 (.whole b) (iN.2 ⟨b,hb,rfl⟩);simp_all
 constructor
 ·unfold gJ;simp only[h0];refine cE (mc s0) λa g=>?_;rw[h1]at g;cases g
  refine cE (mc s1) λa g=>?_;rw[h2]at g;cases g;split
  ·split
   all_goals grind [fC,cE,Ci,C2,cR]
  simp[fC]
 intro e h y r;unfold gJ at h;simp only[h0]at h;obtain⟨a,g,h⟩:=bind_some h;rw[h1]at g;cases g;obtain⟨a,g,h⟩:=bind_some h;rw[h2]at g;cases g;split at h;split at h;cases h;obtain⟨bl,_,h⟩:=bind_some h;split at h;cases h;split at h;rename_i hlen;split at h;rename_i v fresh _ hf;obtain⟨o,hb,h⟩:=bind_some h;injection h with h;grind [C4,px];cases h;cases h;cases h
end
def tcR:TC->List Nat| .ptr b _=>[b]| ._r b=>[b]| .slo b _=>[b]| .ep b _ _=>[b]| .epo b _ _ _=>[b]| .pre b _=>[b]| .pro b _ _=>[b]| .suf b _=>[b]| .suo b _ _=>[b]|_=>[]
def tvR:TV->List Nat| .a (.c x)=>tcR x| .a (.m _ cs)=>cs.flatMap tcR|_=>[]
theorem JOW(L:Nat->Nat)(x:TC):gU (bI L x)=tcR x:=by cases x<;>rfl
theorem mX(L:Nat->Nat)(v:TV):avR (aZ L v)=tvR v:=by
 cases v with
 |a x=>
  cases x with
  |c x=>cases x<;>rfl
  |dt t x=>rfl
  |m t cs=>show(cs.map (bI L)).flatMap gU=cs.flatMap tcR;simp[List.flatMap_map,JOW]
  |fn f a c=>rfl
 |tup vs=>rfl
def rng(_m:Nat):Nat->List Nat|0=>[]|k+1=>_m::rng (_m+1) k
theorem tL: ∀{k _m j:Nat},j<k->_m+j∈rng _m k
 |0,_,_,h=>by omega
 |k+1,_m,j,h=>by
  cases j with
  |zero=>simp[rng]
  |succ j=>simp only[rng,cV];right;rw[show _m+(j+1)=_m+1+j by omega];exact tL (by omega)
def jD{α β:Type}(m:Option α)(f:α->Option β):Option β:=match m with|some x=>f x|none=>Y
theorem jK{α β:Type}{m:Option α}{f:α->Option β}{b:β}(h:jD m f=Z b): ∃a,m=Z a/\f a=Z b:=by
 cases m with
 |none=>cases h
 |some a=>exact⟨a,rfl,h⟩
def wh(l:List (TV×Bool))(s:_u):Option (List Nat):=NN l s λxs s1=>jD (IC xs []) λe=>jD (yN s1 e e) λi1=>yN s1 i1 i1
def tcU(l:List (TV×Bool))(n _m:Nat)(s:_u):Option (List Nat×List Nat):=jD (wh l s) λ_p=>Z (rng _m n++(l.flatMap λx=>tvR x.1)++_p,rng _m n++(l.flatMap λx=>tvR x.1)++_p)
def tpR(s:_u):List (Nat×TO)->Option (List Nat)|[]=>Z []|(_,o)::r=>jD (tev o s) λv=>jD (tpR s r) λl=>Z (tvR v++l)
def uw(op:TOp)(_m:Nat)(s:_u):Option (List Nat×List Nat):=
 match op with
 | .load _ _ x=>jD (tev x s) λv=>Z (tvR v,[])
 | .newbox _=>Z ([_m],[_m])
 | .store _ x y=>jD (tev x s) λv=>jD (tev y s) λu=>Z (tvR v++tvR u,tvR v++tvR u)
 | .iaddr _ x _=>jD (tev x s) λv=>Z (tvR v,[])
 | .lits own t n ps=>jD (tpR s ps) λl=>Z (rng _m (cS (.lits own t n ps))++l,rng _m (cS (.lits own t n ps))++l)
 | .appn _ _ y=>jD (tev y s) λv=>Z (_m::tvR v,[_m])
 | .app _ _ x y=>jD (tev x s) λv=>jD (tev y s) λu=>Z (tvR v++tvR u,tvR v)
 | .slice _ x _ _ _=>jD (tev x s) λv=>Z (tvR v,tvR v)
 | .call _ args n=>jD (yE (args.map λx=>(x,J)) s) λl=>tcU l n _m s
 | .callo _ args n=>jD (yE args s) λl=>tcU l n _m s
 | ._D own t bytes l c=>Z (rng _m (cS (._D own t bytes l c)),rng _m (cS (._D own t bytes l c)))
 | .conv k x=>jD (tev x s) λv=>Z (rng _m (cS (.conv k x))++tvR v,rng _m (cS (.conv k x)))
 |_=>Y
theorem pW{F:Orc}{op:TOp}{_m:Nat}{st:St}{S:Nat->Prop}(hd: ∀j,j<cS op->S (_m+j))(h:Rb S (_y F (erp op) _m) st):Rb S (opD F (erp op) _m) st:=by
 grind [opD,PK,cE,Qr]
theorem qE{F:Orc}{op:AOp}{_m:Nat}{st:St}{e:Eff}(h:(opD F op _m).run st=Z e):(_y F op _m).run st=Z e:=by unfold opD at h;obtain⟨_,_,h⟩:=bind_some h;exact h
def UW(F:Orc)(op:AOp)(_m:Nat)(st:St)(U W:List Nat):Prop:=Rb (· ∈U) (opD F op _m) st/\ ∀e,(opD F op _m).run st=Z e-> ∀y∈e.ws,y.1∈W
theorem mW{x:TO}{s:_u}{v:TV}(h:tev x s=Z v){a:AV}(ha:(ev (erO x)).run (JD s)=Z a):a=aZ (_v s._o) v:=by
 grind [cM]
theorem P6{l:List (TV×Bool)}{s:_u}{_p:List Nat}(h:wh l s=Z _p): ∃(xs:List AV) (ws:List (Nat×_w)) (e i1:List Nat),(fW (l.map (·.2)) (l.map λx=>aZ (_v s._o) x.1)).run (JD s)=Z (xs,ws)/\
  dA.entsOfL xs []=e.map .whole/\(eU ws (e.map .whole) (e.map .whole)).run (JD s)=Z (i1.map .whole)/\(eU ws (i1.map .whole) (i1.map .whole)).run (JD s)=Z (_p.map .whole):=by
 unfold wh at h;obtain⟨xs,s1,ws,h1,g,h⟩:=n4 (Fzd.refl s) h;rw[qS]at g;obtain⟨e,h2,h⟩:=jK h;obtain⟨i1,k,j⟩:=jK h;exact⟨_,ws,e,i1,h1,XL (_v s._o) (l:=[]) h2,EI g k,EI g j⟩
theorem JKl{F:Orc}{f:FuncId}{vs:List AV}{n _m:Nat}{st:St}{S:Nat->Prop}{a:List AV×List (Nat×_w)}(ha:(lR vs).run st=Z a)(hr:Rb S (lR vs) st)
  (h: ∀(_:Unit),Rb S (gJ F f a n _m) st):Rb S (jF F f vs n _m) st:=by
 unfold jF;refine cE hr λa' g=>?_;rw[ha]at g;cases g;have h:=h ();unfold gJ at h;intro b hb;refine h b ?_
 revert hb
 simp only[AI];intro hb;rcases zQ9.1 hb with hb|hb;grind;refine zQ9.2 (.inr ?_)
 revert hb
 cases(eU a.2 (dA.entsOfL a.1 []) (dA.entsOfL a.1 [])).run st with
 |none=>grind
 |some j=>
  simp only[dB,Option.getD_some,AI];intro hb;rcases zQ9.1 hb with hb|hb;grind;refine zQ9.2 (.inr ?_)
  revert hb
  cases(eU a.2 j j).run st with
  |none=>grind
  |some es=>
   simp only[dB,Option.getD_some];split;split;grind;simp only[AI];intro hb;rcases zQ9.1 hb with hb|hb;grind;refine zQ9.2 (.inr ?_)
   revert hb
   cases(lY a.2 (λe=>dU e es 0) es).run st<;>grind [RM.reads]
   grind
theorem JQv(F:Orc){op:TOp}{_m:Nat}{s:_u}{U W:List Nat}(h:uw op _m s=Z (U,W)):UW F (erp op) _m (JD s) U W:=by
 unfold uw at h;split at h;rename_i agg t x;obtain⟨v,A,h⟩:=jK h;injection h with h;injection h with h1 h2;subst h1 h2;refine⟨pW (op:=.load agg t x) (λj w=>by grind [cS]) (cE (lT _) λa r=>?_),λe g y B=>?_⟩;rw[mW A r];grind [JMg,mX];have g:=qE g;simp only[erp,_y]at g;obtain⟨a,r,g⟩:=bind_some g;grind [JM5];rename_i t;injection h with h;injection h with h1 h2;subst h1 h2;refine⟨pW (op:=.newbox t) (λj w=>by grind [cS]) (cR _),λe g y B=>?_⟩;have g:=qE g;injection g with g;grind;rename_i t x y;obtain⟨v,A,h⟩:=jK h;obtain⟨u,D,h⟩:=jK h;injection h with h;injection h with h1 h2;subst h1 h2;refine⟨pW (op:=.store t x y) (λj w=>by grind [cS]) (cE (lT _) λa r=>cE (lT _) λc hc=>?_),λe g z G=>?_⟩;rw[mW A r,mW D hc];grind [JKj,mX];have g:=qE g;simp only[erp,_y]at g;obtain⟨a,r,g⟩:=bind_some g;obtain⟨c,hc,g⟩:=bind_some g;have:=JKX g z G;rwa[mW A r,mW D hc,mX,mX]at this;rename_i t x i;obtain⟨v,A,h⟩:=jK h;injection h with h;injection h with h1 h2;subst h1 h2;refine⟨pW (op:=.iaddr t x i) (λj w=>by grind [cS]) (cE (lT _) λa r=>cE (lT _) λc hc=>?_),λe g y B=>?_⟩;rw[mW A r];grind [JIt,mX];have g:=qE g;simp only[erp,_y]at g;obtain⟨a,r,g⟩:=bind_some g;obtain⟨c,hc,g⟩:=bind_some g;grind [JKQ];rename_i own t n ps;obtain⟨l,hl,h⟩:=jK h;injection h with h;injection h with h1 h2;subst h1 h2;have N: ∀x∈ps.map (λx=>erO x.2),∀v,(ev x).run (JD s)=Z v-> ∀b∈avR v,b∈rng _m (cS (.lits own t n ps))++l:=by
  have V: ∀(ps:List (Nat×TO)) (l:List Nat),tpR s ps=Z l-> ∀x∈ps.map (λx=>erO x.2),∀v,(ev x).run (JD s)=Z v-> ∀b∈avR v,b∈l:=by
   intro ps
   induction ps with
   |nil=>simp_all
   |cons p ps ih=>
    intro l hl x _d v A b hb;obtain⟨i,o⟩:=p;simp only[tpR]at hl;obtain⟨u,D,hl⟩:=jK hl;obtain⟨q,hq,hl⟩:=jK hl;cases hl;simp only[cJ,cV]at _d;rcases _d with rfl|_d;rw[mW D A,mX]at hb;simp[hb];grind
  grind
 have H:(ps.map λx=>(x.1,erO x.2)).map (·.2)=ps.map λx=>erO x.2:=by simp
 refine⟨pW (op:=.lits own t n ps) (λj w=>zQ9.2 (.inl (tL w))) ?_,λe g y B=>?_⟩;grind [erp,_y,cE,Oo,cR,fC];have g:=qE g;simp only[erp,_y,H]at g;obtain⟨a,r,g⟩:=bind_some g;split at g;split at g;rename_i _e;cases g;simp only[zQ9,dC]at B;rcases B with B|rfl;exact kc N r y B;exact zQ9.2 (.inl (by have:=tL (k:=cS (.lits own t n ps)) (_m:=_m) (j:=0) (by simp[cS,_e]);grind));cases g;exact kc N r y B;cases g;rename_i t bytes y;obtain⟨v,A,h⟩:=jK h;injection h with h;injection h with h1 h2;subst h1 h2;refine⟨pW (op:=.appn t bytes y) (λj w=>by grind [cS]) (cE (lT _) λa r=>?_),λe g z G=>?_⟩;rw[mW A r];grind [cE,mi,mX,cR,fC];have g:=qE g;simp only[erp,_y]at g;obtain⟨a,r,g⟩:=bind_some g;obtain⟨_f,_,g⟩:=bind_some g;split at g;injection g with g;grind;cases g;rename_i t bytes x y;obtain⟨v,A,h⟩:=jK h;obtain⟨u,D,h⟩:=jK h;injection h with h;injection h with h1 h2;subst h1 h2;refine⟨pW (op:=.app t bytes x y) (λj w=>by grind [cS]) (cE (lT _) λa r=>cE (lT _) λc hc=>?_),λe g z G=>?_⟩;rw[mW A r,mW D hc];grind [JPD,mX];have g:=qE g;simp only[erp,_y]at g;obtain⟨a,r,g⟩:=bind_some g;obtain⟨c,hc,g⟩:=bind_some g;have:=JOi g z G;rwa[mW A r,mX]at this;rename_i P x lo hi mx;obtain⟨v,A,h⟩:=jK h;injection h with h;injection h with h1 h2;subst h1 h2;refine⟨pW (op:=.slice P x lo hi mx) (λj w=>by grind [cS]) (cE (lT _) λa r=>cE (yi _) λ_ _=>cE (yi _) λ_ _=>cE (yi _) λ_ _=>?_),λe g z G=>?_⟩;have e:=mW A r;grind [cE,NZ,mX,cR,fC,Ol];have g:=qE g;simp only[erp,_y]at g;obtain⟨a,r,g⟩:=bind_some g;obtain⟨_,_,g⟩:=bind_some g;obtain⟨_,_,g⟩:=bind_some g;obtain⟨_,_,g⟩:=bind_some g;have _a:=mW A r;split at g;obtain⟨y,B,g⟩:=bind_some g;split at g;split at g;injection g with g;grind [NV,mX];cases g;cases g;grind [VJ];rename_i f args n;obtain⟨l,hl,h⟩:=jK h;unfold tcU at h;obtain⟨_p,hi,h⟩:=jK h;injection h with h;injection h with h1 h2;subst h1 h2;obtain⟨xs,ws,R,i1,C,M,L,K⟩:=P6 hi;obtain⟨H,_c⟩:=DY hl;rw[WZ]at H;rw[QV _ _ (λx _d=>by simp_all)]at C;have hA: ∀x∈l.map (λx=>aZ (_v s._o) x.1),∀b∈avR x,b∈rng _m n++(l.flatMap λx=>tvR x.1)++_p:=(by grind [mX]);have _b:Rb (· ∈rng _m n++(l.flatMap λx=>tvR x.1)++_p) (lR (l.map λx=>aZ (_v s._o) x.1)) (JD s):=by rw[<-YB];grind [QJ]
 have E: ∀y∈ws,y.1∈rng _m n++(l.flatMap λx=>tvR x.1)++_p:=by rw[<-YB]at C;exact QD (S:=(· ∈rng _m n++(l.flatMap λx=>tvR x.1)++_p)) hA C
 obtain⟨Q,T⟩:=Cb (F:=F) (f:=f) (S:=(· ∈rng _m n++(l.flatMap λx=>tvR x.1)++_p)) (n:=n) (_m:=_m) (λb hb=>by simp[hb]) E
  (λj w=>by grind [tL]) M L K
 refine⟨pW (op:=.call f args n) (λj w=>by simp only[zQ9];exact .inl (.inl (tL w))) (cE (kh _) λa r=>?_),λe g y B=>?_⟩;grind [JKl];have g:=qE g;simp only[erp,_y]at g;obtain⟨a,r,g⟩:=bind_some g;grind [Qi];rename_i f args n;obtain⟨l,hl,h⟩:=jK h;unfold tcU at h;obtain⟨_p,hi,h⟩:=jK h;injection h with h;injection h with h1 h2;subst h1 h2;obtain⟨xs,ws,R,i1,C,M,L,K⟩:=P6 hi;obtain⟨H,_c⟩:=DY hl;have hA: ∀x∈l.map (λx=>aZ (_v s._o) x.1),∀b∈avR x,b∈rng _m n++(l.flatMap λx=>tvR x.1)++_p:=(by grind [mX]);rw[_c]at C;have E: ∀y∈ws,y.1∈rng _m n++(l.flatMap λx=>tvR x.1)++_p:=QD (S:=(· ∈rng _m n++(l.flatMap λx=>tvR x.1)++_p)) hA C;obtain⟨Q,T⟩:=Cb (F:=F) (f:=f) (S:=(· ∈rng _m n++(l.flatMap λx=>tvR x.1)++_p)) (n:=n) (_m:=_m) (λb hb=>by simp[hb]) E
  (λj w=>by grind [tL]) M L K
 refine⟨pW (op:=.callo f args n) (λj w=>by simp only[zQ9];exact .inl (.inl (tL w))) (cE (kh _) λa r=>?_),λe g y B=>?_⟩;grind [cE,QJ];have g:=qE g;simp only[erp,_y]at g;obtain⟨a,r,g⟩:=bind_some g;rw[H]at r;cases r;obtain⟨a,r,g⟩:=bind_some g;grind;rename_i own t bytes l c;injection h with h;injection h with h1 h2;subst h1 h2;refine⟨pW (op:=._D own t bytes l c) (λj w=>tL w) (cE (lT _) λa r=>cE (lT _) λd hd=>?_),λe g y B=>?_⟩;grind [cR,fC];have g:=qE g;simp only[erp,_y]at g;obtain⟨a,r,g⟩:=bind_some g;obtain⟨d,hd,g⟩:=bind_some g;split at g;split at g;split at g;rename_i _e;cases g;simp only[dC]at B;subst B;have:=tL (k:=cS (._D own t bytes l c)) (_m:=_m) (j:=0) (by simp[cS,_e]);grind;injection g with g;grind;cases g;cases g;rename_i k x;obtain⟨v,A,h⟩:=jK h;injection h with h;injection h with h1 h2;subst h1 h2;refine⟨pW (op:=.conv k x) (λj w=>zQ9.2 (.inl (tL w))) (cE (lT _) λa r=>?_),λe g y B=>?_⟩;have hr: ∀b∈avR a,b∈rng _m (cS (.conv k x))++tvR v:=λb hb=>by rw[mW A r,mX]at hb;simp[hb]
 grind [cR,cE,mi,fC];have g:=qE g;simp only[erp,_y]at g;obtain⟨a,r,g⟩:=bind_some g;split at g;injection g with g;grind;injection g with g;grind;obtain⟨_f,_,g⟩:=bind_some g;split at g;injection g with g;grind;cases g;split at g;rename_i _e;injection g with g;grind [cS,rng];injection g with g;grind;cases g;cases h
abbrev qW:=Option (List Nat×List Nat)
section
variable {R:Type}
def K9(i:kK)(s:_u):Bool:=match i.g with|none=>J|some (g,e)=>if i.dst=Z g then J else match tlk g s.env with|some (.a (.c (.d .b x)))=>if x=e then J else O|some (.tup [])=>O|_=>J
def uwI(i:kK)(_m:Nat)(s s':_u):qW:=if K9 i s'=O then Z ([],[])else uw i.op _m s
def TS(G:TG):List kK->Nat->_u->List qW->(_u->List qW->Option R)->Option R|[],_,s,l,k=>k s l|i::r,_m,s,l,k=>d8 G i _m s λs'=>TS G r (_m+cS i.op) s' (l++[uwI i _m s s']) k
def vP:qW->(List Nat×List Nat)->Prop|none,_=>True|some (U,W),x=>(∀b∈x.1,b∈U)/\ ∀b∈x.2,b∈W
def UJ(l:List qW):List (Nat×Nat)->Bool
 |[]=>O
 |(i,j)::r=>(match l[i]?,l[j]? with
  |some (Z a),Z (Z b)=>hM a.2 b.1&&hM a.2 b.2&&hM a.1 b.2
  |_,_=>J)&&UJ l r
theorem QU{b:Nat}: ∀{l:List Loc},b∈kY l->Loc.blk b∈l
 | .blk c::r,h=>by
  simp only[kY,cV]at h;rcases h with rfl|h;simp;simp[QU h]
 | .slot n::r,h=>by simp only[kY]at h;simp[QU h]
theorem vP.snoc{l:List qW}{l0:Log}{x:qW}{y:List Nat×List Nat}(hl:l.length=l0.length)(ho: ∀(j:Nat) a b,l[j]?=Z a->l0[j]?=Z b->vP a b)(hx:vP x y)(j:Nat)(a:qW)(b:List Nat×List Nat)(ha:(l++[x])[j]?=Z a)(hb:(l0++[y])[j]?=Z b):vP a b:=by
 grind
theorem JMT{F:Orc}{i:kK}{_m:Nat}{s s':_u}{e:Eff}(h:(cL F (eri i) _m).run (JD s)=Z e)(hp:put i.dst e (JD s)=JD s'):vP (uwI i _m s s') (kY ((cL F (eri i) _m).reads (JD s)),e.ws.map (·.1)):=by
 unfold uwI;split;rename_i j;unfold K9 at j;split at j;cases j;rename_i g k B;split at j;cases j;rename_i hd;have r:lk g (JD s').env=lk g (JD s).env:=(by rw[<-hp];unfold put;grind [lk]);have n: ∀v,tlk g s'.env=Z v->lk g (JD s).env=Z (aZ (_v s'._o) v):=λv z=>by
  rw[<-r];show lk g (gG _ s'.env)=_;grind [DN]
 split at j;rename_i x o;split at j;cases j;rename_i C;have hl:=n _ o;rw[e_b]at hl;have hi:cL F (eri i) _m=.slot g fun
  | .p (.b x)=>if x=k then opD F (eri i).op _m else .ret ⟨iC,[]⟩
  | .tup []=>.ret ⟨iC,[]⟩
  |_=>.fail:=by grind [cL,eri]
 rw[hi]at h⊢;refine⟨λb hb=>?_,λb hb=>?_⟩;have:=QU hb;grind [RM.reads];grind [zV,bS];rename_i o;have hl:=n _ o;have hl:lk g (JD s).env=Z (.tup []):=hl;have hi:cL F (eri i) _m=.slot g fun
  | .p (.b x)=>if x=k then opD F (eri i).op _m else .ret ⟨iC,[]⟩
  | .tup []=>.ret ⟨iC,[]⟩
  |_=>.fail:=by grind [cL,eri]
 rw[hi]at h⊢;refine⟨λb hb=>?_,λb hb=>?_⟩;have:=QU hb;grind [RM.reads];grind [zV,bS];cases j
 ·cases hu:uw i.op _m s with
  |none=>trivial
  |some q=>
   obtain⟨U,W⟩:=q;obtain⟨h1,h2⟩:=JQv F hu;have A:Rb (· ∈U) (cL F (eri i) _m) (JD s):=by
    unfold cL;split;exact h1
    ·refine Qu λv z=>?_;split
     split;exact h1;simp[cR]
     all_goals simp[cR,fC]
   refine⟨λb hb=>A b (QU hb),λb hb=>?_⟩;obtain⟨y,w,rfl⟩:=iN.1 hb;unfold cL at h;split at h;exact h2 e h y w;simp only[zV]at h;obtain⟨v,z,h⟩:=bV.1 h;split at h;split at h;exact h2 e h y w;injection h with h;grind;injection h with h;grind;cases h
theorem zp{F:Orc}{G:TG}(o:GOk F G): ∀{ins:List kK} {_m:Nat} {s:_u} {l:List qW} {l0:Log} {k:_u->List qW->Option R} {r:R},l.length=l0.length->(∀(j:Nat) a b,l[j]?=Z a->l0[j]?=Z b->vP a b)->
  TS G ins _m s l k=Z r-> ∃s' l' g,kW F (ins.map eri) _m (JD s) l0=Z (JD s',l')/\k s' g=Z r/\g.length=l'.length/\ ∀(j:Nat) a b,g[j]?=Z a->l'[j]?=Z b->vP a b
 |[],_m,s,l,l0,k,r,hl,n,h=>⟨s,l0,l,rfl,h,hl,n⟩
 |i::q,_m,s,l,l0,k,r,hl,n,h=>by
  simp only[TS]at h;obtain⟨e,s1,h1,h2,h⟩:=Qn o h;obtain⟨v,l',g,z,x,y,w⟩:=zp o (l0:=l0++[(kY ((cL F (eri i) _m).reads (JD s)),e.ws.map (·.1))]) (by grind) (vP.snoc hl n (JMT h1 h2)) h;refine⟨v,l',g,?_,x,y,w⟩;grind [kW,eri,PK]
theorem nq{a b a' e:List Nat}(h:hM a' e=O)(ha: ∀x∈a,x∈a')(hb: ∀x∈b,x∈e):hM a b=O:=by
 grind [hM]
theorem zy{l:List qW}{l':Log}(hl:l.length=l'.length)(ho: ∀(j:Nat) a b,l[j]?=Z a->l'[j]?=Z b->vP a b): ∀{ps:List (Nat×Nat)},UJ l ps=O->IP l' ps=O
 |[],_=>rfl
 |(i,j)::r,h=>by
  simp only[UJ,bB]at h;obtain⟨h1,h2⟩:=h;simp only[IP,bB];refine⟨?_,zy hl ho h2⟩;split at h1;rename_i a b n hb;have hi:i<l'.length:=by grind
  have k:j<l'.length:=by grind
  have e:=ho i _ _ n (bF hi);have g:=ho j _ _ hb (bF k);rw[bF hi,bF k];simp only[bB]at h1⊢;exact⟨⟨nq h1.1.1 e.2 g.1,nq h1.1.2 e.2 g.2⟩,nq h1.2 e.1 g.2⟩;cases h1
def vw(G:TG)(pairs:List (Nat×Nat))(ins:List kK)(s:_u)(k:_u->Option R):Option R:=
 match pairs with
 |[]=>gg G ins s._o.length (US (OH ins) s) k
 |p::ps=>TS G ins s._o.length (US (OH ins) s) [] λs' l=>if UJ l (p::ps)=O then k s' else Y
theorem JN2{F:Orc}{G:TG}(e:GOk F G){pairs:List (Nat×Nat)}{ins:List kK}{s:_u}{k:_u->Option R}{r:R}(h:vw G pairs ins s k=Z r): ∃s',region F pairs (ins.map eri) (JD s)=Z (JD s')/\k s'=Z r:=by
 have hlen:(JD s)._o.length=s._o.length:=by simp[JD]
 unfold vw at h;split at h;grind [Q3,region,ns,Ae];obtain⟨s',l',n,h1,h2,q,o⟩:=zp e (l0:=[]) rfl (λj a b g hb=>by simp at g) h;grind [region,ns,Ae,zy]
end
end Go.Am
end
section
namespace Go.Am
def yQ(m:Nat)(_p:List Nat)(s:_u):TC->Option TC
 | .ptr b p=>if b<m then Z (.ptr b p)else match fG b _p m with|some k=>Z (.ptr k p)|none=>match s._o[b]? with|some (.box t x)=>Z (.cp t x p)|_=>Y
 | ._r b=>if b<m then Z (._r b)else match fG b _p m with|some k=>Z (._r k)|none=>match s._o[b]? with|some (.arr _ t _f)=>Z (.d (.l t) _f)|_=>Y
 | .slo b n=>if b<m then Z (.slo b n)else match fG b _p m with|some k=>Z (.slo k n)|none=>Y
 | .ep b i p=>if b<m then Z (.ep b i p)else match fG b _p m with|some k=>Z (.ep k i p)|none=>Y
 | .epo b e i p=>if b<m then Z (.epo b e i p)else match fG b _p m with|some k=>Z (.epo k e i p)|none=>Y
 | .pre _ _=>Y
 | .pro _ _ _=>Y
 | .suf _ _=>Y
 | .suo _ _ _=>Y
 |x=>Z x
def CO(m:Nat)(_p:List Nat)(s:_u):List TC->Option (List TC)|[]=>Z []|x::r=>match yQ m _p s x,CO m _p s r with|some y,Z l=>Z (y::l)|_,_=>Y
def HC(m:Nat)(_p:List Nat)(s:_u):TA->Option TA
 | .c x=>match yQ m _p s x with|some y=>Z (.c y)|none=>Y
 | .dt t x=>Z (.dt t x)
 | .m t cs=>match CO m _p s cs with
  |some l=>match asm t l with|some x=>Z (.dt t x)|none=>if l.any d6=O then Z (.m t l)else Y
  |none=>Y
 | .fn f a c=>match CO m _p s a,CO m _p s c with|some a,Z c=>Z (.fn f a c)|_,_=>Y
def OU(m:Nat)(_p:List Nat)(s:_u):List TA->Option (List TA)|[]=>Z []|x::r=>match HC m _p s x,OU m _p s r with|some y,Z l=>Z (y::l)|_,_=>Y
def xn(m:Nat)(_p:List Nat)(s:_u):TV->Option TV
 | .a x=>match HC m _p s x with|some y=>Z (.a y)|none=>Y
 | .tup vs=>match OU m _p s vs with|some l=>Z (.tup l)|none=>Y
def NQ(m:Nat)(_p:List Nat)(s:_u):TB->Option TB
 | .mbox t cs=>match CO m _p s cs with|some l=>Z (mkb t l)|none=>Y
 |x=>Z x
def zD(m:Nat)(_p:List Nat)(s:_u):List TB->Option (List TB)|[]=>Z []|x::r=>match NQ m _p s x,zD m _p s r with|some y,Z l=>Z (y::l)|_,_=>Y
def TD(m:Nat)(s:_u):List (Nat×TV)->Option (List (Nat×TV))|[]=>Z []|(k,x)::r=>match xn m [] s x,TD m s r with|some y,Z l=>Z ((k,y)::l)|_,_=>Y
def rQ:List Nat->List (Nat×TV)->List (Nat×TV)|[],_=>[]|k::r,env=>match tlk k env with|some v=>(k,v)::rQ r env|none=>rQ r env
theorem QQ(L:Nat->Nat)(env:List (Nat×TV)): ∀live:List Nat,restr live (gG L env)=gG L (rQ live env)
 |[]=>rfl
 |k::r=>by
  simp only[restr,rQ,DN];cases tlk k env with
  |none=>exact QQ L env r
  |some v=>
   have ih:=QQ L env r;grind [gG]
section
variable {m:Nat} {_p:List Nat} {s:_u} {L':Nat->Nat} (h1: ∀b,b<m->L' b=_v s._o b) (h2: ∀b k,fG b _p m=Z k->L' k=_v s._o b)
include h1 h2
theorem A7{x y:TC}(h:yQ m _p s x=Z y):fin m _p (JD s)._o (bI (_v s._o) x)=Z (bI L' y):=by
 cases x with
 |ptr b p=>
  simp only[yQ]at h;simp only[bI,fin];split at h;grind;rename_i hb;rw[if_neg hb];split at h;grind [bI];rename_i j;rw[j];dsimp only;split at h;rename_i t x g;cases h;simp only[eS,g,dB,DE,IR,bI];cases h
 |_r b=>
  simp only[yQ]at h;simp only[bI,fin];split at h;grind
  ·rename_i hb;rw[if_neg hb];split at h
   all_goals grind [eS,jm,mB,_A,hdP]
 |slo b n=>
  grind [yQ,bI,fin]
 |ep b i p=>
  grind [yQ,bI,fin]
 |epo b e i p=>
  grind [yQ,bI,fin]
 |_=>first|(cases h;done)|(cases h;rfl)
theorem WW: ∀{xs e:List TC},CO m _p s xs=Z e->fin.finL m _p (JD s)._o (xs.map (bI (_v s._o)))=Z (e.map (bI L'))
 |[],e,h=>by cases h;rfl
 |x::r,e,h=>by
  simp only[CO]at h;split at h;rename_i y l g hl;cases h;simp only[cJ,fin.finL,A7 h1 h2 g,WW hl];cases h
theorem zw{x y:TA}(h:HC m _p s x=Z y):fin m _p (JD s)._o (bY (_v s._o) x)=Z (bY L' y):=by
 cases x with
 |c x=>
  simp only[HC]at h;split at h;rename_i y g;cases h;exact A7 h1 h2 g;cases h
 |dt t x=>cases h;rfl
 |m t cs=>
  simp only[HC]at h;split at h;rename_i l hl;have e:=WW h1 h2 hl;grind [bY,fin,OZ,IR,ku];cases h
 |fn f a c=>
  grind [HC,bY,fin,WW]
theorem pv: ∀{xs e:List TA},OU m _p s xs=Z e->fin.finL m _p (JD s)._o (xs.map (bY (_v s._o)))=Z (e.map (bY L'))
 |[],e,h=>by cases h;rfl
 |x::r,e,h=>by
  simp only[OU]at h;split at h;rename_i y l g hl;cases h;simp only[cJ,fin.finL,zw h1 h2 g,pv hl];cases h
theorem JJY{x y:TV}(h:xn m _p s x=Z y):fin m _p (JD s)._o (aZ (_v s._o) x)=Z (aZ L' y):=by cases x<;>grind [xn,zw,aZ,fin,pv]
theorem JIN{x y:TB}(h:NQ m _p s x=Z y):gY m _p (JD s)._o (bH (_v s._o) x)=Z (bH L' y):=by
 cases x with
 |mbox t cs=>
  grind [NQ,PR,gY,WW,WJ]
 |box t x=>injection h with h;grind [DE,gY,Cn]
 |_=>cases h;rfl
theorem XW: ∀{xs e:List TB},zD m _p s xs=Z e->sS m _p (JD s)._o (xs.map (bH (_v s._o)))=Z (e.map (bH L'))
 |[],e,h=>by cases h;rfl
 |x::r,e,h=>by
  simp only[zD]at h;split at h;rename_i y l g hl;cases h;simp only[cJ,sS,JIN h1 h2 g,XW hl];cases h
end
theorem JHH{m:Nat}{_p:List Nat}{s:_u}{x y:TB}(h:NQ m _p s x=Z y):lnB y=lnB x:=by
 cases x with
 |mbox t cs=>
  simp only[NQ]at h;split at h;cases h;exact WC _ _;cases h
 |_=>cases h;rfl
theorem YA{m:Nat}{_p:List Nat}{s:_u}: ∀{xs e:List TB},zD m _p s xs=Z e->e.length=xs.length/\ ∀(k:Nat),_v e k=_v xs k
 |[],e,h=>by injection h with h;simp_all
 |x::r,e,h=>by
  simp only[zD]at h;split at h;rename_i y l g hl;cases h;obtain⟨j,n⟩:=YA hl;refine⟨by simp[j],λk=>?_⟩;cases k with
  |zero=>exact JHH g
  |succ k=>exact n k
  cases h
theorem Rv{m:Nat}{s:_u}{L':Nat->Nat}(h1: ∀b,b<m->L' b=_v s._o b): ∀{env e:List (Nat×TV)},TD m s env=Z e->xS m (JD s)._o (gG (_v s._o) env)=Z (gG L' e)
 |[],e,h=>by cases h;rfl
 |(k,x)::r,e,h=>by
  simp only[TD]at h;split at h;rename_i y l g hl;cases h;simp only[gG,cJ,xS];rw[JJY (_p:=[]) h1 (λb k hk=>by cases hk) g];have ih:=Rv h1 hl;grind [gG];cases h
def tB(n:Nat)(live:List Nat)(s:_u):Option _u:=
 if s._o.length=n then Z ⟨rQ live s.env,s._o⟩
 else match TD n s (rQ live s.env),zD n [] s (s._o.take n)with|some e,Z l=>Z ⟨e,l⟩|_,_=>Y
theorem IV{n:Nat}{live:List Nat}{s s':_u}(h:tB n live s=Z s'):clean n live (JD s)=Z (JD s'):=by
 unfold tB at h;have hlen:(JD s)._o.length=s._o.length:=by simp[JD]
 split at h;grind [clean,JD,QQ];rename_i g;split at h;rename_i e l j hl;cases h;obtain⟨o,v⟩:=YA hl;have hL: ∀b,b<n->_v l b=_v s._o b:=λb hb=>by
  grind [_v]
 unfold clean;rw[hlen,if_neg g];have r:=Rv hL j;have q:=XW (_p:=[]) hL (λb k hk=>by cases hk) hl;grind [JD,QQ,List.map_take];cases h
inductive CN where|tmp (t:Nat)|cell (t:Nat) (agg:Bool) (ty:Ty)
def erR:CN->xT| .tmp t=>.tmp t| .cell t agg ty=>.cell t agg ty.sz
def yc(agg:Bool)(ty:Ty)(v:TV)(s:_u):Option TA:=
 if agg=O\/ty.sz=1 then
  match v with
  | .a (.c (.ptr b []))=>match s._o[b]? with
   |some (.box e x)=>if h:e=ty then(if agg=O then Z (.dt ty (h▸x))else Z (.c (.d ty (h▸x))))else Y
   |some (.mbox _ cs)=>if cs.length=ty.sz then
    match mka agg ty cs with
    |some (.a x)=>Z x
    |_=>Y
    else Y
   |_=>Y
  |_=>Y
 else Y
theorem JIM{agg:Bool}{ty:Ty}{v:TV}{s:_u}{x:TA}(h:yc agg ty v s=Z x): ∃e,(hY agg ty.sz (aZ (_v s._o) v)).run (JD s)=Z e/\e.val=bY (_v s._o) x:=by
 unfold yc at h;split at h;rename_i r;split at h;rename_i b;split at h;rename_i g y hb;split at h;rename_i k;subst k;refine⟨⟨bY (_v s._o) x,[]⟩,?_,rfl⟩;have hc:mD agg ((_A g y).map .p)=qJ agg (_A g y):=by
  unfold mD qJ;split;rw[IR];cases hcel:_A g y with
  |nil=>rfl
  |cons a l=>cases l<;>rfl
 have j:sub (_A g y) 0 g.sz=Z (_A g y):=kq (eW _ _);have q:=HU (_v s._o) r y;simp only[lW,spo,hY,eT,eS,hb,dB,JF,DE,IU,j,hc,q,val,bS];unfold mkv;split at h;rename_i h1;cases h;rw[if_pos h1];rfl;rename_i h1;cases h;rw[if_neg h1];rfl;cases h;rename_i cs hb;split at h;rename_i o;split at h;rename_i y n;injection h with h;subst h;have j:sub cs 0 ty.sz=Z cs:=kq o;refine⟨⟨bY (_v s._o) y,[]⟩,?_,rfl⟩;simp only[lW,spo,hY,eT,eS,hb,dB,JF,PR,IU,j,ID (_v s._o) n,val,bS];rfl;cases h;cases h;cases h;cases h;cases h
def GM:List CN->_u->Option (List TA)
 |[],_=>Z []
 | .tmp t::r,s=>match tlk t s.env,GM r s with|some (.a x),Z l=>Z (x::l)|_,_=>Y
 | .cell t agg ty::r,s=>match tlk t s.env with
  |some v=>match yc agg ty v s,GM r s with|some x,Z l=>Z (x::l)|_,_=>Y
  |none=>Y
theorem Pm(s:_u)(t:Nat):(RM.slot t RM.ret).run (JD s)=(tlk t s.env).map (aZ (_v s._o)):=by rw[zV];show(lk t (gG _ s.env)).bind _=_;simp[DN]
theorem lc{s:_u}: ∀{j:List CN} {l:List TA},GM j s=Z l->(pJ (j.map erR)).run (JD s)=Z (l.map (bY (_v s._o)))
 |[],l,h=>by cases h;rfl
 | .tmp t::r,l,h=>by
  simp only[GM]at h;split at h;rename_i x l' g hl;cases h;simp only[cJ,erR,pJ,run_bind,Pm,g,dB,JF,lc hl,bS];rfl;cases h
 | .cell t agg ty::r,l,h=>by
  simp only[GM]at h;split at h;rename_i v k;split at h;rename_i x l' g hl;cases h;obtain⟨e,n,o⟩:=JIM g;simp only[cJ,erR,pJ,run_bind,Pm,k,dB,JF,n,lc hl,bS,o];cases h;cases h
def OC(s:_u):List Nat->List Nat->Option (List Nat)
 |[],acc=>Z acc
 |b::r,acc=>match s._o[b]? with
  |some (.mbox _ cs)=>match yP cs acc with|some acc=>OC s r acc|none=>Y
  |some _=>OC s r acc
  |none=>Y
theorem XD{s:_u}: ∀{r acc l:List Nat},OC s r acc=Z l->sT (JD s)._o (r.map .whole) (acc.map .whole)=l.map .whole
 |[],acc,l,h=>by cases h;rfl
 |b::r,acc,l,h=>by
  simp only[OC]at h;split at h;rename_i cs hb;split at h;rename_i e g;simp only[cJ,sT,eS,hb,dB,PR,QE (_v s._o) g];exact XD h;cases h;rename_i x j hb;simp only[cJ,sT,eS,hb,dB];cases x with
  |mbox t cs=>simp_all
  |box t x=>simp only[DE];rw[Ch];exact XD h
  |_=>exact XD h
  cases h
def nA(m:Nat)(fresh:Bool)(s:_u):List Nat->List Nat
 |[]=>[]
 |b::r=>if b<m then nA m fresh s r else
  match s._o[b]? with
  |some (.box _ _)=>b::nA m fresh s r
  |some (.mbox _ _)=>b::nA m fresh s r
  |some (.arr _ _ _)=>if fresh=O then b::nA m fresh s r else nA m fresh s r
  |_=>nA m fresh s r
theorem Di{m:Nat}{fresh:Bool}{s:_u}: ∀r:List Nat,kZ m fresh (JD s)._o (r.map .whole)=nA m fresh s r
 |[]=>rfl
 |b::r=>by
  simp only[cJ,kZ,nA,eS];rw[Di r];split;rfl;cases s._o[b]? with
  |none=>rfl
  |some x=>cases x<;>rfl
def TW(s:_u):List Nat->Option (List TB)|[]=>Z []|b::r=>match s._o[b]?,TW s r with|some x,Z l=>Z (x::l)|_,_=>Y
theorem R7{s:_u}: ∀{_p:List Nat} {l:List TB},TW s _p=Z l->yU (JD s)._o _p=Z (l.map (bH (_v s._o)))/\l.length=_p.length/\ ∀(j b:Nat),_p[j]?=Z b->_v l j=_v s._o b
 |[],l,h=>by injection h with h;simp_all
 |b::r,l,h=>by
  simp only[TW]at h;split at h;rename_i x l' n hl;cases h;obtain⟨e,k,g⟩:=R7 hl;grind [yU,eS,_v];cases h
def RO:List TA->TV|[x]=>.a x|l=>.tup l
theorem Qp(L:Nat->Nat)(l:List TA):one (l.map (bY L))=aZ L (RO l):=by
 match l with
 |[]=>rfl
 |[x]=>rfl
 |x::y::r=>rfl
section
variable {R:Type}
def PT(res:List CN)(fresh:Bool)(m:Nat)(s:_u)(E:TV->List TB->Option R):Option R:=
 match GM res s with
 |none=>Y
 |some vs=>
  if s._o.length=m then E (RO vs) s._o
  else match IC vs []with
   |none=>Y
   |some e=>match OC s e e with
    |none=>Y
    |some i1=>if kU (nA m fresh s i1)=O/\m<=s._o.length then
     match OU m (nA m fresh s i1) s vs,zD m (nA m fresh s i1) s (s._o.take m),TW s (nA m fresh s i1)with
     |some ws,Z l,Z q=>match zD m (nA m fresh s i1) s q with|some q'=>E (RO ws) (l++q')|none=>Y
     |_,_,_=>Y
     else Y
theorem JGc{f:AFn}{res:List CN}{fresh:Bool}{m:Nat}{s:_u}{E:TV->List TB->Option R}{r:R}(n:f.res=res.map erR)(H:f.fresh=fresh)(h:PT res fresh m s E=Z r):
  ∃v out,iU f m (JD s)=Z (aZ (_v out) v,out.map (bH (_v out)))/\E v out=Z r:=by
 unfold PT at h;have hlen:(JD s)._o.length=s._o.length:=by simp[JD]
 split at h;cases h;rename_i vs hvs;have B:=lc hvs;split at h;rename_i y;refine⟨RO vs,s._o,?_,h⟩;unfold iU;rw[n,B];dsimp only;rw[hlen,if_pos y,Qp];rfl;rename_i y;split at h;cases h;rename_i A x;split at h;cases h;rename_i i1 o;split at h;rename_i j;obtain⟨_d,V⟩:=j;generalize g:nA m fresh s i1=_p at*;split at h;rename_i ws l q w hl C;split at h;rename_i q' e;refine⟨RO ws,l++q',?_,h⟩;obtain⟨P,D⟩:=YA hl;obtain⟨_c,M,K⟩:=R7 C;obtain⟨S,U⟩:=YA e;have G:l.length=m:=by simp_all
 have h1: ∀b,b<m->_v (l++q') b=_v s._o b:=λb hb=>by
  have:=D b;grind [_v]
 have h2: ∀b k,fG b _p m=Z k->_v (l++q') k=_v s._o b:=λb k hk=>by
  obtain⟨_e,F⟩:=XX hk;grind [_v]
 have W:=pv h1 h2 w;have T:=XW h1 h2 hl;have _b:=XW h1 h2 e;have Q:dA.entsOfL (vs.map (bY (_v s._o))) []=A.map .whole:=XL (_v s._o) (l:=[]) x;have L:=XD o;have z:=Di (m:=m) (fresh:=fresh) (s:=s) i1;rw[g]at z;have N:(JD s)._o.take m=(s._o.take m).map (bH (_v s._o)):=by simp[JD]
 grind [iU,Qp];cases h;cases h;cases h
end
end Go.Am
end
section
namespace Go.Am
inductive ShC where
 |d (t:Ty)
 |sc (t:Ty)
 |np
 |nf
 |un
 |ptr (b:Nat) (p:List Sp)
 |cp (t:Ty) (p:List Sp)
 |_r (b:Nat)
 |suf (b:Nat)
 |fn (f:FuncId)
 deriving DecidableEq
inductive ShA where
 |c (x:ShC)
 |dt (t:Ty)
 |m (t:Ty) (cs:List ShC)
 |fn (f:FuncId) (a c:List ShC)
 deriving DecidableEq
inductive ShV where
 |a (x:ShA)
 |tup (vs:List ShA)
 deriving DecidableEq
inductive ShB where
 |dead
 |box (t:Ty)
 |mbox (t:Ty) (cs:List ShC)
 |arr (w:Bool) (t:Ty)
 deriving DecidableEq
structure ShS where
 env:List (Nat×ShV)
 _o:List ShB
 deriving DecidableEq
abbrev Lf:=(t:Ty)×t.D
def shC:TC->Option (ShC×List Lf)| .d t x=>Z (.d t,[⟨t,x⟩])| .sc t _f=>Z (.sc t,[⟨.l t,_f⟩])| .np=>Z (.np,[])| .nf=>Z (.nf,[])| .un=>Z (.un,[])| .ptr b p=>if(uU p).isSome=O then Z (.ptr b p,[])else Y| .cp t x p=>if(uU p).isSome=O then Z (.cp t p,[⟨t,x⟩])else Y| ._r b=>Z (._r b,[])| .suf b i=>Z (.suf b,[⟨.i I,Int.ofNat i⟩])| .fn f=>Z (.fn f,[])|_=>Y
def lf1(t:Ty)(l:List Lf):Option (t.D×List Lf):=
 match l with
 |⟨t',x⟩::r=>if h:t'=t then Z (h▸x,r)else Y
 |[]=>Y
def mkC:ShC->List Lf->Option (TC×List Lf)
 | .d t,l=>match lf1 t l with|some (x,r)=>Z (.d t x,r)|none=>Y
 | .sc t,l=>match lf1 (.l t) l with|some (x,r)=>Z (.sc t x,r)|none=>Y
 | .np,l=>Z (.np,l)
 | .nf,l=>Z (.nf,l)
 | .un,l=>Z (.un,l)
 | .ptr b p,l=>Z (.ptr b p,l)
 | .cp t p,l=>match lf1 t l with|some (x,r)=>Z (.cp t x p,r)|none=>Y
 | ._r b,l=>Z (._r b,l)
 | .suf b,l=>match lf1 (.i I) l with|some (x,r)=>Z (.suf b (_J x),r)|none=>Y
 | .fn f,l=>Z (.fn f,l)
theorem vR(t:Ty)(x:t.D)(r:List Lf):lf1 t (⟨t,x⟩::r)=Z (x,r):=by simp[lf1]
theorem OX{x:TC}{sh:ShC}{ls:List Lf}(h:shC x=Z (sh,ls))(rest:List Lf):mkC sh (ls++rest)=Z (x,rest):=by
 cases x<;>simp only[shC]at h<;>first
  |(split at h
    simp only[Option.some.injEq,Prod.mk.injEq]at h;obtain⟨rfl,rfl⟩:=h;simp only[uR,qS,mkC,vR];cases h)
  |(simp only[Option.some.injEq,Prod.mk.injEq]at h
    obtain⟨rfl,rfl⟩:=h;simp only[uR,qS,mkC,vR]
    done)
  |(simp only[Option.some.injEq,Prod.mk.injEq]at h
    obtain⟨rfl,rfl⟩:=h;simp only[uR,qS,mkC,vR];rfl)
  |cases h
def shL{α σ:Type}(f:α->Option (σ×List Lf)):List α->Option (List σ×List Lf)|[]=>Z ([],[])|x::r=>match f x,shL f r with|some (s,l),Z (q,k)=>Z (s::q,l++k)|_,_=>Y
def mkL{α σ:Type}(g:σ->List Lf->Option (α×List Lf)):List σ->List Lf->Option (List α×List Lf)
 |[],l=>Z ([],l)
 |s::r,l=>match g s l with
  |some (x,l)=>match mkL g r l with|some (q,l)=>Z (x::q,l)|none=>Y
  |none=>Y
theorem rO{α σ:Type}{f:α->Option (σ×List Lf)}{g:σ->List Lf->Option (α×List Lf)}(j: ∀{x:α} {s:σ} {ls:List Lf},f x=Z (s,ls)-> ∀rest,g s (ls++rest)=Z (x,rest)):
  ∀{xs:List α} {e:List σ} {ls:List Lf},shL f xs=Z (e,ls)-> ∀rest,mkL g e (ls++rest)=Z (xs,rest)
 |[],e,ls,h,rest=>by injection h with h;injection h with h1 h2;subst h1 h2;rfl
 |x::r,e,ls,h,rest=>by
  simp only[shL]at h;split at h;rename_i s l q k h1 h2;injection h with h;injection h with h3 h4;subst h3 h4;simp only[mkL,iO,j h1,rO j h2];cases h
def shA:TA->Option (ShA×List Lf)
 | .c x=>match shC x with|some (s,l)=>Z (.c s,l)|none=>Y
 | .dt t x=>Z (.dt t,[⟨t,x⟩])
 | .m t cs=>match shL shC cs with|some (s,l)=>Z (.m t s,l)|none=>Y
 | .fn f a c=>match shL shC a,shL shC c with|some (s,l),Z (q,k)=>Z (.fn f s q,l++k)|_,_=>Y
def mkA:ShA->List Lf->Option (TA×List Lf)
 | .c s,l=>match mkC s l with|some (x,l)=>Z (.c x,l)|none=>Y
 | .dt t,l=>match lf1 t l with|some (x,l)=>Z (.dt t x,l)|none=>Y
 | .m t s,l=>match mkL mkC s l with|some (x,l)=>Z (.m t x,l)|none=>Y
 | .fn f a c,l=>match mkL mkC a l with
  |some (x,l)=>match mkL mkC c l with|some (y,l)=>Z (.fn f x y,l)|none=>Y
  |none=>Y
theorem j6{x:TA}{sh:ShA}{ls:List Lf}(h:shA x=Z (sh,ls))(rest:List Lf):mkA sh (ls++rest)=Z (x,rest):=by
 cases x with
 |c x=>
  simp only[shA]at h;split at h;rename_i s l h1;injection h with h;injection h with h2 h3;subst h2 h3;simp only[mkA,OX h1];cases h
 |dt t x=>injection h with h;grind [mkA,vR]
 |m t cs=>
  simp only[shA]at h;split at h;rename_i s l h1;injection h with h;injection h with h2 h3;subst h2 h3;simp only[mkA,rO OX h1];cases h
 |fn f a c=>
  simp only[shA]at h;split at h;rename_i s l q k h1 h2;injection h with h;injection h with h3 h4;subst h3 h4;simp only[mkA,iO,rO OX h1,rO OX h2];cases h
def shV:TV->Option (ShV×List Lf)
 | .a x=>match shA x with|some (s,l)=>Z (.a s,l)|none=>Y
 | .tup vs=>match shL shA vs with|some (s,l)=>Z (.tup s,l)|none=>Y
def mkV:ShV->List Lf->Option (TV×List Lf)
 | .a s,l=>match mkA s l with|some (x,l)=>Z (.a x,l)|none=>Y
 | .tup s,l=>match mkL mkA s l with|some (x,l)=>Z (.tup x,l)|none=>Y
theorem Nx{x:TV}{sh:ShV}{ls:List Lf}(h:shV x=Z (sh,ls))(rest:List Lf):mkV sh (ls++rest)=Z (x,rest):=by
 cases x with
 |a x=>
  simp only[shV]at h;split at h;rename_i s l h1;injection h with h;injection h with h2 h3;subst h2 h3;simp only[mkV,j6 h1];cases h
 |tup vs=>
  simp only[shV]at h;split at h;rename_i s l h1;injection h with h;injection h with h2 h3;subst h2 h3;simp only[mkV,rO j6 h1];cases h
def shB:TB->Option (ShB×List Lf)
 | .dead=>Z (.dead,[])
 | .box t x=>Z (.box t,[⟨t,x⟩])
 | .mbox t cs=>match shL shC cs with|some (s,l)=>Z (.mbox t s,l)|none=>Y
 | .arr w t _f=>Z (.arr w t,[⟨.l t,_f⟩])
def mkB:ShB->List Lf->Option (TB×List Lf)
 | .dead,l=>Z (.dead,l)
 | .box t,l=>match lf1 t l with|some (x,l)=>Z (.box t x,l)|none=>Y
 | .mbox t s,l=>match mkL mkC s l with|some (x,l)=>Z (.mbox t x,l)|none=>Y
 | .arr w t,l=>match lf1 (.l t) l with|some (x,l)=>Z (.arr w t x,l)|none=>Y
theorem jv{x:TB}{sh:ShB}{ls:List Lf}(h:shB x=Z (sh,ls))(rest:List Lf):mkB sh (ls++rest)=Z (x,rest):=by
 cases x with
 |dead=>injection h with h;injection h with h2 h3;subst h2 h3;rfl
 |box t x=>injection h with h;grind [mkB,vR]
 |mbox t cs=>
  simp only[shB]at h;split at h;rename_i s l h1;injection h with h;injection h with h2 h3;subst h2 h3;simp only[mkB,rO OX h1];cases h
 |arr w t _f=>injection h with h;grind [mkB,vR]
def shE(x:Nat×TV):Option ((Nat×ShV)×List Lf):=match shV x.2 with|some (s,l)=>Z ((x.1,s),l)|none=>Y
def mkE(x:Nat×ShV)(l:List Lf):Option ((Nat×TV)×List Lf):=match mkV x.2 l with|some (v,l)=>Z ((x.1,v),l)|none=>Y
theorem JNK{x:Nat×TV}{sh:Nat×ShV}{ls:List Lf}(h:shE x=Z (sh,ls))(rest:List Lf):mkE sh (ls++rest)=Z (x,rest):=by
 unfold shE at h;split at h;rename_i s l h1;injection h with h;injection h with h2 h3;subst h2 h3;simp only[mkE,Nx h1];cases h
def shS(s:_u):Option (ShS×List Lf):=match shL shE s.env,shL shB s._o with|some (a,l),Z (c,k)=>Z (⟨a,c⟩,l++k)|_,_=>Y
def xY(s:ShS)(l:List Lf):Option _u:=match mkL mkE s.env l with
 |some (a,l)=>match mkL mkB s._o l with|some (c,[])=>Z ⟨a,c⟩|_=>Y
 |none=>Y
theorem Ra{x:_u}{sh:ShS}{ls:List Lf}(h:shS x=Z (sh,ls)):xY sh ls=Z x:=by
 unfold shS at h;split at h;rename_i a l c k h1 h2;injection h with h;injection h with h3 h4;subst h3 h4;have e:=rO jv h2 [];rw[gE]at e;simp only[xY,rO JNK h1,e];cases h
def tyL:List Ty->Ty|[]=>.u|[t]=>t|t::t'::r=>.pr t (tyL (t'::r))
def yG:(ls:List Lf)->(tyL (ls.map (·.1))).D|[]=>()|[x]=>x.2|x::y::r=>(x.2,yG (y::r))
def pT:(ts:List Ty)->(tyL ts).D->List Lf|[],_=>[]|[t],x=>[⟨t,x⟩]|t::t'::r,x=>⟨t,x.1⟩::pT (t'::r) x.2
theorem ph: ∀ls:List Lf,pT (ls.map (·.1)) (yG ls)=ls
 |[]=>rfl
 |[x]=>rfl
 |x::y::r=>by
  have:=ph (y::r);grind [pT,yG]
def asL(ts:List Ty)(ls:List Lf):Option (tyL ts).D:=if h:ls.map (·.1)=ts then Z (h▸yG ls)else Y
theorem je{ts:List Ty}{ls:List Lf}{x:(tyL ts).D}(h:asL ts ls=Z x):pT ts x=ls:=by
 grind [asL,ph]
def GD(sh:ShS)(ts:List Ty)(s:_u):Option (tyL ts).D:=match shS s with|some (e,ls)=>if e=sh then asL ts ls else Y|none=>Y
theorem Pu{sh:ShS}{ts:List Ty}{s:_u}{x:(tyL ts).D}(h:GD sh ts s=Z x):xY sh (pT ts x)=Z s:=by
 grind [GD,je,Ra]
inductive TCo where|skip|bad|reg (draw:Bool) (pairs:List (Nat×Nat)) (ins:List kK)|seq (a b:TCo)|cond (c:TO) (a b:TCo)|block (id:Nat) (c:TCo)|loop (live:List Nat) (c:TCo)|scope (c:TCo)|exit (id:Nat)|ret|keep (live:List Nat) (c:TCo)|tidy (live:List Nat) (c:TCo)|jn (sh:ShS) (ts:List Ty) (a b:TCo)
def erc:TCo->cP| .skip=>.skip| .bad=>.bad| .reg d p ins=>.reg d p (ins.map eri)| .seq a b=>.seq (erc a) (erc b)| .cond c a b=>.cond (erO c) (erc a) (erc b)| .block id c=>.block id (erc c)| .loop live c=>.loop live (erc c)| .scope c=>.scope (erc c)| .exit id=>.exit id| .ret=>.ret| .keep live c=>.keep live (erc c)| .tidy live c=>.tidy live (erc c)| .jn sh _ a b=>.seq (erc a) (.keep (sh.env.map (·.1)) (erc b))
structure TK(R:Type) where
 n:_u->Option R
 x:Nat->_u->Option R
 r:_u->Option R
def TK.at'{R:Type}(K:TK R):AX->_u->Option R| .normal=>K.n| .exit i=>K.x i| .ret=>K.r
def rbO(c:TO)(v:Bool)(s:_u):_u:=match c with| .t n=>rb n (vb v) s| .c _=>s
def jnO{σ R:Type}(m:Option (σ⊕R))(f:σ->Option R):Option R:=match m with|some (.inl x)=>f x|some (.inr r)=>Z r|none=>Y
def inl?{σ R:Type}(m:Option σ):Option (σ⊕R):=match m with|some x=>Z (.inl x)|none=>Y
def onO{α R:Type}(m:Option α)(k:α->Option R):Option R:=match m with|some x=>k x|none=>Y
theorem tQ{α R:Type}{m:Option α}{k:α->Option R}{r:R}(h:onO m k=Z r): ∃x,m=Z x/\k x=Z r:=by
 cases m with
 |none=>cases h
 |some x=>exact⟨x,rfl,h⟩
def fc{R:Type}(clean:_u->Option _u)(body:(_u->Option R)->_u->Option R):Nat->_u->Option R|0,_=>Y|k+1,s=>body (λs'=>onO (clean s') (fc clean body k)) s
def orO{σ R:Type}(m:Option σ)(f:Unit->Option R):Option (σ⊕R):=match m with|some x=>Z (.inl x)|none=>(f ()).map .inr
noncomputable def trc(G:TG):TCo->(R:Type)->TK R->_u->Option R
 | .skip,_,K,s=>K.n s
 | .bad,_,_,_=>Y
 | .reg _ p ins,_,K,s=>vw G p ins s K.n
 | .seq a b,R,K,s=>trc G a R ⟨λs=>trc G b R K s,K.x,K.r⟩ s
 | .cond c a b,R,K,s=>match tev c s with|some (.a (.c (.d .b x)))=>if x=O then trc G a R K (rbO c O s)else trc G b R K (rbO c J s)|_=>Y
 | .block id c,R,K,s=>trc G c R ⟨K.n,λi s=>if i=id then K.n s else K.x i s,K.r⟩ s
 | .loop live c,R,K,s=>onO (shS ⟨rQ live s.env,s._o⟩) fun(sh,ls)=>
   J4 (λx:(tyL (ls.map (·.1))).D=>onO (xY sh (pT (ls.map (·.1)) x)) λs1=>
    trc G c ((tyL (ls.map (·.1))).D⊕R) ⟨λs'=>onO (tB s._o.length live s') λs'=>orO (GD sh (ls.map (·.1)) s') λ_=>fc (tB s._o.length live) (λagain s=>trc G c R ⟨again,K.x,K.r⟩ s) 3 s',λi s'=>(K.x i s').map .inr,λs'=>(K.r s').map .inr⟩ s1) (yG ls)
 | .scope c,R,K,s=>trc G c R K s
 | .exit id,_,K,s=>K.x id s
 | .ret,_,K,s=>K.r s
 | .keep live c,R,K,s=>trc G c R K ⟨rQ live s.env,s._o⟩
 | .tidy live c,R,K,s=>trc G c R ⟨λs'=>onO (tB s._o.length live s') K.n,λi s'=>onO (tB s._o.length live s') (K.x i),λs'=>onO (tB s._o.length live s') K.r⟩ s
 | .jn sh ts a b,R,K,s=>jnO (trc G a ((tyL ts).D⊕R) ⟨λs'=>inl? (GD sh ts ⟨rQ (sh.env.map (·.1)) s'.env,s'._o⟩),λi s'=>(K.x i s').map .inr,λs'=>(K.r s').map .inr⟩ s)
   λx=>onO (xY sh (pT ts x)) λs1=>trc G b R K s1
theorem ob(live:List Nat)(s:_u):JD ⟨rQ live s.env,s._o⟩=⟨restr live (JD s).env,(JD s)._o⟩:=by simp[JD,QQ]
theorem Nh{c:TO}{x:Bool}{s:_u}(h:tev c s=Z (vb x)):rbO c x s=s:=by
 cases c with
 |t n=>exact jf h
 |c v=>rfl
theorem JJO{σ R:Type}{m:Option σ}{o:σ⊕R}(h:inl? m=Z o): ∃x,m=Z x/\o=.inl x:=by
 cases m with
 |none=>cases h
 |some x=>injection h with h;simp_all
theorem mV{T:dS}{G:TG}(q:GOk (AF T) G): ∀{c:TCo} {R:Type} {K:TK R} {s:_u} {r:R},trc G c R K s=Z r-> ∃o s',X T (erc c) (JD s)=Z (o,JD s')/\K.at' o s'=Z r
 | .skip,R,K,s,r,h=>⟨.normal,s,by simp[erc],h⟩
 | .bad,R,K,s,r,h=>by cases h
 | .reg d p ins,R,K,s,r,h=>by obtain⟨s',h1,h2⟩:=JN2 q h;exact⟨.normal,s',by simp_all [erc,M1],h2⟩
 | .seq a b,R,K,s,r,h=>by
  obtain⟨o,s1,h1,h2⟩:=mV q (c:=a) h;rw[erc,Na,h1];cases o with
  |normal=>obtain⟨o,n,j,g⟩:=mV q (c:=b) h2;exact⟨o,n,j,g⟩
  |exit i=>exact⟨.exit i,s1,rfl,h2⟩
  |ret=>exact⟨.ret,s1,rfl,h2⟩
 | .cond c a b,R,K,s,r,h=>by
  unfold trc at h;split at h;rename_i x v;have e:evv (erO c) (JD s).env=Z (.p (.b x)):=by rw[<-VF (erO c) (JD s),cM v];rfl
  rw[erc,JNt,e,My];split at h;rename_i z;subst z;rw[Nh v]at h;simp only[if_true];exact mV q (c:=a) h;rename_i z;have:x=J:=by simpa using z
  subst this;rw[Nh v]at h;simp only[fK,if_false];exact mV q (c:=b) h;cases h
 | .block id c,R,K,s,r,h=>by
  obtain⟨o,s1,h1,h2⟩:=mV q (c:=c) h;rw[erc,JLG,h1];cases o with
  |normal=>exact⟨.normal,s1,rfl,h2⟩
  |exit i=>
   simp only[Al];simp only[TK.at']at h2;split at h2;rename_i hi;rw[if_pos hi];exact⟨.normal,s1,rfl,h2⟩;rename_i hi;rw[if_neg hi];exact⟨.exit i,s1,rfl,h2⟩
  |ret=>exact⟨.ret,s1,rfl,h2⟩
 | .loop live c,R,K,s,r,h=>by
  unfold trc at h;obtain⟨⟨sh,ls⟩,hs,h⟩:=tQ h;dsimp only at h;have C: ∀(k:Nat) {n:_u} {r:R},fc (tB s._o.length live) (λagain s=>trc G c R ⟨again,K.x,K.r⟩ s) k n=Z r->
    ∃o s',X T (.lp s._o.length live (erc c)) (JD n)=Z (o,JD s')/\K.at' o s'=Z r:=by
   intro k
   induction k with
   |zero=>intro n r h;cases h
   |succ k ih=>
    intro n r h;obtain⟨o,A,h1,h2⟩:=mV q (c:=c) h;rw[vy,h1];cases o with
    |normal=>
     obtain⟨L,hc,h2⟩:=tQ h2;grind [QS,IV]
    |exit i=>exact⟨.exit i,A,rfl,h2⟩
    |ret=>exact⟨.ret,A,rfl,h2⟩
  have B: ∀{x:(tyL (ls.map (·.1))).D} {r:R},J4 (λx:(tyL (ls.map (·.1))).D=>onO (xY sh (pT (ls.map (·.1)) x)) λs1=>
    trc G c ((tyL (ls.map (·.1))).D⊕R) ⟨λs'=>onO (tB s._o.length live s') λs'=>orO (GD sh (ls.map (·.1)) s') λ_=>fc (tB s._o.length live) (λagain s=>trc G c R ⟨again,K.x,K.r⟩ s) 3 s',λi s'=>(K.x i s').map .inr,λs'=>(K.r s').map .inr⟩ s1) x=Z r->
    ∃st,xY sh (pT (ls.map (·.1)) x)=Z st/\ ∃o s',X T (.lp s._o.length live (erc c)) (JD st)=Z (o,JD s')/\K.at' o s'=Z r:=by
   intro x r _d;refine pf (P:=fun(x:(tyL (ls.map (·.1))).D) (r:R)=> ∃st,xY sh (pT (ls.map (·.1)) x)=Z st/\ ∃o s',X T (.lp s._o.length live (erc c)) (JD st)=Z (o,JD s')/\K.at' o s'=Z r) ?_ ?_ _d;intro x r v;obtain⟨st,w,v⟩:=tQ v;obtain⟨o,s1,h1,h2⟩:=mV q (c:=c) v;refine⟨st,w,?_⟩;rw[vy,h1];cases o with
   |normal=>
    obtain⟨n,hc,h2⟩:=tQ h2;unfold orO at h2;grind [Option.map_eq_some_iff,QS,IV]
   |exit i=>obtain⟨r',j,g⟩:=hQ.1 h2;cases g;exact⟨.exit i,s1,rfl,j⟩
   |ret=>obtain⟨r',j,g⟩:=hQ.1 h2;cases g;exact⟨.ret,s1,rfl,j⟩
   rintro x y r v ⟨st',H,o,A,_e,F⟩;obtain⟨st,w,v⟩:=tQ v;obtain⟨E,s1,h1,h2⟩:=mV q (c:=c) v;refine⟨st,w,?_⟩;rw[vy,h1];cases E with
   |normal=>
    obtain⟨n,hc,h2⟩:=tQ h2;unfold orO at h2;grind [Pu,QS,IV,Option.map_eq_some_iff]
   |exit i=>obtain⟨r',_,g⟩:=hQ.1 h2;cases g
   |ret=>obtain⟨r',_,g⟩:=hQ.1 h2;cases g
  obtain⟨st,w,o,s',h1,h2⟩:=B h;rw[ph,Ra hs]at w;grind [erc,JD,JOS,ob]
 | .scope c,R,K,s,r,h=>by
  obtain⟨o,s1,h1,h2⟩:=mV q (c:=c) h;grind [erc,JMa]
 | .exit id,R,K,s,r,h=>⟨.exit id,s,by simp[erc],h⟩
 | .ret,R,K,s,r,h=>⟨.ret,s,by rw[erc,JQL],h⟩
 | .keep live c,R,K,s,r,h=>by
  obtain⟨o,s1,h1,h2⟩:=mV q (c:=c) h;grind [erc,Nl,ob]
 | .tidy live c,R,K,s,r,h=>by
  obtain⟨o,s1,h1,h2⟩:=mV q (c:=c) h;rw[erc,JO9,h1,JBl,show(JD s)._o.length=s._o.length by simp[JD]];cases o with
  |normal=>obtain⟨n,j,g⟩:=tQ h2;rw[IV j];exact⟨.normal,n,rfl,g⟩
  |exit i=>obtain⟨n,j,g⟩:=tQ h2;rw[IV j];exact⟨.exit i,n,rfl,g⟩
  |ret=>obtain⟨n,j,g⟩:=tQ h2;rw[IV j];exact⟨.ret,n,rfl,g⟩
 | .jn sh ts a b,R,K,s,r,h=>by
  unfold trc at h;rw[erc,Na];cases ho:trc G a ((tyL ts).D⊕R) ⟨λs'=>inl? (GD sh ts ⟨rQ (sh.env.map (·.1)) s'.env,s'._o⟩),λi s'=>(K.x i s').map .inr,λs'=>(K.r s').map .inr⟩ s with
  |none=>rw[ho]at h;cases h
  |some res=>
   rw[ho]at h;obtain⟨o,s1,h1,h2⟩:=mV q (c:=a) ho;rw[h1];cases o with
   |normal=>
    obtain⟨x,v,rfl⟩:=JJO h2;obtain⟨n,j,g⟩:=tQ h;rw[Pu v]at j;cases j;obtain⟨o,A,_e,F⟩:=mV q (c:=b) g;grind [QS,Nl,ob]
   |exit i=>obtain⟨r',j,g⟩:=hQ.1 h2;subst g;cases h;exact⟨.exit i,s1,rfl,j⟩
   |ret=>obtain⟨r',j,g⟩:=hQ.1 h2;subst g;cases h;exact⟨.ret,s1,rfl,j⟩
end Go.Am
end
section
namespace Go.Am
structure _t where
 np:Nat
 nt:Nat
 body:TCo
 res:List CN
 fresh:Bool
def aP(f:_t):AFn:=⟨f.np,f.nt,erc f.body,f.res.map erR,f.fresh⟩
def OF:Nat->List TA->List (Nat×TV)|_,[]=>[]|k,x::r=>(k,.a x)::OF (k+1) r
theorem zs(L:Nat->Nat): ∀(k:Nat) (xs:List TA),kL k (xs.map (bY L))=gG L (OF k xs)|_,[]=>rfl|k,x::r=>by have:=zs L (k+1) r;simp only[cJ,kL,OF,gG,this];rfl
noncomputable def mL(G:TG)(f:_t){R:Type}(xs:List TA)(bl:List TB)(E:TV->List TB->Option R):Option R:=if xs.length=f.np then trc G f.body R ⟨λs=>PT f.res f.fresh bl.length s E,λ_ _=>Y,λs=>PT f.res f.fresh bl.length s E⟩ ⟨OF 0 xs,bl⟩else Y
theorem Pc{T:dS}{G:TG}(e:GOk (AF T) G){g:FuncId}{f:_t}(hf:T g=Z (.fn (aP f))){R:Type}{xs:List TA}{bl:List TB}{E:TV->List TB->Option R}{r:R}(h:mL G f xs bl E=Z r):
  ∃v out,AF T g (xs.map (bY (_v bl))) (bl.map (bH (_v bl)))=Z (aZ (_v out) v,out.map (bH (_v out)))/\E v out=Z r:=by
 unfold mL at h;split at h;rename_i y;obtain⟨o,s',h1,h2⟩:=mV e h;have j:JD ⟨OF 0 xs,bl⟩=⟨kL 0 (xs.map (bY (_v bl))),bl.map (bH (_v bl))⟩:=by simp[JD,zs]
 rw[j]at h1;have fin:PT f.res f.fresh bl.length s' E=Z r-> ∃v out,iU (aP f) bl.length (JD s')=Z (aZ (_v out) v,out.map (bH (_v out)))/\E v out=Z r:=
  λh=>JGc rfl rfl h
 have z: ∀q,iU (aP f) bl.length (JD s')=Z q->(o=.normal\/o=.ret)->AF T g (xs.map (bY (_v bl))) (bl.map (bH (_v bl)))=Z q:=by intro q k w;rw[JR1 T hf,if_pos (by rw[eN];exact y),show(aP f).body=erc f.body from rfl,h1,eN];rcases w with rfl|rfl<;>exact k
 cases o with
 |normal=>
  obtain⟨v,out,x,n⟩:=fin h2;grind
 |exit i=>cases h2
 |ret=>
  obtain⟨v,out,x,n⟩:=fin h2;grind
 cases h
structure TE where
 f:FuncId
 go: ∀{R:Type},List TA->List TB->(TV->List (Bool×TB)->Option R)->Option R
 fit:List TA->List TB->Bool
structure EOk(F:Orc)(e:TE):Prop where
 ok: ∀{R:Type} {xs:List TA} {bl:List TB} {kk:TV->List (Bool×TB)->Option R} {r:R},e.go xs bl kk=Z r->
  ∃v out,F e.f (xs.map (bY (_v bl))) (bl.map (bH (_v bl)))=Z (aZ (qV out) v,out.map λx=>bH (qV out) x.2)/\
   (∀(k:Nat) x,out[k]?=Z (O,x)->k<bl.length->lnB x=_v bl k)/\kk v out=Z r
def goE{R:Type}(f:FuncId)(xs:List TA)(bl:List TB)(kk:TV->List (Bool×TB)->Option R):List TE->Option R|[]=>Y|e::r=>if f=e.f/\e.fit xs bl=O then e.go xs bl kk else goE f xs bl kk r
def TG.of(l:List TE):TG:=⟨λf xs bl kk=>goE f xs bl kk l⟩
def uX(F:Orc):List TE->Prop|[]=>True|e::r=>EOk F e/\uX F r
theorem Nr{F:Orc}{R:Type}{f:FuncId}{xs:List TA}{bl:List TB}{kk:TV->List (Bool×TB)->Option R}{r:R}: ∀{l:List TE},uX F l->goE f xs bl kk l=Z r->
  ∃v out,F f (xs.map (bY (_v bl))) (bl.map (bH (_v bl)))=Z (aZ (qV out) v,out.map λx=>bH (qV out) x.2)/\
   (∀(k:Nat) x,out[k]?=Z (O,x)->k<bl.length->lnB x=_v bl k)/\kk v out=Z r
 |[],_,h=>by cases h
 |e::l,g,h=>by
  simp only[goE]at h;split at h;rename_i j;obtain⟨rfl,_⟩:=j;exact g.1.ok h;exact Nr g.2 h
theorem Nt{F:Orc}{l:List TE}(h:uX F l):GOk F (TG.of l):=⟨λe=>Nr h e⟩
structure _x where
 args:List ShA
 _q:List ShB
 ti:List Ty
 res:ShV
 out:List ShB
 same:List Bool
 to:List Ty
def hO(g:_x)(x:(tyL g.ti).D):Option (List TA×List TB):=match mkL mkA g.args (pT g.ti x)with
 |some (xs,l)=>match mkL mkB g._q l with|some (bl,[])=>Z (xs,bl)|_=>Y
 |none=>Y
def vB(g:_x)(xs:List TA)(bl:List TB):Option (tyL g.ti).D:=match shL shA xs,shL shB bl with|some (a,l),Z (c,k)=>if a=g.args/\c=g._q then asL g.ti (l++k)else Y|_,_=>Y
theorem Qf{g:_x}{xs:List TA}{bl:List TB}{x:(tyL g.ti).D}(h:vB g xs bl=Z x):hO g x=Z (xs,bl):=by
 unfold vB at h;split at h;rename_i a l c k h1 h2;split at h;rename_i j;obtain⟨rfl,rfl⟩:=j;have e:=rO jv h2 [];rw[gE]at e;unfold hO;rw[je h,rO j6 h1 k];simp only[e];cases h;cases h
def HD(g:_x)(y:(tyL g.to).D):Option (TV×List TB):=match mkV g.res (pT g.to y)with
 |some (v,l)=>match mkL mkB g.out l with|some (out,[])=>Z (v,out)|_=>Y
 |none=>Y
def iP(g:_x)(v:TV)(out:List TB):Option (tyL g.to).D:=match shV v,shL shB out with|some (a,l),Z (c,k)=>if a=g.res/\c=g.out then asL g.to (l++k)else Y|_,_=>Y
theorem R4{g:_x}{v:TV}{out:List TB}{y:(tyL g.to).D}(h:iP g v out=Z y):HD g y=Z (v,out):=by
 unfold iP at h;split at h;rename_i a l c k h1 h2;split at h;rename_i j;obtain⟨rfl,rfl⟩:=j;have e:=rO jv h2 [];rw[gE]at e;unfold HD;rw[je h,Nx h1 k];simp only[e];cases h;cases h
def flg(same:List Bool)(out:List TB):List (Bool×TB):=match same,out with|b::r,x::l=>(b,x)::flg r l|[],x::l=>(J,x)::flg [] l|_,[]=>[]
theorem zM: ∀(same:List Bool) (out:List TB),(flg same out).map (·.2)=out|[],[]=>rfl|[],x::l=>by simp only[flg,cJ,zM [] l]|b::r,[]=>rfl|b::r,x::l=>by simp only[flg,cJ,zM r l]
def aH(f:FuncId)(g:_x)(S:(tyL g.ti).D->Option (tyL g.to).D):TE:=
 ⟨f,λxs bl kk=>match vB g xs bl with
  |some x=>(S x).bind λy=>match HD g y with|some (v,out)=>kk v (flg g.same out)|none=>Y
  |none=>Y,λxs bl=>(vB g xs bl).isSome⟩
def wc:ShB->Bool| .arr _ _=>J|_=>O
def HY(g:_x):Bool:=(List.range g.same.length).all λk=>match g.same[k]?,g._q[k]?,g.out[k]? with|some O,Z a,Z c=>wc a&&wc c|some O,Z _,Y=>J|_,_,_=>O
theorem Aj{x:TB}{s:ShB}{ls:List Lf}(h:shB x=Z (s,ls))(hb:wc s=O):lnB x=0:=by
 cases x with
 |arr w t _f=>injection h with h;injection h with h1;subst h1;cases hb
 |_=>rfl
theorem yn{α σ:Type}{f:α->Option (σ×List Lf)}: ∀{xs:List α} {e:List σ} {ls:List Lf},shL f xs=Z (e,ls)-> ∀(k:Nat) x,xs[k]?=Z x-> ∃s l,e[k]?=Z s/\f x=Z (s,l)
 |[],_,_,_,k,x,hk=>by simp at hk
 |y::r,e,ls,h,k,x,hk=>by
  simp only[shL]at h;split at h;rename_i s l q k' h1 h2;injection h with h;injection h with h3 h4;subst h3 h4;cases k with
  |zero=>simp_all
  |succ k=>exact yn h2 k x (by simpa using hk)
  cases h
theorem VK: ∀{same:List Bool} {out:List TB} {k:Nat} {x:TB},(flg same out)[k]?=Z (O,x)->same[k]?=Z O/\out[k]?=Z x
 |[],[],k,x,h=>by simp[flg]at h
 |[],y::l,k,x,h=>by
  cases k with
  |zero=>simp[flg]at h
  |succ k=>simp only[flg,List.getElem?_cons_succ]at h;have:=VK (same:=[]) h;simp at this
 |b::r,[],k,x,h=>by simp[flg]at h
 |b::r,y::l,k,x,h=>by
  cases k with
  |zero=>grind [flg]
  |succ k=>simp only[flg,List.getElem?_cons_succ]at h;simpa using VK h
theorem PE{T:dS}{f:FuncId}{g:_x}{S:(tyL g.ti).D->Option (tyL g.to).D}(hs:HY g=O)
  (h: ∀x xs bl y,hO g x=Z (xs,bl)->S x=Z y-> ∃v out,AF T f (xs.map (bY (_v bl))) (bl.map (bH (_v bl)))=Z (aZ (_v out) v,out.map (bH (_v out)))/\iP g v out=Z y):EOk (AF T) (aH f g S):=by
 refine⟨fun{R xs bl kk r} j=>?_⟩;simp only[aH]at j;split at j;rename_i x n;obtain⟨y,K,j⟩:=bV.1 j;split at j;rename_i v out o;obtain⟨B,e,h1,h2⟩:=h x xs bl y (Qf n) K;rw[R4 h2]at o;injection o with o;injection o with hv1 hv2;subst hv1 hv2;refine⟨B,flg g.same e,?_,λk z _d hk=>?_,j⟩;unfold qV;rw[zM];have:(flg g.same e).map (λx=>bH (_v e) x.2)=e.map (bH (_v e)):=by
  conv=>rhs;rw[<-zM g.same e,BR]
  simp[zM]
 rw[this];exact h1;obtain⟨q,w⟩:=VK _d;unfold HY at hs;rw[List.all_eq_true]at hs;have hs:=hs k (by grind);unfold vB at n;split at n;rename_i a l c k' U _e;split at n;rename_i G;obtain⟨Q,_c,H,L⟩:=yn _e k _ (bF hk);unfold iP at h2;split at h2;rename_i W _b N P V F;split at h2;rename_i A;obtain⟨sc,M,E,C⟩:=yn F k z w;rw[q,<-G.2,H,<-A.2,E]at hs;simp only[bB]at hs;rw[Aj C hs.2];unfold _v;rw[bF hk];exact(Aj L hs.1).symm;cases h2;cases h2;cases n;cases n;cases j;cases j
theorem xb{T:dS}{f:FuncId}{g:_x}{fn:_t}{S:(tyL g.ti).D->Option (tyL g.to).D}{l:List TE}(hf:T f=Z (.fn (aP fn)))(hl:uX (AF T) l)(hs:HY g=O)
  (h: ∀x,onO (hO g x) (λy=>mL (TG.of l) fn y.1 y.2 (iP g))=S x):EOk (AF T) (aH f g S):=by
 refine PE hs λx xs bl y k j=>?_;have e:=h x;rw[k,j]at e;exact Pc (Nt hl) hf e
def jS{α β:Type}(S:(α->Option β)->α->Option β):Nat->α->Option β|0=>λ_=>Y|n+1=>S (jS S n)
theorem kg{T:dS}{f:FuncId}{g:_x}{fn:_t}{S:((tyL g.ti).D->Option (tyL g.to).D)->(tyL g.ti).D->Option (tyL g.to).D}{l:List TE}(hf:T f=Z (.fn (aP fn)))(hl:uX (AF T) l)(hs:HY g=O)
  (h: ∀r x,onO (hO g x) (λy=>mL (TG.of (aH f g r::l)) fn y.1 y.2 (iP g))=S r x): ∀n,EOk (AF T) (aH f g (jS S n))
 |0=>PE hs λx xs bl y j e=>by cases e
 |n+1=>xb hf (l:=aH f g (jS S n)::l) (And.intro (kg hf hl hs h n) hl) hs (h (jS S n))
end Go.Am
end
section
namespace Go.Am
end Go.Am
end
section
namespace Go.Am
def zG(t:Ty):_x:=⟨[.c (.d (.l t))],[],[.l t],.a (.c (._r 0)),[.arr O t],[],[.l t]⟩
def MN(e:Nat):Opd:=.c (.p (.sl e []))
def HW(t:Ty)(bytes:Nat):lN:=⟨1,8,.reg J [] [⟨.mkarr t.sz (MN t.sz),Z 2,Y⟩],[],.reg J [] [⟨.mv (.t 0),Z 3,Y⟩,⟨.bin .eql .nils (.t 3) (MN t.sz),Z 4,Y⟩],.t 4,.seq (.reg J [] [⟨.mkarr t.sz (MN t.sz),Z 2,Y⟩]) .ret,.skip,.seq (.reg J [] [⟨.lits O t.sz 0 (zer t) [],Z 5,Y⟩,⟨.mv (.t 0),Z 6,Y⟩,⟨.app t.sz bytes (zer t) (.t 5) (.t 6),Z 7,Y⟩,⟨.mv (.t 7),Z 2,Y⟩]) .ret,[.tmp 2],O⟩
theorem JKZ{T:dS}{f:FuncId}{t:Ty}{bytes:Nat}(hf:T f=Z (.fork (HW t bytes))){x y:List t.D}(h:bU bytes x=Z y):
  AF T f [.p (.sl t.sz (x.map (_A t)))] []=Z (._r 0 0 y.length,[.arr O t.sz (y.map (_A t))]):=by
 unfold bU at h;split at h;rename_i h2;cases h;rw[JNg _ hf];cases x with
 |nil=>
  have e:512*bytes<=281474976710656:=by simp_all
  simp[HW,MN,vJ,uS,lN.af,e]
 |cons a r=>simp at h2;simp[HW,MN,vJ,uS,lN.af,h2]
 cases h
theorem JJz(t:Ty)(x:List t.D):hO (zG t) x=Z ([.c (.d (.l t) x)],[]):=by
 have h:lf1 (.l t) [⟨.l t,x⟩]=Z (x,[]):=vR (.l t) x [];show(match mkL mkA [.c (.d (.l t))] [(⟨.l t,x⟩:Lf)]with
  |some (xs,l)=>match mkL mkB (zG t)._q l with|some (bl,[])=>Z (xs,bl)|_=>Y
  |none=>Y)=_
 simp only[mkL,mkA,mkC,h];rfl
theorem JGP(t:Ty)(y:List t.D):iP (zG t) (.a (.c (._r 0))) [.arr O t y]=Z y:=by show(if(ShV.a (.c (._r 0))=(zG t).res/\[ShB.arr O t]=(zG t).out)then asL [.l t] [⟨.l t,y⟩]else Y)=Z y;rw[if_pos ⟨rfl,rfl⟩];simp[asL,yG];rfl
theorem R6{T:dS}{f:FuncId}{t:Ty}{bytes:Nat}(hf:T f=Z (.fork (HW t bytes))):EOk (AF T) (aH f (zG t) (bU bytes)):=by refine PE rfl λx xs bl y e g=>?_;rw[JJz t x]at e;injection e with e;injection e with h1 h2;subst h1 h2;exact⟨.a (.c (._r 0)),[.arr O t y],JKZ hf g,JGP t y⟩
end Go.Am
end
section
namespace Go.Am
noncomputable section
structure DS where
 i:Nat
 stk:List Nat
 lv:List (List Nat)
variable {R:Type}
def frc(n:Nat)(k:Nat->R)(z:R):R:=Nat.rec (motive:=λ_=>R) z (λm _=>k m) (Nat.add n 1)
def lkL{α:Type}:List α->Nat->R->(α->R)->R|[],_,z,_=>z|a::_,0,_,k=>k a|_::r,n+1,z,k=>lkL r n z k
structure CE where
 k:Nat
 nf:Nat
 bs:Nat
 ty:Ty
structure DT where
 D:Nat
 V:Nat
 tys:List (Nat×CE)
 ko:List (Nat×List Nat×Nat)
 nk:List (Nat×Nat)
def exs(D V:Nat)(z:R)(k:Nat->List Nat->R):Nat->Nat->List Nat->R
 |0,_,_=>z
 |f+1,s,st=>cond (Nat.ble V s)
  (frc (Nat.shiftRight D (Nat.mul 22 (Nat.sub s V))) (λp=>frc (Nat.mod p 2048) (λa=>frc (Nat.mod (Nat.shiftRight p 11) 2048) (λb=>exs D V z k f a (b::st)) z) z) z)
  (k s st)
section
variable (T:DT) (N:Nat) (z:R)
def sym(s:DS)(k:Nat->DS->R):R:=match s with|⟨i,[],lv⟩=>frc (Nat.mod (Nat.shiftRight N (Nat.mul 11 i)) 2048) (λc=>frc (Nat.add i 1) (λj=>exs T.D T.V z (λa st=>k a ⟨j,st,lv⟩) 60 c []) z) z|⟨i,c::r,lv⟩=>exs T.D T.V z (λa st=>k a ⟨i,st,lv⟩) 60 c r
def num(s:DS)(k:Nat->DS->R):R:=sym T N z s λa s=>cond (Nat.ble 64 a) (sym T N z s λb s=>frc (Nat.add (Nat.mul (Nat.sub a 64) 64) b) (λn=>k n s) z) (k a s)
def Kk{α:Type}(e:DS->(α->DS->R)->R):Nat->DS->(List α->DS->R)->R|0,s,k=>k [] s|n+1,s,k=>e s λx s=>Kk e n s λr s=>k (x::r) s
def lst{α:Type}(e:DS->(α->DS->R)->R)(s:DS)(k:List α->DS->R):R:=num T N z s λn s=>Kk e n s k
def dL(s:DS)(k:List Nat->DS->R):R:=num T N z s λn s=>cond (Nat.beq n 0) (lst T N z (num T N z) s λl s=>k l ⟨s.i,s.stk,l::s.lv⟩) (frc (Nat.sub n 1) (λn=>lkL s.lv n z λl=>k l s) z)
def dX(s:DS)(k:(Nat×Nat×List Nat)->DS->R):R:=num T N z s λn s=>num T N z s λv s=>lst T N z (num T N z) s λl s=>k (n,v,l) s
def dN2(s:DS)(k:(Nat×Nat)->DS->R):R:=num T N z s λn s=>num T N z s λm s=>k (n,m) s
end
def MT:List (Nat×CE)->Nat->CE|[],_=>⟨0,0,0,.u⟩|(a,e)::r,t=>cond (Nat.beq a t) e (MT r t)
def wn{α:Type}:List (Nat×α)->Nat->Option α|[],_=>Y|(a,e)::r,t=>cond (Nat.beq a t) (Z e) (wn r t)
def pN:Ty->Ty| .l e=>e| .ar _ e=>e|t=>t
def fi:Nat->Nat->Ty->Nat×Ty
 |n+2,0,.pr a _=>(0,a)
 |n+1,k+1,.pr a q=>match fi n k q with|(o,t)=>(a.sz+o,t)
 |_,_,t=>(0,t)
def e8:Nat->Nat->Ty->Ty|f+1,o,.pr a q=>cond (Nat.ble a.sz o) (e8 f (o-a.sz) q) (e8 f o a)|_,_,t=>pN t
def we:Ty->Bool| .pr _ _=>O| .ar _ _=>O| .u=>O|_=>J
def agE(e:CE):Bool:=match e.k with|2=>J|4=>O|_=>we e.ty
def cvD:(t:Ty)->List Value->t.D×List Value
 | .b,.bool x::r=>(x,r)
 | .i _,.int _ n::r=>(n,r)
 | .s,.string s::r=>(s.data.toList,r)
 | .l _,_::r=>([],r)
 | .pr a q,l=>match cvD a l with|(x,r)=>match cvD q r with|(y,r)=>((x,y),r)
 | .ar n e,l=>(Ty.zero (.ar n e),l.drop (n*e.sz))
 |t,l=>(t.zero,l)
def cK(t:Ty):Value->TO| .int k n=>.c (vi k n)| .bool x=>.c (vb x)| .string s=>.c (vs s.data.toList)| .slice _ _ _=>.c (vl (pN t) [])| .pointer _=>.c (.a (.c .np))| .nilFunc=>.c (.a (.c (.d .f ())))| .func (.func f) _ _=>.c (.a (.fn f [] []))| .agg cs=>.c (.a (.dt t (cvD t cs.toList).1))|_=>.c uv
def cO(t:Ty):Operand->TO| .tmp n=>.t n| .const v=>cK t v| .func f=>.c (.a (.fn f [] []))| .global _=>.c uv
def cOm:Option Operand->Option TO|none=>Y|some x=>Z (cO .u x)
def cOs:List Operand->List TypeId->List (Nat×CE)->List TO|[],_,_=>[]|x::r,[],T=>cO .u x::cOs r [] T|x::r,t::ts,T=>cO (MT T t).ty x::cOs r ts T
def Mz:Nat->List TO->List Nat->List (TO×Bool)|_,[],_=>[]|n,x::r,l=>(x,l.any (Nat.beq n))::Mz (n+1) r l
section
variable (T:DT)
def cOp(o:Oper)(v:Nat)(os:List Nat):TOp:=
 let E:=MT T.tys
 let y:=λt=>(E t).ty
 match o.op with
 | .move x=>(match v with
  |1=>.mkarr (pN (y o.type)) (cO (y o.type) x)
  |_=>.mv (cO (y o.type) x))
 | .assign x=>(match v with
  |1=>.mkarr (pN (y o.type)) (cO (y o.type) x)
  |_=>.mv (cO (y o.type) x))
 | .pick c a b=>.pick (cO .u c) (cO (y o.type) a) (cO (y o.type) b)
 | .alloc t=>(match v with
  |1=>.newboxo (y t) (os.map λn=>(n,e8 30 n (y t)))
  |_=>.newbox (y t))
 | .box t x=>.box (y t) (cO (y t) x)
 | .build t ps=>
  let ps:=ps.toList.map λp=>match y t with| .ar _ e=>(p.1*e.sz,e,cO e p.2)|w=>match fi (E t).nf p.1 w with|(n,g)=>(n,g,cO g p.2)
  (match v with
  |1=>.buildo (y t) ps (os.map λn=>(n,e8 30 n (y t)))
  |_=>.build (y t) ps)
 | .buildSlice t n ps=>.lits (Nat.beq v 1) (pN (y t)) n (ps.toList.map λp=>(p.1,cO (pN (y t)) p.2))
 | .load t x=>.load (agE (E t)) (y t) (cO .u x)
 | .store t x u=>(match v with
  |1=>.storen (pN (y t)) (cO .u x)
  |_=>.store (y t) (cO .u x) (cO (y t) u))
 | .nilCheck x=>.nilchk (cO .u x)
 | .binOp op t a b _=>.bin op (match(E t).k,y t with
  |2,_=>.nilp
  |3,_=>.nilf
  |_,.b=>.bool
  |_,.pr p q=>.flat (.pr p q)
  |_,.ar n e=>.flat (.ar n e)
  |_,_=>.plain) (cO (y t) a) (cO (y t) b)
 | .unOp op t x=>.un op (cO (y t) x)
 | .convert s d x=>.conv (match y s,y d with
  | .s,.s=>.same
  | .s,.l _=>.toBytes (Nat.beq v 1)
  | .l _,.s=>._C
  |_,.i k=>.int k
  |_,_=>.same) (cO (y s) x)
 | .makeSlice t l c=>._D (Nat.beq v 1) (pN (y t)) (E t).bs (cO .u l) (cO .u c)
 | .slice t x lo hi mx=>(match v,lo,hi with
  |_,_,_=>.slice (match y t with
   | .s=>.str
   |t=>.sl (pN t)) (cO (y t) x) (cOm lo) (cOm hi) (cOm mx))
 | .fieldAddr t x f=>.faddr (fi (E t).nf f (y t)).1 (cO .u x)
 | .field t x f=>(match fi (E t).nf f (y t)with
  |(n,w)=>.field (we w) n w (cO (y t) x))
 | .indexAddr t x i=>(match y t with
  | .ar n e=>.aaddr n e.sz (cO .u x) (cO .u i)
  |w=>.iaddr (pN w) (cO w x) (cO .u i))
 | .index t x i=>(match y t with
  | .ar n e=>.aidx (we e) n e (cO (.ar n e) x) (cO .u i)
  |w=>.sidx (cO w x) (cO .u i))
 | .extract x i=>.extr (cO .u x) i
 | .makeFunc (.func f) a c=>.mkfn f (a.toList.map (cO .u)) (c.toList.map (cO .u))
 | .call c=>(match c.callee with
  | .value (.func f)=>(match wn T.ko f with
   |some (l,n)=>.callo f (Mz 0 (cOs c.args.toList c.argTypes.toList T.tys) l) n
   |none=>.call f (cOs c.args.toList c.argTypes.toList T.tys) ((wn T.nk f).getD 0))
  | .value g=>.callv (cO .u g) (cOs c.args.toList c.argTypes.toList T.tys) 0
  | .builtin b=>(match b,c.argTypes.toList,c.args.toList with
   | .len,t::_,x::_=>(match y t with
    | .s=>.len O (cO .s x)
    |w=>.len J (cO w x))
   | .append,t::u::_,x::q::_=>(match v,x with
    |_,.const _=>.appn (pN (y t)) (E t).bs (cO (y u) q)
    |_,_=>.app (pN (y t)) (E t).bs (cO (y t) x) (cO (y u) q))
   | .max,_,x::q::_=>.mm O (cO .u x) (cO .u q)
   | .min,_,x::q::_=>.mm J (cO .u x) (cO .u q)
   |_,_,_=>.newbox .u)
  |_=>.newbox .u)
 |_=>.newbox .u
structure CS where
 i:Nat
 n:Nat
 xs:List (Nat×Nat×List Nat)
 ts:List Nat
 ps:List (List (Nat×Nat))
 ls:List (List Nat)
variable (z:R)
def gdO(a:List Oper):Option (Nat×Bool)->Option (Nat×Bool)|none=>Y|some (n,b)=>lkL a n Y λo=>match o.dst with|some d=>Z (d,b)|none=>Y
def cIs(a:List Oper):List Oper->CS->(List kK->CS->R)->R
 |[],s,k=>k [] s
 |o::r,⟨i,n,xs,ts,ps,ls⟩,k=>frc (Nat.add i 1) (λj=>match xs with
  |(m,v,os)::q=>cond (Nat.beq m i) (cIs a r ⟨j,n,q,ts,ps,ls⟩ λl s=>k (⟨cOp T o v os,o.dst,gdO a o.guard⟩::l) s) (cIs a r ⟨j,n,xs,ts,ps,ls⟩ λl s=>k (⟨cOp T o 0 [],o.dst,gdO a o.guard⟩::l) s)
  |[]=>cIs a r ⟨j,n,[],ts,ps,ls⟩ λl s=>k (⟨cOp T o 0 [],o.dst,gdO a o.guard⟩::l) s) z
def nxL(s:CS)(k:List Nat->CS->R):R:=match s with|⟨i,n,xs,ts,ps,l::ls⟩=>k l ⟨i,n,xs,ts,ps,ls⟩|_=>z
def nxN(s:CS)(k:(TCo->TCo)->CS->R):R:=match s with
 |⟨i,n,xs,ts,ps,ls⟩=>frc (Nat.add n 1) (λm=>match ts with
  |t::r=>cond (Nat.beq t n) (nxL z ⟨i,m,xs,r,ps,ls⟩ λl s=>k (.tidy l) s) (k (λc=>c) ⟨i,m,xs,ts,ps,ls⟩)
  |[]=>k (λc=>c) ⟨i,m,xs,[],ps,ls⟩) z
def JR0:Code->Bool| .skip=>O| .label _=>O| .ret=>O| .exit _=>O|_=>J
def vd:CS->Bool|⟨_,n,_,t::_,_,_⟩=>Nat.beq t (Nat.add n 2000)|_=>J
def ve(s:CS)(k:TCo->CS->R):R:=match s with|⟨i,n,xs,ts,ps,ls⟩=>frc (Nat.add n 1) (λm=>k .bad ⟨i,m,xs,ts.tail,ps,ls⟩) z
def cC:Code->CS->(TCo->CS->R)->R
 | .region _ ops d,s,k=>nxN z s λw s=>cIs T z ops.toList ops.toList s λl s=>match d,s with|true,⟨i,n,xs,ts,p::ps,ls⟩=>k (w (.reg O p l)) ⟨i,n,xs,ts,ps,ls⟩|_,s=>k (w (.reg J [] l)) s
 | .seq a b,s,k=>nxN z s λw s=>cC a s λx s=>cond (JR0 b) (cC b s λy s=>k (w (.seq x y)) s)
  (nxL z s λl s=>(cond (vd s) (ve z s) (cC b s)) λy s=>k (w (.seq x (.keep l y))) s)
 | .cond c a b,s,k=>nxN z s λw s=>(cond (vd s) (ve z s) (cC a s)) λx s=>(cond (vd s) (ve z s) (cC b s)) λy s=>k (w (.cond (cO .u c) x y)) s
 | .block id c,s,k=>nxN z s λw s=>cC c s λx s=>k (w (.block id x)) s
 | .loop c,s,k=>nxN z s λw s=>nxL z s λl s=>cC c s λx s=>k (w (.loop l x)) s
 | .scope c,s,k=>nxN z s λw s=>cC c s λx s=>k (w (.scope x)) s
 | .exit id,s,k=>nxN z s λw s=>k (w (.exit id)) s
 | .ret,s,k=>nxN z s λw s=>k (w .ret) s
 | .skip,s,k=>nxN z s λw s=>k (w .skip) s
 | .label _,s,k=>nxN z s λw s=>k (w .skip) s
 |_,s,k=>nxN z s λw s=>k (w .bad) s
end
def cRs(T:DT):ResultVar->CN| .tmp t=>.tmp t| .cell a t=>.cell a (agE (MT T.tys t)) (MT T.tys t).ty
noncomputable def cF(T:DT)(f:Func)(N:Nat):_t:=
 let z:_t:=⟨0,0,.bad,[],J⟩
 num T N z ⟨0,[],[]⟩ λfr s=>lst T N z (dX T N z) s λxs s=>lst T N z (num T N z) s λts s=>lst T N z (lst T N z (dN2 T N z)) s λps s=>lst T N z (dL T N z) s λls _=>
  match f.body with
  |some c=>cC T z c ⟨0,0,xs,ts,ps,ls⟩ λc _=>⟨f.params.size+f.nfree,f.ntmps,c,f.results.toList.map (cRs T),Nat.beq fr 1⟩
  |none=>z
end
abbrev gD(t:Ty):ShA:=.dt t
abbrev gC(t:Ty):ShA:=.c (.d t)
abbrev gI:ShA:=.c (.d (.i I))
def shT:ShA->Ty| .dt t=>t| .c (.d t)=>t|_=>.u
def gS(a r:List ShA):_x:=⟨a,[],a.map shT,match r with
 |[x]=>.a x
 |l=>.tup l,[],[],r.map shT⟩
end Go.Am
end
