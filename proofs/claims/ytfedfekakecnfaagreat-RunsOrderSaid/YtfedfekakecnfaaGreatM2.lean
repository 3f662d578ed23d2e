/-
  Parts of a proof.
-/
import Derived.Orders
import Derived.LoopN
import Derived.Scope
import Derived.Below
import Derived.Test.YtfedfekakecnfaaGreatM1
set_option linter.unusedSimpArgs false
set_option linter.unusedVariables false
section
namespace Go.Am
section
variable {P:Program} {F:Orc} {s:Sn} {a:Act} {env:List (Nat×AV)} {o:Oper} {new:Nat} {e:Eff}
theorem dk: ∀(os:List (Nat×Nat)) (n:Nat) {s:Sn},Inv s->(∀j,j<os.length->s.σ[n+j]?=some .dead)->
  ∃g',Inv ⟨upd (gT os n) s.σ,g',s.w⟩/\bC s ⟨upd (gT os n) s.σ,g',s.w⟩/\
   (∀j,j<os.length->(∃esz,(upd (gT os n) s.σ)[n+j]?=some (.arr true esz []))/\g'.μ (n+j)=none)/\
   (∀b,b<n\/n+os.length<=b->(upd (gT os n) s.σ)[b]?=s.σ[b]?/\g'.μ b=s.g.μ b)
 |[],n,s,hi,_=>⟨s.g,hi,.refl s,λj e=>by simp at e,λb _=>⟨rfl,rfl⟩⟩
 |(off,esz)::r,n,s,hi,hd=>by
  obtain⟨i1,v⟩:=QN hi (hd 0 (by simp)) esz;obtain⟨g',i2,q,h1,h2⟩:=dk r (n+1) (s:=⟨s.σ.set n (.arr true esz []),eS s.g n none,s.w⟩) i1 (λj e=>by
   show(s.σ.set n _)[n+1+j]?=_;rw[rK (by omega)];have:=hd (j+1) (by simp;omega);grind)
  refine⟨g',i2,v.trans q,λj e=>?_,λb x=>?_⟩;cases j with
  |zero=>
   obtain⟨o,k⟩:=h2 n (.inl (by omega));refine⟨⟨esz,?_⟩,?_⟩;grind [upd,gT];rw[sV,k];exact if_pos rfl
  |succ j=>have:=h1 j (by simpa using e);rw[show n+(j+1)=n+1+j by omega];exact this
  obtain⟨o,k⟩:=h2 b (by grind);have h:n≠b:=by grind
  exact⟨o.trans (rK h),k.trans (if_neg (Ne.symm h))⟩
theorem tp{t:TypeId}{os:List (Nat×Nat)}{v:Value}(hv:zeT P t=some v)(h:OG P t os=true): ∀x∈os,v.cells[x.1]?=some (.slice none 0 0):=by
 grind [OG]
theorem dj{cells:Array Value}: ∀(os:List (Nat×Nat)) (n:Nat) {cs:List AV},(∀x∈os,cells[x.1]?=some (.slice none 0 0))->
  (∀j,j<os.length->(∃esz,s.σ[n+j]?=some (.arr true esz []))/\s.g.μ (n+j)=none)->
  (∀(i:Nat) x,cs[i]?=some x-> ∃u,cells[i]?=some u/\JF s x u/\u.oneCell'=true)->
  ∀(i:Nat) x,(lQ os n cs)[i]?=some x-> ∃u,cells[i]?=some u/\JF s x u/\u.oneCell'=true
 |[],_,_,_,_,h=>h
 |(off,esz)::r,n,cs,hz,ha,h=>by
  refine dj r (n+1) (λx e=>hz x (by simp[e])) (λj q=>by
   have:=ha (j+1) (by simpa using q);grind) λi x e=>?_
  by_cases hi:off=i;subst hi;have k:=Jy e;rw[List.length_set]at k;rw[DR k]at e;injection e with e;subst e;obtain⟨⟨o,h1⟩,h2⟩:=ha 0 (by simp);rw[sV]at h1 h2;exact⟨.slice none 0 0,hz (off,esz) (by simp),.slr n 0 0 _ true o [] ⟨none,0,rfl,.inl rfl⟩ h1 (zQ0 _) λ_=>.inl ⟨h2,rfl,rfl,rfl⟩,rfl⟩;simp_all
theorem ec: ∀(os:List (Nat×Nat)) (n:Nat) (cs:List AV),(lQ os n cs).length=cs.length|[],_,_=>rfl|_::r,n,cs=>(ec r (n+1) _).trans (by simp)
theorem JBw(hi:Inv s){zero os}(n: ∀j,j<os.length+1->s.σ[new+j]?=some .dead)(h:(opR F (.newboxo zero os) new).run ⟨env,s.σ⟩=some e)(hc:bA P (.newboxo zero os) o.op=true):bP P o a s e:=by
 simp only[opR,RM.run]at h;injection h with h;subst h;unfold bA at hc;simp only at hc;split at hc;rename_i t J;simp only[aT]at hc;obtain⟨B,E⟩:=hc;obtain⟨v,G,L,D⟩:=AL B;obtain⟨r,i1,z,h1,h2⟩:=dk os new hi λj N=>n j (by omega);have hd:(upd (gT os new) s.σ)[new+os.length]?=some .dead:=((h2 _ (.inr (zQ0 _))).1).trans (n _ (by omega))
 let s1:Sn:=⟨upd (gT os new) s.σ,r,s.w⟩
 obtain⟨A,t'⟩:=QI (s0:=s1) i1 hd (blk:=.box (lQ os new (zero.map .p))) (c:=v.cells) (e:=t) (fz:=(0,0)) (w':={s.w with heap:=s.w.heap.push (.cells v.cells t)}) rfl rfl rfl
  (λo _ _ h=>by simp at h) (λ_ _ _ h=>by cases h) ⟨by grind [ec],λi x q=>by
   obtain⟨u,M,K,I⟩:=dj (s:=s1) (cells:=v.cells) os new (tp G E) h1 (λi x q=>by
    rw[fF]at q;cases hzi:zero[i]? with
    |none=>simp_all
    |some c=>
     simp[hzi]at q;subst q;have H:=Jy hzi;have y:i<v.cells.size:=by omega
     have:=D (w:=s1.w) (C:=s1.g.C) i c v.cells[i] hzi (by simp);exact⟨v.cells[i],by simp,.p _ _ this,this.one⟩) i x q
   simp_all⟩
 have k:upd (gT os new++[(new+os.length,Blk.box (lQ os new (zero.map .p)))]) s.σ=(upd (gT os new) s.σ).set (new+os.length) (.box (lQ os new (zero.map .p))):=by rw[eM];rfl
 refine hU (e:=⟨.ptr (new+os.length) 0,gT os new++[(new+os.length,.box (lQ os new (zero.map .p)))]⟩) (v:=.pointer (some ⟨s.w.heap.size,0,none⟩)) (g':=eS r (new+os.length) (some (s.w.heap.size,0))) ?_
  (by rw[k];exact A) (by rw[k];exact z.trans t') (by rw[k];exact .ptr (new+os.length) 0 _ 0 (if_pos rfl) ⟨_,jM hd⟩)
 simp_all [execOp,Instr.alloc,FQ,newVar,newRow];cases hc
theorem JEo(hi:Inv s)(he:bN s a.tmps env)(hn:s.σ[new]?=some .dead){esz x}(h:(opR F (.storen esz x) new).run ⟨env,s.σ⟩=some e)(hc:bA P (.storen esz x) o.op=true):bP P o a s e:=by
 simp only[opR]at h;obtain⟨u,h1,M⟩:=bind_some h;obtain⟨I,h2,B⟩:=bind_some M;clear h M;simp only[RM.run]at B;injection B with B;subst B;obtain⟨K,t0⟩:=QN hi hn esz;unfold bA at hc;simp only at hc;split at hc;rename_i t N af;simp only[aT,beq_iff_eq]at hc;obtain⟨hs,hx⟩:=hc;have v:=bK he h1 hx;have O: ∀{r n:Nat} {w':World},a.eval N=.pointer (some ⟨r,n,none⟩)->(storeVar t ⟨r,n,none⟩ (.slice none 0 0)).run P s.w=.ok () w'->(execOp a.eval o).run P s.w=.ok .skip w':=by intro r n w' R a8;have ab:a.eval (.const (.slice none 0 0))=.slice none 0 0:=rfl;simp_all [execOp,Instr.storeAt,Instr.sureAddr]
 unfold hQ at h2;split at h2;rename_i b off;simp only[RM.run]at h2;split at h2;rename_i blk H;split at h2;rename_i cs;split at h2;rename_i l hl;split at h2;rename_i a5;split at h2;rename_i cs' D;simp only[RM.run]at h2;injection h2 with h2;subst h2;have H:s.σ[b]?=some (.box cs):=H;have Q:new≠b:=λe=>by simp_all
 let s1:Sn:=⟨s.σ.set new (.arr true esz []),eS s.g new none,s.w⟩
 have C:s1.σ[b]?=some (.box cs):=(rK Q).trans H;have Y:JF s1 (.slr new 0 0) (.slice none 0 0):=
  .slr new 0 0 _ true esz [] ⟨none,0,rfl,.inl rfl⟩ (jM hn) (zQ0 _) λ_=>.inl ⟨if_pos rfl,rfl,rfl,rfl⟩
 generalize R:a.eval N=z at v;have v:=JF.mono (s:=s1) hi t0 v;cases v with
 |ptr _ _ r n m a9=>
  obtain⟨Z,J,W⟩:=SR hl Y;obtain⟨S,j2,U,j4⟩:=PZ D;obtain⟨r1,o1,c,et,fz,A,E,ac,aa,hf⟩:=K.box b cs C;rw[m]at A;injection A with A;injection A with m1 m2;subst m1 m2;have q:=NC (vs:=(Value.slice none 0 0).cells.toList) (o:=n+off) E (by simp;omega);have hlen:(Value.slice none 0 0).cells.toList.length=l.length:=by simp[Z]
  obtain⟨i',t'⟩:=eo (s0:=s1) K (blk:=.box cs') C q (λk h1 h2=>by
   grind [Wr1]) (.box _ _ S) (λa6 j G=>by
   injection j with j;subst j;obtain⟨c0,e0,ae,c',y,T,p3,p4,V,p6⟩:=q.there;rw[E]at y;injection y with y;injection y with q1 q2 q3;subst q1 q2 q3;refine⟨r,n,c',et,fz,m,T,by omega,λi x L=>?_,by simp_all⟩;by_cases ag:off<=i/\i<off+l.length;have I:cs'[off+(i-off)]?=l[i-off]?:=U (i-off) (by omega);rw[show off+(i-off)=i by omega,L]at I;have a7:i-off<(Value.slice none 0 0).cells.size:=by omega
   have e2:=V (i-off) (Value.slice none 0 0).cells[i-off] (by simp);refine⟨(Value.slice none 0 0).cells[i-off],by rw[<-e2];congr 1;omega,G (W (i-off) x _ I.symm (by simp)),J _ (by simp)⟩;grind)
   (λ_ _ j=>by cases j)
  refine fe (e:=⟨gG,(new,.arr true esz [])::[(b,.box cs')]⟩) (O R (gz (by simp_all) E (by omega) (λk h1 h2=>hf k (by omega) (by omega)) J)) rfl i' (t0.trans t')
 cases h2;cases h2;cases h2;cases h2;cases h2;rename_i b ext i off;have ad:(fz (.slr new 0 0)).run ⟨env,s.σ⟩=none:=(by grind [fz,RM.run]);simp only[RM.run]at h2;split at h2;split at h2;split at h2;split at h2;grind [run_bind];cases h2;cases h2;cases h2;cases h2;cases h2;cases hc
theorem JEN(hi:Inv s)(he:bN s a.tmps env){zero parts os}(E: ∀j,j<os.length->s.σ[new+j]?=some .dead)(h:(opR F (.buildo zero parts os) new).run ⟨env,s.σ⟩=some e)
  (hc:bA P (.buildo zero parts os) o.op=true):bP P o a s e:=by
 simp only[opR]at h;obtain⟨l,h1,q⟩:=bind_some h;clear h;unfold bA at hc;simp only at hc;split at hc;rename_i t ps ab;simp only[aT]at hc;obtain⟨⟨hz,hn⟩,ht⟩:=hc;obtain⟨z,N,ac,Q⟩:=AL hz;obtain⟨S,i1,O,K,ad⟩:=dk os new hi E;split at q;rename_i cs hcs;split at q;rename_i r h3;simp only[RM.run]at q;injection q with q;subst q
 let s1:Sn:=⟨upd (gT os new) s.σ,S,s.w⟩
 have G: ∀(i:Nat) x,(lQ os new (zero.map AV.p))[i]?=some x-> ∃u,z.cells[i]?=some u/\JF s1 x u/\u.oneCell'=true:=
  dj (s:=s1) (cells:=z.cells) os new (tp N hn) K (by
   intro i x J;rw[fF]at J;cases hzi:zero[i]? with
   |none=>simp_all
   |some c=>
    simp[hzi]at J;subst J;have L:=Jy hzi;have Z:i<z.cells.size:=by omega
    have:=Q (w:=s1.w) (C:=s1.g.C) i c z.cells[i] hzi (by simp);exact⟨z.cells[i],by simp,.p _ _ this,this.one⟩)
 have fin: ∀{place:Nat->Option (Nat×Nat)},rF place parts ps.toList=true->
   ∃n,Instr.fill place z.cells (ps.toList.map λx=>(x.1,a.eval x.2))=some n/\JF s1 r (.agg n):=by
  intro place D;obtain⟨V,k2⟩:=ft he h1 D;obtain⟨n,M,f2,f3⟩:=dx (s:=s1) (cells:=z.cells) hcs V (λk off size cs i v hk H=>by obtain⟨p1,Y,U,W⟩:=k2 k off size cs i v hk H;exact⟨p1,Y,U,λj y u T I=>(W j y u T I).mono hi O⟩) (by grind [ec]) G;refine⟨n,M,?_⟩;have:=PP (s:=s1) (vs:=n.toList) h3 (by simpa using f2) (λv H=>by
    obtain⟨i,A⟩:=fP H;have A:n[i]?=some v:=by simpa using A
    have L:=SG A;obtain⟨u,I,_,h1⟩:=f3 i cs[i] (by simp_all);simp_all)
   (λi y v T H=>by
    grind)
  simp_all
 have ae:(ps.map λx=>(x.1,a.eval x.2)).toList=ps.toList.map λx=>(x.1,a.eval x.2):=by simp
 split at ht;rename_i fs I;simp only[aT]at ht;obtain⟨B,D⟩:=ht;obtain⟨n,M,hr⟩:=fin D;have aa:(λi=>(fs.map λf=>(f.offset,(szT P f.type).getD 0))[i]?)=FF P fs:=by
  funext i
  simp only[FF,Array.getElem?_map];cases hfi:fs[i]? with
  |none=>rfl
  |some f=>have:=UY.1 B f (Array.mem_of_getElem? hfi);cases hq:szT P f.type<;>simp[hq]at this⊢
 have a3:(fs.mapM λf=>do pure (f.offset,<-sizeOf f.type):Sem (Array (Nat×Nat))).run P s.w=.ok (fs.map λf=>(f.offset,(szT P f.type).getD 0)) s.w:=by
  rw[Array.mapM_eq_mapM_toList];simp only[Sem.run_map,fw (P:=P) (fs:=fs.toList) (λf R=>UY.1 B f (by simpa using R)),sX]
  congr 1
  grind
 have R:Instr.fill (λi=>(fs.map λf=>(f.offset,(szT P f.type).getD 0))[i]?) z.cells (ps.map λx=>(x.1,a.eval x.2)).toList=some n:=by simp_all
 have hb:(Instr.build t (ps.map λx=>(x.1,a.eval x.2))).run P s.w=.ok (.agg n) s.w:=by simp_all [Instr.build,FQ,run_underlying]
 refine hU (e:=⟨r,gT os new⟩) (v:=.agg n) (g':=S) ?_ i1 O hr;simp_all [execOp];cases ht;cases q;cases q;cases hc
end
end Go.Am
end
section
namespace Go.Am
theorem Gs{new:Nat}{env:List (Nat×AV)}{σ:List Blk}: ∀{k new:Nat} {u:Unit},(tF new k).run ⟨env,σ⟩=some u-> ∀j,j<k->σ[new+j]?=some .dead
 |0,_,_,_,j,hj=>by omega
 |k+1,new,u,h,j,hj=>by
  simp only[tF,RM.run]at h;split at h;rename_i x e;cases x with
  |dead=>
   dsimp only at h;cases j with
   |zero=>exact e
   |succ j=>have:=Gs (new:=0) h j (by omega);grind
  |box=>cases h
  |arr=>cases h
  cases h
section
variable {P:Program} {F:Orc} {s:Sn} {a:Act} {env:List (Nat×AV)} {o:Oper} {new:Nat} {e:Eff}
theorem JN4(q:jF P F)(hi:Inv s)(he:bN s a.tmps env){n:AOp}(h:(opD F n new).run ⟨env,s.σ⟩=some e)(hc:bA P n o.op=true):bP P o a s e:=by
 unfold opD at h;obtain⟨u,hd,h⟩:=bind_some h;have g:=Gs (new:=0) hd;clear hd;have j:lV n=1->s.σ[new]?=some .dead:=λh1=>g 0 (by omega);cases n with
 |mv x=>grind [JMJ]
 |mkarr esz x=>exact JGk hi (j rfl) h hc
 |pick=>grind [JIN]
 |newbox=>exact JEO hi (j rfl) h hc
 |box=>exact JKo hi he (j rfl) h hc
 |build=>grind [JGp]
 |lits=>grind [JJA,lV]
 |load=>grind [JJG]
 |store=>grind [JH3]
 |nilchk=>grind [JDW]
 |bin op t x y=>cases t<;>grind [Mn,Ks,Kh,I3,Kn,I6]
 |un=>grind [JMA]
 |conv k x=>
  grind [JCA,lV,JJu]
 |mkslice=>grind [JC3,lV]
 |slice=>grind [JGj]
 |faddr=>grind [JGr]
 |field=>grind [JGC]
 |iaddr=>grind [JHf]
 |aaddr=>grind [JHy]
 |sidx=>grind [JIV]
 |aidx=>grind [JJw]
 |extr=>grind [JJC]
 |call=>exact JJp q hi he g h hc
 |callv=>exact JFP q hi he g h hc
 |len=>grind [JKj]
 |app=>grind [JKz]
 |appn=>exact JJy hi he (j rfl) h hc
 |mm=>grind [JMP]
 |newboxo=>exact JBw hi g h hc
 |buildo=>exact JEN hi he g h hc
 |storen=>exact JEo hi he (j rfl) h hc
 |callo=>exact JFU q hi he g h hc
end
def zG(P:Program)(N:Nat)(ops:Array Oper)(i:bQ)(o:Oper):Bool:=
 bA P i.op o.op&&i.dst==o.dst&&(match i.dst with
  |some d=>decide (d<N)
  |none=>true)&&(match i.g,o.guard with
  |none,none=>true
  |some (g,w),some (j,w')=>w==w'&&(ops[j]?).bind (·.dst)==some g
  |_,_=>false)
def Sim(N:Nat)(E:Sn)(st:St)(a:Act)(w:World):Prop:=a.tmps.size=N/\a.defers=[]/\ ∃g,Inv ⟨st.sto,g,w⟩/\bN ⟨st.sto,g,w⟩ a.tmps st.env/\bC E ⟨st.sto,g,w⟩
theorem bN.put{s:Sn}{tmps:Array Value}{env:List (Nat×AV)}(he:bN s tmps env){d:Nat}(hd:d<tmps.size){x:AV}{v:Value}(hv:JF s x v):
  bN s (tmps.setIfInBounds d v) ((d,x)::env):=by
 intro n y e;simp only[lk]at e;split at e;simp_all;rename_i g;obtain⟨u,h1,h2⟩:=he n y e;grind
theorem Sim.putd{N:Nat}{E:Sn}{st:St}{a:Act}{w w':World}{g g':Gh}{e:Eff}{v:Value}{d:Option Nat}
  (h1:a.tmps.size=N) (h2:a.defers=[]) (hi:Inv ⟨st.sto,g,w⟩) (he:bN ⟨st.sto,g,w⟩ a.tmps st.env) (ht:bC E ⟨st.sto,g,w⟩) (hd: ∀x,d=some x->x<N)
  (j:Inv ⟨upd e.ws st.sto,g',w'⟩) (h:bC ⟨st.sto,g,w⟩ ⟨upd e.ws st.sto,g',w'⟩) (hv:JF ⟨upd e.ws st.sto,g',w'⟩ e.val v):
  Sim N E (Am.put d e st) (a.put d v) w':=by
 have k:=he.mono hi h;cases d with
 |none=>exact⟨h1,h2,g',j,k,ht.trans h⟩
 |some d=>exact⟨by grind [Act.put],h2,g',j,k.put (by simp_all) hv,ht.trans h⟩
section
variable {P:Program} {F:Orc} {N:Nat} {E:Sn} {st:St} {a:Act} {w:World} {ops:Array Oper} {i:bQ} {o:Oper} {e:Eff} {new k:Nat} {Q:Exit->Act->World->Prop} {K:Act->World->Prop}
theorem JBR{s:Sn}:JF s gG undef:=.tup _ _ rfl λi x v h=>by simp at h
theorem Ev(D:jF P F)(hs:Sim N E st a w)(ho:ops[k]?=some o)(hc:zG P N ops i o=true)(h:(bT F i new).run st=some e)
  (next: ∀n w',Sim N E (Am.put i.dst e st) n w'->K n w'):wpOp P ops Q k K a w:=by
 obtain⟨h1,h2,g,hi,y,ht⟩:=hs;simp only[zG,aT,beq_iff_eq]at hc;obtain⟨⟨⟨hc,hd⟩,J⟩,q⟩:=hc;have z: ∀x,i.dst=some x->x<N:=(by grind);have run: ∀{e:Eff},(opD F i.op new).run st=some e->(∀n w',Sim N E (Am.put i.dst e st) n w'->K n w')->o.wp P a w K Q:=(by intro e h next;refine JN4 (s:=⟨st.sto,g,w⟩) (env:=st.env) D hi y h hc K Q λv w' g' H I A=>next _ _ ?_;grind [Sim.putd]);have skip:(∀n w',Sim N E (Am.put i.dst ⟨gG,[]⟩ st) n w'->K n w')->K (a.put o.dst undef) w:=by intro next;refine next _ _ ?_;rw[<-hd];exact Sim.putd (e:=⟨gG,[]⟩) h1 h2 hi y ht z hi (.refl _) JBR
 unfold wpOp;rw[ho];dsimp only;unfold bT at h;cases hig:i.g with
 |none=>
  grind [Region.wanted]
 |some G=>
  obtain⟨L,C⟩:=G;rw[hig]at h q;cases hog:o.guard with
  |none=>simp_all
  |some x=>
   obtain⟨j,B⟩:=x;rw[hog]at q;simp only[aT,beq_iff_eq]at q;obtain⟨rfl,S⟩:=q;simp only[RM.run]at h;split at h;rename_i v A;obtain⟨u,R,r⟩:=y _ _ A;split at h;rename_i b;cases r with
   |p _ _ r=>
    cases r with
    |b x=>
     have O:yielded ops a.tmps j=some b:=by grind [yielded]
     grind [Region.wanted,RM.run]
   cases r with
   |tup _ vs M _=>
    grind [yielded,Region.wanted,RM.run]
   cases h;cases h
end
theorem oq{σ:List Blk}{n b:Nat}{x:Blk}(h:(σ++List.replicate n Blk.dead)[b]?=some x)(hx:x≠.dead):σ[b]?=some x:=by
 grind
theorem rl{σ:List Blk}{n b:Nat}{x:Blk}(h:σ[b]?=some x):(σ++List.replicate n Blk.dead)[b]?=some x:=by
 grind
theorem QB{σ:List Blk}{g:Gh}{w:World}{n b r o:Nat}:Wr1 ⟨σ++List.replicate n .dead,g,w⟩ b r o↔Wr1 ⟨σ,g,w⟩ b r o:=by
 grind [Wr1]
theorem fx{σ:List Blk}{g:Gh}{w:World}{n:Nat}:bC ⟨σ,g,w⟩ ⟨σ++List.replicate n .dead,g,w⟩ where
 keep:=.refl _ _
 cmono _ _ h:=h
 cnew _ _ h:=.inl h
 wnew _ _ h:=let⟨b,e⟩:=h;.inl ⟨b,QB.1 e⟩
 len:=by simp
 box b cs h:=⟨⟨cs,rl h,rfl⟩,rfl⟩
 arr b wm esz rows h:=⟨wm,rows,rl h,id,zQ0 _,λ_=>rfl⟩
theorem JI1{σ:List Blk}{g:Gh}{w:World}{n:Nat}(hi:Inv ⟨σ,g,w⟩):Inv ⟨σ++List.replicate n .dead,g,w⟩:=by
 have t:=fx (σ:=σ) (g:=g) (w:=w) (n:=n);refine⟨λb cs h=>?_,λb wm esz rows h=>?_,λb1 b2 r o h1 h2=>hi.apart b1 b2 r o (QB.1 h1) (QB.1 h2),λr o hc=>⟨(hi.const r o hc).1,λb A=>(hi.const r o hc).2 b (QB.1 A)⟩⟩;obtain⟨r,o,c,e,fz,B,E,C,y,q⟩:=hi.box b cs (oq h (by simp));exact⟨r,o,c,e,fz,B,E,C,λi x D=>let⟨v,j,z,k⟩:=y i x D;⟨v,j,z.mono hi t,k⟩,q⟩;exact hi.arr b wm esz rows (oq h (by simp))
theorem Sim.room{N:Nat}{E:Sn}{st:St}{a:Act}{w:World}(h:Sim N E st a w)(n:Nat):Sim N E ⟨st.env,room n st.sto⟩ a w:=by
 unfold Am.room;split;exact h;obtain⟨h1,h2,g,hi,e,ht⟩:=h;exact⟨h1,h2,g,JI1 hi,e.mono hi fx,ht.trans fx⟩
theorem Sim.heap{N:Nat}{E:Sn}{st:St}{a:Act}{w w':World}(h:Sim N E st a w)(e:w'.heap=w.heap)(ho:w'.os=w.os)(hp:w'.output=w.output):Sim N E st a w':=by obtain⟨h1,h2,g,hi,k,ht⟩:=h;obtain⟨j,t'⟩:=se hi e ho hp;exact⟨h1,h2,g,j,k.mono hi t',ht.trans t'⟩
theorem Sim.congr{N:Nat}{E:Sn}{st st':St}{a:Act}{w:World}(h:Sim N E st a w)(he: ∀m,lk m st'.env=lk m st.env)(hs:st'.sto=st.sto):Sim N E st' a w:=by obtain⟨h1,h2,g,hi,e,ht⟩:=h;refine⟨h1,h2,g,?_⟩;rw[hs];exact⟨hi,λn x j=>e n x (by simp_all),ht⟩
end Go.Am
end
section
namespace Go.Am
def eK(P:Program)(N:Nat)(ops:Array Oper):List bQ->List Oper->Bool|[],[]=>true|i::r,o::q=>zG P N ops i o&&eK P N ops r q|_,_=>false
def SJ(x y:bQ):Bool:=
 (match x.dst with
 |none=>true
 |some m=>y.dst !=some m&& !(wZ y).contains m)&&(match y.dst with
 |none=>true
 |some m=> !(wZ x).contains m)
def RH(x y:bQ):Bool:=(!yN x.op|| !HY y.op)&&(!yN y.op|| !HY x.op)
def IW:List Nat->List Nat->List Nat|[],acc=>acc|x::r,acc=>match acc.contains x with|true=>IW r acc|false=>IW r (x::acc)
theorem fc{i:Nat}: ∀{l acc:List Nat},i∈IW l acc->i∈l\/i∈acc
 |[],_,h=>.inr h
 |x::r,acc,h=>by
  simp only[IW]at h;split at h;exact(fc h).imp (qC _) id
  ·rcases fc h with h|h
   all_goals grind
def Dr(l:List Nat):List Nat:=IW l []
theorem JFE{i:Nat}{l:List Nat}(h:i∈Dr l):i∈l:=(fc h).resolve_right (by simp)
def D4(acc:List (List Nat))(o:Oper):List Nat:=Dr<|(o.after.toList.filter λe=>Region.binds .any e).flatMap λe=>e.on::(acc[e.on]?).getD []
def ml(acc:List (List Nat)):List Oper->List (List Nat)|[]=>acc|o::r=>ml (acc++[D4 acc o]) r
def ZU(e:List (List Nat))(pairs:List (Nat×Nat))(i j:Nat)(x y:bQ):Bool:=
 ((e[j]?).getD []).contains i||(SJ x y&&(RH x y||pairs.contains (i,j)))
def MF(e:List (List Nat))(pairs:List (Nat×Nat))(j:Nat)(y:bQ):Nat->List bQ->Bool|_,[]=>true|i,x::r=>(decide (j<=i)||ZU e pairs i j x y)&&MF e pairs j y (i+1) r
def QE(g:List (List Nat))(pairs:List (Nat×Nat))(e:List bQ):Nat->List bQ->Bool|_,[]=>true|j,y::r=>MF g pairs j y 0 e&&QE g pairs e (j+1) r
def RA:Nat->List Oper->Bool|_,[]=>true|j,o::r=>(o.after.all λe=> !Region.binds .any e||decide (e.on<j))&&RA (j+1) r
def XY(P:Program)(N:Nat)(draw:Bool)(pairs:List (Nat×Nat))(ins:List bQ)(ops:Array Oper):Bool:=
 eK P N ops ins ops.toList&&(!draw||(RA 0 ops.toList&&QE (ml [] ops.toList) pairs ins 0 ins))
section
variable {P:Program} {F:Orc} {N:Nat} {E:Sn} {st st':St} {a:Act} {w:World} {ops:Array Oper} {Q:Exit->Act->World->Prop}
theorem r9: ∀{ins:List bQ} {os:List Oper},eK P N ops ins os=true->ins.length=os.length/\ ∀(k:Nat) i,ins[k]?=some i-> ∃o,os[k]?=some o/\zG P N ops i o=true
 |[],[],_=>⟨rfl,by simp⟩
 |i::r,o::q,h=>by
  simp only[eK,aT]at h;obtain⟨h1,h2⟩:=r9 h.2;grind
 |[],_::_,h=>by grind [eK]
 |_::_,[],h=>by grind [eK]
theorem rm(v:jF P F): ∀{r:List bQ} {k new:Nat} {st:St} {a:Act} {w:World},(∀(j:Nat) i,r[j]?=some i-> ∃o,ops[k+j]?=some o/\zG P N ops i o=true)->
  fU F r new st=some st'->Sim N E st a w->(∀n w',Sim N E st' n w'->Q .normal n w')->wpOps P ops Q (List.range' k r.length) a w
 |[],k,new,st,a,w,_,h,q,next=>by simp only[fU]at h;cases h;exact next a w q
 |i::r,k,new,st,a,w,hc,h,q,next=>by
  simp only[fU]at h;split at h;rename_i e z;obtain⟨o,x,g⟩:=hc 0 i rfl;rw[DC,List.range'_succ,wpOps_cons];refine Ev v q x g z λn w' hs'=>rm v (λj i y=>?_) h hs' next;obtain⟨o,x,g⟩:=hc (j+1) i (by simpa using y);grind;cases h
theorem D8: ∀{ins:List bQ} {g:Nat} {st:St},fU F ins g st=some st'->
  ∃(new:Nat->Nat) (S:Nat->St) (eff:Nat->Eff),Run F ins new S eff/\S 0=st/\S ins.length=st'
 |[],g,st,h=>by
  simp only[fU]at h;injection h with h;subst h;exact⟨λ_=>0,λ_=>st,λ_=>⟨gG,[]⟩,⟨by simp⟩,rfl,rfl⟩
 |i::r,g,st,h=>by
  simp only[fU]at h;split at h;rename_i e q;obtain⟨new,S,eff,n,v,j⟩:=D8 h;refine⟨fun|0=>g|k+1=>new k,fun|0=>st|k+1=>S k,fun|0=>e|k+1=>eff k,⟨λk x o=>?_⟩,rfl,j⟩;cases k with
  |zero=>simp_all
  |succ k=>exact n.step k x (by simpa using o)
  cases h
theorem Et: ∀{ins:List bQ} {g:Nat} {st:St} {l l':Log},jE F ins g st l=some (st',l')->
  ∃(new:Nat->Nat) (S:Nat->St) (eff:Nat->Eff),Run F ins new S eff/\S 0=st/\S ins.length=st'/\
   (∀k,k<l.length->l'[k]?=l[k]?)/\ ∀(k:Nat) i,ins[k]?=some i->l'[l.length+k]?=some (jG ((bT F i (new k)).reads (S k)),(eff k).ws.map (·.1))
 |[],g,st,l,l',h=>by
  simp only[jE]at h;injection h with h;injection h with h1 h2;subst h1 h2;exact⟨λ_=>0,λ_=>st,λ_=>⟨gG,[]⟩,⟨by simp⟩,rfl,rfl,λ_ _=>rfl,by simp⟩
 |i::r,g,st,l,l',h=>by
  simp only[jE]at h;split at h
  ·rename_i e y;obtain⟨new,S,eff,o,q,n,w,z⟩:=Et h;refine⟨fun|0=>g|k+1=>new k,fun|0=>st|k+1=>S k,fun|0=>e|k+1=>eff k,⟨λk x j=>?_⟩,rfl,n,λk v=>?_,λk x j=>?_⟩
   cases k with
   |zero=>simp_all
   |succ k=>exact o.step k x (by simpa using j)
   all_goals grind
  cases h
theorem SD{b:Nat}: ∀{l:List Loc},Loc.blk b∈l->b∈jG l
 | .blk c::r,h=>by
  simp only[jG,cL]at*;rcases h with h|h;simp_all;exact .inr (SD h)
 | .slot n::r,h=>by simp only[jG];refine SD ?_;simpa using h
 |[],h=>by simp at h
theorem d7{a b:List Nat}(h:fZ a b=true){x:Nat}(hx:x∈a):x∉b:=by
 grind [fZ]
theorem s6{l:Log}: ∀{ps:List (Nat×Nat)} {i j:Nat},FP l ps=true->(i,j)∈ps->
  ∃x y,l[i]?=some x/\l[j]?=some y/\fZ x.2 y.1=true/\fZ x.2 y.2=true/\fZ x.1 y.2=true
 |[],i,j,_,h=>by simp at h
 |(p,q)::r,i,j,h,hm=>by
  simp only[FP,aT]at h;obtain⟨h1,h2⟩:=h;rcases cL.1 hm with e|e;grind;exact s6 h2 e
def ZN(ops:Array Oper)(D:Nat->Bool)(k:Nat):Prop:= ∀o,ops[k]?=some o-> ∀e∈o.after,Region.binds .any e=true->D e.on=true
def Dz(ops:Array Oper)(D:Nat->Bool):Prop:= ∀k,D k=true->ZN ops D k
def j8(ops:Array Oper)(k i:Nat):Prop:= ∀D,Dz ops D->ZN ops D k->D i=true
theorem Ex: ∀{os:List Oper} {acc:List (List Nat)},(∀(j:Nat) o,os[j]?=some o->ops[acc.length+j]?=some o)->(∀(k:Nat) l i,acc[k]?=some l->i∈l->j8 ops k i)->
  ∀(k:Nat) l i,(ml acc os)[k]?=some l->i∈l->j8 ops k i
 |[],acc,_,n=>n
 |o::r,acc,y,n=>by
  refine Ex (os:=r) (acc:=acc++[D4 acc o]) (λj x A=>?_) λk l i g hi=>?_;have:=y (j+1) x (by simpa using A);grind;rcases QD g with g|⟨B,g⟩;simp_all;have q:k=acc.length:=(by grind);subst q;simp at g;subst g;intro D hD z;replace hi:=JFE hi;simp only[List.mem_flatMap,List.mem_filter]at hi;obtain⟨e,⟨w,v⟩,hi⟩:=hi;have h:=z o (by simpa using y 0 o rfl) e (by simpa using w) v;rcases cL.1 hi with rfl|hi;exact h;cases hac:acc[e.on]? with
  |none=>simp_all
  |some l=>rw[hac]at hi;exact n _ l i hac hi D hD (hD _ h)
theorem ub{g:List (List Nat)}{pairs:List (Nat×Nat)}{j:Nat}{y:bQ}: ∀{r:List bQ} {e:Nat},MF g pairs j y e r=true-> ∀(k:Nat) x,r[k]?=some x->e+k<j->ZU g pairs (e+k) j x y=true
 |[],e,_,k,x,n,_=>by simp at n
 |z::r,e,h,k,x,n,o=>by
  simp only[MF,aT,yO,decide_eq_true_eq]at h;cases k with
  |zero=>grind
  |succ k=>
   have:=ub h.2 k x (by simpa using n) (by omega);grind
theorem tc{j:List (List Nat)}{pairs:List (Nat×Nat)}{g:List bQ}: ∀{r:List bQ} {e:Nat},QE j pairs g e r=true-> ∀(k:Nat) y,r[k]?=some y->MF j pairs (e+k) y 0 g=true
 |[],e,_,k,y,n=>by simp at n
 |z::r,e,h,k,y,n=>by
  simp only[QE,aT]at h;cases k with
  |zero=>simp_all
  |succ k=>
   have:=tc h.2 k y (by simpa using n);grind
theorem tz: ∀{r:List Oper} {g:Nat},RA g r=true-> ∀(k:Nat) o,r[k]?=some o-> ∀e∈o.after,Region.binds .any e=true->e.on<g+k
 |[],g,_,k,o,j=>by simp at j
 |z::r,g,h,k,o,j=>by
  simp only[RA,aT]at h;cases k with
  |zero=>
   grind [Array.all_eq_true_iff_forall_mem]
  |succ k=>intro e n q;have:=tz h.2 k o (by simpa using j) e n q;omega
theorem JGQ{x y:bQ}(h:SJ x y=true):(∀m,x.dst=some m->y.dst≠some m/\m∉wZ y)/\(∀m,y.dst=some m->m∉wZ x):=by
 grind [SJ]
variable {ins:List bQ} {new:Nat->Nat} {S:Nat->St} {eff:Nat->Eff}
theorem JHG(hr:Run F ins new S eff){i j:Nat}(hi:i<ins.length)(hj:j<ins.length)(h1:SJ ins[i] ins[j]=true)
  (h2:RH ins[i] ins[j]=true\/(fZ ((eff i).ws.map (·.1)) (jG ((bT F ins[j] (new j)).reads (S j)))=true/\
   fZ ((eff i).ws.map (·.1)) ((eff j).ws.map (·.1))=true/\fZ (jG ((bT F ins[i] (new i)).reads (S i))) ((eff j).ws.map (·.1))=true)):OE F ins new S eff i j:=by
 obtain⟨s1,C⟩:=JGQ h1;have q:ins[i]?=some ins[i]:=JX hi;have o:ins[j]?=some ins[j]:=JX hj;obtain⟨z,_⟩:=hr.step i _ q;obtain⟨v,_⟩:=hr.step j _ o;refine⟨λx y m g e r=>?_,λx y m g e r n=>?_,λy b e k=>?_,λx b g k n=>?_⟩;rw[q]at g;cases g;rw[o]at e;cases e;exact⟨(s1 m r).1,λn=>(s1 m r).2 (Gq F _ _ _ _ n)⟩;rw[q]at g;cases g;rw[o]at e;cases e;exact C m r (Gq F _ _ _ _ n);rw[o]at e;cases e;rcases h2 with h2|⟨w,A,B⟩;simp only[RH,aT,yO,CY]at h2;rcases h2.1 with h|h;rw[ZQ F _ _ h _ _ z]at k;simp at k;refine⟨?_,Hv F _ _ h _ _ v b⟩;rw[ZQ F _ _ (Dw h) _ _ v];simp;exact⟨d7 A k,λn=>d7 w k (SD n)⟩;rw[q]at g;cases g;rcases h2 with h2|⟨w,A,B⟩;simp only[RH,aT,yO,CY]at h2;rcases h2.2 with h|h;rw[ZQ F _ _ h _ _ v]at k;simp at k;exact Hv F _ _ h _ _ z b n;grind [d7,SD]
def Dl(e:Array Bool):Nat->Bool:=λj=>e.getD j false
theorem Ez{e:Array Bool}{i:Nat}(hi:i<e.size):Dl (e.setIfInBounds i true)=λj=>if j=i then true else Dl e j:=by
 funext j
 unfold Dl;by_cases h:j=i
 all_goals simp_all [Ne.symm]
theorem su{l:Array Bool}{i:Nat}(hi:i<l.size)(h:l.getD i false=false):(l.setIfInBounds i true).count false+1=l.count false:=by
 have e:l[i]=false:=by simp_all
 grind [Array.getElem_mem]
theorem sy{l:Array Bool}(h:l.count false=0){i:Nat}(hi:i<l.size):l.getD i false=true:=by
 grind [su]
theorem Db{l:Array Bool}: ∀m,m<=l.size->(∀j,j<m->Dl l j=true)\/ ∃k,k<m/\Dl l k=false/\ ∀j,j<k->Dl l j=true
 |0,_=>.inl λj e=>by omega
 |m+1,h=>by
  rcases Db (l:=l) m (by omega)with h1|⟨k,a,b,c⟩
  all_goals grind
theorem JES{l:Array Bool}{j:Nat}(hj:j<l.size):l.getD j true=l.getD j false:=by simp[hj]
theorem JMh(hF:jF P F)(hr:Run F ins new S eff)(hlen:ins.length=ops.size)(hc: ∀(k:Nat) i,ins[k]?=some i-> ∃o,ops[k]?=some o/\zG P N ops i o=true)
  (G: ∀(k:Nat) o,ops[k]?=some o-> ∀e∈o.after,Region.binds .any e=true->e.on<k)
  (K: ∀i j,i<j->j<ins.length->j8 ops j i\/OE F ins new S eff i j)
  (next: ∀H w',Sim N E (S ins.length) H w'->Q .normal H w'):
  ∀(n:Nat) (g:Array Bool) (st:St) (a:Act) (w:World),g.size=ops.size->Agree ins eff (S 0) (Dl g) st->Sim N E st a w->Dz ops (Dl g)->g.count false=n->
   wpAny P .any ops Q n g a w:=by
 intro n
 induction n with
 |zero=>
  intro g st a w L C R r B;refine⟨?_,?_⟩;cases hre:Region.ready .any ops g with
  |nil=>rfl
  |cons j l=>
   exfalso;have h:j∈Region.ready .any ops g:=by rw[hre];simp
   grind [mem_ready,sy]
  ·obtain⟨e1,e2⟩:=JEi hr C λj x=>sy B (by omega);exact next a w (R.congr (λm=>(e1 m).symm) e2.symm)
 |succ n ih=>
  intro g st a w L C R r B;refine⟨λa2=>?_,λk I=>?_⟩;exfalso;rcases Db (l:=g) ops.size (by omega)with z|⟨k,I,D,M⟩;have:g.count false=0:=(by rw[Array.count_eq_zero];intro h;obtain⟨i,hi,y⟩:=Array.getElem_of_mem h;have:=z i (by omega);unfold Dl at this;simp[hi,y]at this);omega;have h:k∈Region.ready .any ops g:=(by rw[mem_ready];refine⟨by rw[JES (by omega)];exact D,ops[k],by simp[I],λe y A=>?_⟩;exact M _ (G k ops[k] (by simp[I]) e y A));simp_all;obtain⟨h1,o,Y,z⟩:=mem_ready.1 I;have a0:k<ops.size:=(kp.1 Y).1;have D:Dl g k=false:=by grind [Dl]
  have T:ins[k]?=some (ins[k]'(by omega)):=JX _;obtain⟨o',W,U⟩:=hc k _ T;have q:ZN ops (Dl g) k:=by intro O v e y A;rw[Y]at v;cases v;exact z e y A
  obtain⟨Z,r2⟩:=JHg hr C T D (λj x hDj=>by
   rcases K j k x (by omega)with h|h;have:=h _ r q;simp_all;exact h) (λj x V hDj=>by
   rcases K k j x V with h|h;have:=h _ r (r j hDj);simp_all;exact h)
  refine Ev hF R W U Z λH w' hs'=>ih _ _ H w' (by simp[L]) ?_ hs' ?_ ?_;grind [Ez];rw[Ez (by omega)];intro j x O v e y A;dsimp only at x⊢;have h:Dl g e.on=true->(if e.on=k then true else Dl g e.on)=true:=by simp_all
  by_cases J:j=k;subst J;exact h (q O v e y A);rw[if_neg J]at x;exact h (r j x O v e y A);grind [su]
theorem JKR(Z:jF P F)(H:P.follows .mixedOrders=true){id:Nat}{draw:Bool}{pairs:List (Nat×Nat)}{ins:List bQ}(h:region F pairs ins st=some st')
  (hc:XY P N draw pairs ins ops=true) (hs:Sim N E st a w) (next: ∀U w',Sim N E st' U w'->Q .normal U w'):(Code.region id ops draw).wp P Q a w:=by
 simp only[XY,aT,yO,CY]at hc;obtain⟨K,B⟩:=hc;obtain⟨hlen,G⟩:=r9 K;have hlen:ins.length=ops.size:=by simp_all
 have G: ∀(k:Nat) i,ins[k]?=some i-> ∃o,ops[k]?=some o/\zG P N ops i o=true:=λk i hi=>by simp_all
 have T:=hs.room (news ins);have J: ∃(new:Nat->Nat) (S:Nat->St) (eff:Nat->Eff),Run F ins new S eff/\S 0=⟨st.env,room (news ins) st.sto⟩/\S ins.length=st'/\
   ∀i j,(i,j)∈pairs-> ∃x y,ins[i]?=some x/\ins[j]?=some y/\fZ ((eff i).ws.map (·.1)) (jG ((bT F y (new j)).reads (S j)))=true/\
   fZ ((eff i).ws.map (·.1)) ((eff j).ws.map (·.1))=true/\fZ (jG ((bT F x (new i)).reads (S i))) ((eff j).ws.map (·.1))=true:=by
  unfold region at h;split at h;grind [D8];split at h;rename_i s' l n;split at h;rename_i M;cases h;obtain⟨new,S,eff,D,C,O,_,q⟩:=Et n;refine⟨new,S,eff,D,C,O,λi j hm=>?_⟩;obtain⟨x,y,Y,W,d1,d2,d3⟩:=s6 M hm;have R: ∀(k:Nat) z,l[k]?=some z->k<ins.length:=by
   intro k z hk;have:=Jy hk;have a6:l.length=ins.length:=by
    clear q D C O M Y W;have: ∀{r:List bQ} {e:Nat} {s0:St} {A v:Log} {s1:St},jE F r e s0 A=some (s1,v)->v.length=A.length+r.length:=by
     intro r
     induction r with
     |nil=>simp[jE]
     |cons i r ih=>
      grind [jE]
    grind
   omega
  have hi:=R i x Y;have g:=R j y W;have L:ins[i]?=some ins[i]:=JX hi;have I:ins[j]?=some ins[j]:=JX g;have qi:=q i _ L;have qj:=q j _ I;simp only[List.length_nil,oM]at qi qj;grind;cases h;cases h
 obtain⟨new,S,eff,D,C,O,M⟩:=J;cases draw with
 |false=>
  refine wp_region ?_;rw[List.range_eq_range',<-hlen];have a7: ∃e,fU F ins e ⟨st.env,room (news ins) st.sto⟩=some st':=by
   unfold region at h;split at h;grind;split at h;rename_i s' l n;split at h;cases h;have: ∀{r:List bQ} {e:Nat} {s0:St} {A v:Log} {s1:St},jE F r e s0 A=some (s1,v)->fU F r e s0=some s1:=by
    intro r
    induction r with
    |nil=>intro e s0 A v s1 h;simp only[jE]at h;injection h with h;injection h with h1 h2;subst h1;rfl
    |cons i r ih=>
     grind [jE,fU]
   grind;cases h;cases h
  grind [rm]
 |true=>
  obtain⟨he,hd⟩:=B.resolve_left (by simp);refine wp_region_any H ?_;have V:Sim N E (S 0) a {w with drawn:=w.drawn+1}:=by rw[C];exact T.heap rfl rfl rfl
  refine JMh Z D hlen G (λk o ho=>?_) (λi j hij g=>?_) (by simp_all) ops.size _ (S 0) a _ (by simp) ?_ V ?_ ?_;have:=tz he k o (by simpa using ho);simp_all;have L:ins[i]?=some (ins[i]'(by omega)):=JX _;have I:ins[j]?=some ins[j]:=JX g;have h1:=tc hd j _ I;rw[oM]at h1;have h2:=ub h1 i _ L (by omega);rw[oM]at h2;simp only[ZU,yO,aT]at h2;rcases h2 with h2|⟨h2,h3⟩;grind [Ex];grind [JHG];have:Dl (Array.replicate ops.size false)=λ_=>false:=by
   funext j;unfold Dl;simp[Array.getElem?_replicate];split<;>rfl
  rw[this];exact Ko;intro j g;unfold Dl at g;simp[Array.getElem?_replicate]at g;grind;simp
end
end Go.Am
end
section
namespace Go.Am
def cU(P:Program)(N:Nat):bU->Code->Bool
 | .bad,_=>true
 | .skip,c=>match c with| .skip=>true| .label _=>true|_=>false
 | .reg draw pairs ins,c=>match c with| .region _ ops d=>draw==d&&XY P N draw pairs ins ops|_=>false
 | .seq a b,c=>match c with| .seq x y=>cU P N a x&&cU P N b y|_=>false
 | .cond o a b,c=>match c with| .cond p x y=>bO o p&&cU P N a x&&cU P N b y|_=>false
 | .block id a,c=>match c with| .block e x=>id==e&&cU P N a x|_=>false
 | .loop _ a,c=>match c with| .loop x=>cU P N a x|_=>false
 | .lp _ _ _,_=>false
 | .scope a,c=>match c with| .scope x=>cU P N a x|_=>false
 | .exit id,c=>match c with| .exit e=>id==e|_=>false
 | .ret,c=>match c with| .ret=>true|_=>false
 | .keep _ a,c=>cU P N a c
 | .tidy _ a,c=>cU P N a c
 | .br _ pre o a b rest,c=>match c with| .seq (.seq p (.cond q x y)) z=>cU P N pre p&&bO o q&&cU P N a x&&cU P N b y&&cU P N rest z|_=>false
def qT:AX->Exit| .normal=>.normal| .exit id=>.exit id| .ret=>.ret
def LP(P:Program)(c:bU)(st:St)(r:Out):Prop:=
 match c with
 | .lp n _ b=> ∃k,∀(N:Nat) (e:Code) (E:Sn) (a:Act) (w:World) (Q:Exit->Act->World->Prop),cU P N b e=true->E.σ.length<=n->n<=st.sto.length->Sim N E st a w->
   (∀g w',Sim N E r.2 g w'->Q (qT r.1) g w')->Code.rounds P e Q k a w
 |c=> ∀(N:Nat) (e:Code) (E:Sn) (a:Act) (w:World) (Q:Exit->Act->World->Prop),cU P N c e=true->Sim N E st a w->
  (∀g w',Sim N E r.2 g w'->Q (qT r.1) g w')->e.wp P Q a w
theorem LP.get{P:Program}{c:bU}{st:St}{r:Out}(h:LP P c st r){N:Nat}{e:Code}{E:Sn}{a:Act}{w:World}{Q:Exit->Act->World->Prop}(hc:cU P N c e=true)(hs:Sim N E st a w)
  (next: ∀g w',Sim N E r.2 g w'->Q (qT r.1) g w'):e.wp P Q a w:=by
 cases c<;>first|exact h N e E a w Q hc hs next|grind [cU]
theorem QU{env:List (Nat×AV)}{n:Nat}{x:AV}: ∀{live:List Nat},lk n (restr live env)=some x->lk n env=some x
 |[],h=>by grind [restr,lk]
 |k::r,h=>by
  simp only[restr]at h;split at h;rename_i v e;simp only[lk]at h;split at h;simp_all;exact QU h;exact QU h
theorem Fs{m:Nat}{sto:List Blk}{n:Nat}{y:AV}: ∀{env g:List (Nat×AV)},vM m sto env=some g->lk n g=some y-> ∃x,lk n env=some x/\fin m [] sto x=some y
 |[],g,h,hy=>by grind [vM,lk]
 |(k,x)::r,g,h,hy=>by
  simp only[vM]at h;split at h;rename_i z l q j;injection h with h;subst h;simp only[lk]at hy⊢;split at hy;simp_all;rename_i e;obtain⟨o,h1,h2⟩:=Fs j hy;simp_all;cases h
section
variable {P:Program} {N:Nat} {E:Sn} {st st':St} {a:Act} {w:World}
theorem Sim.restr(h:Sim N E st a w)(live:List Nat):Sim N E ⟨restr live st.env,st.sto⟩ a w:=by obtain⟨h1,h2,g,hi,e,ht⟩:=h;exact⟨h1,h2,g,hi,λn x j=>e n x (QU j),ht⟩
theorem QT{n:Nat}{live:List Nat}(h:Sim N E st a w)(hc:clean n live st=some st')(q:E.σ.length<=n)(hn:n<=st.sto.length):Sim N E st' a w/\st'.sto.length=n:=by
 unfold clean at hc;split at hc;rename_i e;injection hc with hc;subst hc;exact⟨h.restr live,e⟩;split at hc;rename_i ev l o A;injection hc with hc;subst hc;obtain⟨h1,h2,g,hi,C,ht⟩:=h;obtain⟨G,H⟩:=SB A;have hlen:l.length=n:=by simp_all
 have j:mo ⟨st.sto,g,w⟩ n [] l:=(by refine⟨hi,hn,List.nodup_nil,λb r=>by simp at r,by simp[hlen],λk x I=>?_⟩;grind [tV]);refine⟨⟨h1,h2,(jT ⟨st.sto,g,w⟩ n [] l).g,G6 j,λk y B=>?_,qv j ht q⟩,hlen⟩;obtain⟨x,D,z⟩:=Fs o B;obtain⟨v,F,hrel⟩:=C k x (QU D);exact⟨v,F,ZD j hrel z⟩;cases hc
def nM(P:Program):List vN->List ResultVar->Bool|[],[]=>true| .tmp t::r,.tmp t'::q=>t==t'&&nM P r q| .cell t agg size::r,.cell t' ty::q=>t==t'&&agT P ty==some agg&&szT P ty==some size&&nM P r q|_,_=>false
def UU(tmps:Array Value):ResultVar->Sem Value| .tmp t=>pure (tmps.getD t undef)| .cell a t=>do loadVar t (<-asAddr (tmps.getD a undef))
theorem ZJ{s:Sn}{env:List (Nat×AV)}{tmps:Array Value}(hi:Inv s)(he:bN s tmps env): ∀{A:List vN} {B:List ResultVar} {vs:List AV},nM P A B=true->(mV A).run ⟨env,s.σ⟩=some vs->
  ∃g:List Value,(B.mapM (UU tmps)).run P s.w=.ok g s.w/\vs.length=g.length/\ ∀(i:Nat) x v,vs[i]?=some x->g[i]?=some v->JF s x v
 |[],[],vs,_,h=>by simp_all [mV,RM.run]
 | .tmp t::r,.tmp t'::q,vs,hc,h=>by
  simp only[nM,aT,beq_iff_eq]at hc;obtain⟨rfl,hc⟩:=hc;simp only[mV]at h;obtain⟨x,h1,h⟩:=bind_some h;obtain⟨l,h2,h⟩:=bind_some h;simp only[RM.run]at h;injection h with h;subst h;simp only[RM.run]at h1;split at h1;rename_i y n;injection h1 with h1;subst h1;obtain⟨v,L,D⟩:=he _ _ n;obtain⟨g,E,k,F⟩:=ZJ hi he hc h2;refine⟨v::g,?_,by simp[k],λi x u K I=>?_⟩;simp_all [UU];grind;cases h1
 | .cell t agg size::r,.cell t' ty::q,vs,hc,h=>by
  simp only[nM,aT,beq_iff_eq]at hc;obtain⟨⟨⟨rfl,M⟩,C⟩,hc⟩:=hc;simp only[mV]at h;obtain⟨x,h1,h⟩:=bind_some h;obtain⟨e,J,h⟩:=bind_some h;obtain⟨l,h2,h⟩:=bind_some h;simp only[RM.run]at h;injection h with h;subst h;simp only[RM.run]at h1;split at h1;rename_i y n;injection h1 with h1;subst h1;obtain⟨v,L,D⟩:=he _ _ n;obtain⟨g,E,k,F⟩:=ZJ hi he hc h2;obtain⟨G,o,ws,R,N,H,_,O⟩:=qw hi J D;obtain⟨Q,S⟩:=tw (P:=P) M C N H;have j: ∃u,(loadVar ty ⟨G,o,none⟩).run P s.w=.ok u s.w/\JF s e.val u:=(by grind);obtain⟨u,I,hrel⟩:=j;refine⟨u::g,?_,by simp[k],λi x z K C=>?_⟩;simp_all [UU,asAddr];grind;cases h1
 |[],_::_,_,hc,_=>by grind [nM]
 | .tmp _::_,[],_,hc,_=>by grind [nM]
 | .cell _ _ _::_,[],_,hc,_=>by grind [nM]
 | .tmp _::_,.cell _ _::_,_,hc,_=>by grind [nM]
 | .cell _ _ _::_,.tmp _::_,_,hc,_=>by grind [nM]
theorem RO{m:Nat}{fresh:Bool}{sto:List Blk}: ∀{es:List Ent},∀b∈jH m fresh sto es,m<=b
 |[],b,h=>by grind [jH]
 | .elem _ _ _::r,b,h=>RO (es:=r) b (by simpa[jH]using h)
 | .whole c::r,b,h=>by
  simp only[jH]at h;split at h;exact RO (es:=r) b h;rename_i hc;have e:b∈c::jH m fresh sto r->m<=b:=(by intro h;rcases cL.1 h with rfl|h;omega;exact RO (es:=r) b h);grind
theorem G3{s:Sn}{vs:List AV}{e:List Value}(hl:vs.length=e.length)(hr: ∀(i:Nat) x v,vs[i]?=some x->e[i]?=some v->JF s x v):
  JF s (one vs) (if h:e.toArray.size=1 then e.toArray[0]else .tuple e.toArray):=by
 by_cases h:e.toArray.size=1;rw[dif_pos h];cases e with
 |nil=>simp at h
 |cons u q=>
  cases vs with
  |nil=>simp at hl
  |cons x p=>
   have j:q=[]:=by simpa using h
   subst j;have g:p=[]:=by simpa using hl
   subst g;exact hr 0 x u rfl rfl
 rw[dif_neg h];have:one vs=.tup vs:=by
  match vs,hl with
  |[],_=>rfl
  |[x],hl=>simp_all
  |_::_::_,_=>rfl
 rw[this];exact .tup _ _ (by simpa using hl) λi x v n k=>hr i x v n (by simpa using k)
theorem rc{e:AFn}{fn:Func}{m:Nat}{r:Res}(hs:Sim N E st a w)(hm:E.σ.length=m)(h:gV e m st=some r)(hc:nM P e.res fn.results.toList=true):
  a.defers=[]/\ ∃v,(results fn a.tmps).run P w=.ok v w/\ ∃g',Inv ⟨r.2,g',w⟩/\bC E ⟨r.2,g',w⟩/\JF ⟨r.2,g',w⟩ r.1 v:=by
 obtain⟨h1,h2,g,hi,K,ht⟩:=hs;refine⟨h2,?_⟩;unfold gV at h;cases hvs:(mV e.res).run st with
 |none=>simp_all
 |some vs=>
  rw[hvs]at h;dsimp only at h;obtain⟨y,R,W,H⟩:=ZJ (P:=P) (s:=⟨st.sto,g,w⟩) (env:=st.env) hi K hc hvs;have n:(results fn a.tmps).run P w=.ok (if h:y.toArray.size=1 then y.toArray[0]else .tuple y.toArray) w:=by
   have:results fn a.tmps=(do
    let vs<-fn.results.mapM (UU a.tmps)
    pure (if h:vs.size=1 then vs[0]else .tuple vs)):=rfl
   simp_all [Array.mapM_eq_mapM_toList]
  refine⟨_,n,?_⟩;split at h;grind [G3];split at h;rename_i C;have z:=RO (m:=m) (fresh:=e.fresh) (sto:=st.sto) (es:=qJ st.sto (cF.entsOfL vs []) (cF.entsOfL vs []));generalize jH m e.fresh st.sto (qJ st.sto (cF.entsOfL vs []) (cF.entsOfL vs []))=ids at*;split at h;rename_i ws l q B J I;split at h;rename_i q' D;injection h with h;subst h;obtain⟨Y,M⟩:=uD B;obtain⟨b1,b2⟩:=SB J;obtain⟨U,V⟩:=s7 I;obtain⟨T,S⟩:=SB D;have F:m<=st.sto.length:=by rw[<-hm];exact ht.len
  have hlen:l.length=m:=by simp_all
  have o:mo ⟨st.sto,g,w⟩ m ids (l++q'):=(by refine⟨hi,F,SF C,z,by simp;omega,λk x A=>?_⟩;rcases QD A with A|⟨O,A⟩;grind [tV];grind [gB]);refine⟨_,G6 o,qv o ht (by omega),G3 (by omega) λi x v G L=>?_⟩;have Q:=Jy G;have j:vs[i]?=some (vs[i]'(by omega)):=JX _;exact ZD o (H i _ v j L) (M i _ x j G);cases h;cases h;cases h
def kR(P:Program)(f:FuncId)(e:AFn):Bool:=
 match P.funcs[f]? with
 |none=>false
 |some fn=>match fn.body with
  |none=>false
  |some g=>fn.name != "runtime.NumGoroutine" &&e.nt==e.np+(fn.ntmps-e.np)&&nM P e.res fn.results.toList&&cU P e.nt e.body g
theorem ZW: ∀{args:List AV} {k n:Nat} {x:AV},lk n (iT k args)=some x->k<=n/\args[n-k]?=some x
 |[],k,n,x,h=>by grind [iT,lk]
 |y::r,k,n,x,h=>by
  simp only[iT,lk]at h;split at h;simp_all;rename_i e;obtain⟨h1,h2⟩:=ZW h;grind
end
section
variable {P:Program} {T:cZ}
theorem JGv{f:FuncId}{j:AFn}{args:List AV}{blks:List Blk}{r:Res}(hc:kR P f j=true)(K:args.length=j.np)
  (h: ∀(k:Code) (g:Gh) (w:World) (a:Act) (Q:Exit->Act->World->Prop),cU P j.nt j.body k=true->Sim j.nt ⟨blks,g,w⟩ ⟨iT 0 args,blks⟩ a w->
   (∀e s o w',(e=.normal\/e=.ret)->gV j blks.length s=some r->Sim j.nt ⟨blks,g,w⟩ s o w'->Q (qT e) o w')->k.wp P Q a w):J4p P f args blks r:=by
 unfold kR at hc;split at hc;cases hc;rename_i fn A;split at hc;cases hc;rename_i k D;simp only[aT,beq_iff_eq,bne_iff_ne,ne_eq]at hc;obtain⟨⟨⟨F,J⟩,G⟩,z⟩:=hc;refine⟨⟨fn,A,by simp[D],by simp_all⟩,λg w vals hinv hlen hrel=>?_⟩;refine calls_of_wp A D ?_;have C:Sim j.nt ⟨blks,g,w⟩ ⟨iT 0 args,blks⟩ {tmps:=vals++Array.replicate (fn.ntmps-vals.size) undef,defers:=[]} w:=(by refine⟨by simp;omega,rfl,g,hinv,λn x y=>?_,.refl _⟩;obtain⟨_,y⟩:=ZW y;rw[pX]at y;have I:=Jy y;refine⟨vals[n]'(by omega),?_,hrel n x _ y (vF _)⟩;grind);have fin: ∀{s},gV j blks.length s=some r-> ∀o w',Sim j.nt ⟨blks,g,w⟩ s o w'->o.defers=[]/\ ∃v,(results fn o.tmps).run P w'=.ok v w'/\ ∃B g',Ending.returned v=.returned B/\
   Inv ⟨r.2,g',w'⟩/\bC ⟨blks,g,w⟩ ⟨r.2,g',w'⟩/\JF ⟨r.2,g',w'⟩ r.1 B:=by
  grind [rc]
 refine h k g w _ _ z C λe s o w' H q E=>?_;rcases H with rfl|rfl;exact fin q o w' E;exact fin q o w' E
theorem JHB{R:bU->St->Option Out}(ih: ∀c s r,R c s=some r->LP P c s r){f:FuncId}{k:oB}{args:List AV}{blks:List Blk}{r:Res}(hc:kR P f k.af=true)(K:args.length=k.np)
  (h:EM R k args blks=some r):J4p P f args blks r:=by
 refine JGv hc K λn g w a Q j z fin=>?_;simp only[oB.af]at j fin z;cases n<;>simp only[cU,eI]at j;rename_i S O;simp only[aT]at j;obtain⟨F,q⟩:=j;unfold EM at h;split at h
 rename_i s0 I;split at h;rename_i s1 B;refine wp_seq ((ih _ _ _ I).get F z λa0 w0 x=>?_);split at q;rename_i cp H cx cy T;simp only[aT]at q;obtain⟨⟨⟨⟨Y,L⟩,hx⟩,hy⟩,W⟩:=q;simp only[qT,Exit.then];refine wp_seq (wp_seq ((ih _ _ _ B).get Y x λE C x=>?_));have Z: ∀{c:bU} {n:Code},cU P k.nt c n=true->yG k.af blks.length (thn (R c s1) λs=>R k.rest s)=some r->
   n.wp P (Exit.then (T.wp P Q) Q) E C:=by
  intro c n hc ht;cases hR:R c s1 with
  |none=>rw[hR]at ht;cases ht
  |some o=>
   obtain⟨e,G⟩:=o;rw[hR]at ht;refine(ih _ _ _ hR).get hc x λy w' hs'=>?_;cases e with
   |normal=>
    simp only[thn]at ht;cases hR2:R k.rest G with
    |none=>rw[hR2]at ht;cases ht
    |some U=>
     obtain⟨V,J⟩:=U;rw[hR2]at ht;simp only[qT,Exit.then];refine(ih _ _ _ hR2).get W hs' λy w' hs'=>?_;cases V with
     |normal=>exact fin .normal J y w' (.inl rfl) ht hs'
     |ret=>exact fin .ret J y w' (.inr rfl) ht hs'
     |exit id=>cases ht
   |exit id=>cases ht
   |ret=>exact fin .ret G y w' (.inr rfl) ht hs'
 have A:=x;obtain⟨_,_,g,hi,M,_⟩:=A;simp only[qT,Exit.then];split at h;rename_i b D;have hrel:=bK (s:=⟨s1.sto,g,C⟩) (env:=s1.env) M D L;generalize N:E.eval H=v at hrel;cases hrel with
 |p _ _ hrel=>cases hrel<;>grind [wp_cond]
 rename_i D;have hrel:=bK (s:=⟨s1.sto,g,C⟩) (env:=s1.env) M D L;generalize N:E.eval H=v at hrel;cases hrel with
 |unk t=>
  refine wp_cond N ?_;unfold KP at h;grind
 cases h;cases q;cases h;cases h
theorem qf{R:bU->St->Option Out}(ih: ∀c s r,R c s=some r->LP P c s r)(F: ∀f j,T f=some (.fn j)->kR P f j=true)
  (L: ∀f g,T f=some (.prim g)-> ∀args blks r,g args blks=some r->J4p P f args blks r) (K: ∀f k,T f=some (.fork k)->kR P f k.af=true):jF P (qL T R):=by
 intro f args blks r h;unfold qL at h;cases hTf:T f with
 |none=>simp_all
 |some en=>
  rw[hTf]at h;cases en with
  |prim g=>simp_all
  |fork k=>
   grind [JHB]
  |fn j=>
   dsimp only at h;split at h;rename_i I;have hc:=F f j hTf;unfold kR at hc;split at hc;cases hc;rename_i fn z;split at hc;cases hc;rename_i E C;simp only[aT,beq_iff_eq,bne_iff_ne,ne_eq]at hc;obtain⟨⟨⟨D,J⟩,G⟩,o⟩:=hc;refine⟨⟨fn,z,by simp[C],by simp_all⟩,λg w vals hinv hlen hrel=>?_⟩;refine calls_of_wp z C ?_;have y:Sim j.nt ⟨blks,g,w⟩ ⟨iT 0 args,blks⟩ {tmps:=vals++Array.replicate (fn.ntmps-vals.size) undef,defers:=[]} w:=(by refine⟨by simp;omega,rfl,g,hinv,λn x q=>?_,.refl _⟩;obtain⟨_,q⟩:=ZW q;rw[pX]at q;have H:=Jy q;refine⟨vals[n]'(by omega),?_,hrel n x _ q (vF _)⟩;grind);have fin: ∀{s},gV j blks.length s=some r-> ∀e w',Sim j.nt ⟨blks,g,w⟩ s e w'->e.defers=[]/\ ∃v,(results fn e.tmps).run P w'=.ok v w'/\ ∃B g',Ending.returned v=.returned B/\
     Inv ⟨r.2,g',w'⟩/\bC ⟨blks,g,w⟩ ⟨r.2,g',w'⟩/\JF ⟨r.2,g',w'⟩ r.1 B:=by
    grind [rc]
   split at h;rename_i s hR;exact(ih _ _ _ hR).get o y λe w' A=>fin h e w' A;rename_i s hR;exact(ih _ _ _ hR).get o y λe w' A=>fin h e w' A;cases h;cases h
theorem JIQ(a3:P.follows .mixedOrders=true)(hT: ∀f af,T f=some (.fn af)->kR P f af=true)
  (hP: ∀f g,T f=some (.prim g)-> ∀args blks r,g args blks=some r->J4p P f args blks r) (hK: ∀f k,T f=some (.fork k)->kR P f k.af=true): ∀c s r,X T c s=some r->LP P c s r:=by
 refine Z6 T _ ?_;intro R ih c s r h;have hF:jF P (qL T R):=qf ih hT hP hK;cases c with
 |skip=>
  simp only[step]at h;injection h with h;subst h;intro N j E a w Q hc q next;cases j<;>first
   |exact wp_skip (next a w q)
   |exact wp_label (next a w q)
   |grind [cU]
 |bad=>grind [step]
 |reg d pairs ins=>
  simp only[step]at h;split at h;rename_i s' a0;injection h with h;subst h;intro N j E a w Q hc q next;cases j<;>simp only[cU,eI]at hc;simp only[aT,beq_iff_eq]at hc;obtain⟨rfl,hc⟩:=hc;exact JKR hF a3 a0 hc q next
  cases h
 |seq x y=>
  simp only[step]at h;intro N j E a w Q hc q next;cases j<;>simp only[cU,eI]at hc;simp only[aT]at hc;refine wp_seq ?_;split at h
  rename_i s' C;refine(ih _ _ _ C).get hc.1 q λz w' hs'=>?_;exact(ih _ _ _ h).get hc.2 hs' next;rename_i W;refine(ih _ _ _ h).get hc.1 q λz w' hs'=>?_;obtain⟨e,s'⟩:=r;cases e with
  |normal=>simp_all
  |exit id=>exact next z w' hs'
  |ret=>exact next z w' hs'
 |cond c x y=>
  simp only[step]at h;intro N j E a w Q hc q next;cases j<;>simp only[cU,eI]at hc;simp only[aT]at hc;obtain⟨⟨Y,C⟩,hy⟩:=hc;have hs':=q;obtain⟨_,_,g,hi,B,_⟩:=hs';split at h
  rename_i b G;have hrel:=bK (s:=⟨s.sto,g,w⟩) (env:=s.env) B G Y;generalize I:a.eval _=v at hrel;cases hrel with
  |p _ _ hrel=>
   cases hrel with
   |b=>
    refine wp_cond I ?_;cases b with
    |true=>exact(ih _ _ _ (by simpa using h)).get C q next
    |false=>exact(ih _ _ _ (by simpa using h)).get hy q next
  rename_i G;have hrel:=bK (s:=⟨s.sto,g,w⟩) (env:=s.env) B G Y;generalize I:a.eval _=v at hrel;cases hrel with
  |unk t=>
   refine wp_cond I ?_;unfold same at h;split at h;rename_i r1 r2 e1 e2;split at h;rename_i L;injection h with h;subst h;cases t with
   |true=>exact(ih _ _ _ e1).get C q next
   |false=>rw[L]at next;exact(ih _ _ _ e2).get hy q next
   cases h;cases h
  cases h
 |block id x=>
  simp only[step]at h;intro N j E a w Q hc q next;cases j<;>simp only[cU,eI]at hc;simp only[aT,beq_iff_eq]at hc;obtain⟨rfl,hc⟩:=hc;refine wp_block ?_;split at h
  rename_i k s' C;refine(ih _ _ _ C).get hc q λz w' hs'=>?_;grind [qT,Exit.inBlock];rename_i W;refine(ih _ _ _ h).get hc q λz w' hs'=>?_;obtain⟨e,s'⟩:=r;cases e with
  |normal=>exact next z w' hs'
  |exit id=>simp_all
  |ret=>exact next z w' hs'
 |loop live x=>
  simp only[step]at h;intro N j E a w Q hc q next;cases j<;>simp only[cU,eI]at hc;split at h
  rename_i s' A;obtain⟨k,hk⟩:=ih _ _ _ h;have H:E.σ.length<=s.sto.length:=by obtain⟨_,_,g,_,_,ht⟩:=q;exact ht.len
  obtain⟨hs',hl⟩:=QT q A H (zQ0 _);exact wp_loop_rounds k (hk N _ E a w Q hc H (by omega) hs' next);cases h
 |lp n live x=>
  simp only[step]at h;split at h
  ·rename_i s' C;split at h
   ·rename_i au A;obtain⟨k,hk⟩:=ih _ _ _ h;refine⟨k+1,λN j E a w Q hc H hn q next=>?_⟩;rw[rounds_succ];obtain⟨h1,h2,g,hi,B,ht⟩:=q;have D:Sim N ⟨s.sto,g,w⟩ s a w:=⟨h1,h2,g,hi,B,.refl _⟩;refine(ih _ _ _ C).get hc D λz w' hs'=>?_;obtain⟨S,M,g',J,K,F⟩:=hs';have hlen:s.sto.length<=s'.sto.length:=F.len;have a8:Sim N E s' z w':=⟨S,M,g',J,K,ht.trans F⟩;obtain⟨a9,hl⟩:=QT a8 A H (by omega);exact hk N j E z w' Q hc H (by omega) a9 next
   cases h
  ·rename_i W;refine⟨1,λN j E a w Q hc H hn q next=>?_⟩;rw[rounds_succ];refine(ih _ _ _ h).get hc q λz w' hs'=>?_;obtain⟨e,s'⟩:=r;cases e with|normal=>simp_all|exit id=>exact next z w' hs'|ret=>exact next z w' hs'
 |scope x=>simp only[step]at h;intro N j E a w Q hc q next;cases j<;>simp only[cU,eI]at hc;refine wp_scope_straight ((ih _ _ _ h).get hc q λz w' hs'=>?_);have:=next z w' hs';obtain⟨e,s'⟩:=r;cases e<;>exact this
 |exit id=>
  simp only[step]at h;injection h with h;subst h;intro N j E a w Q hc q next;cases j<;>simp only[cU,eI]at hc;simp only[beq_iff_eq]at hc;subst hc;exact wp_exit (next a w q)
 |ret=>
  simp only[step]at h;injection h with h;subst h;intro N j E a w Q hc q next;cases j<;>simp only[cU,eI]at hc;exact wp_ret (next a w q)
 |keep live x=>simp only[step]at h;intro N j E a w Q hc q next;exact(ih _ _ _ h).get (by grind [cU]) (q.restr live) next
 |tidy live x=>
  simp only[step,lY]at h;intro N j E a w Q hc q next;split at h;rename_i e U L;split at h;rename_i s3 A;injection h with h;subst h;obtain⟨h1,h2,g,hi,B,ht⟩:=q;have D:Sim N ⟨s.sto,g,w⟩ s a w:=⟨h1,h2,g,hi,B,.refl _⟩;refine(ih _ _ _ L).get (by grind [cU]) D λz w' hs'=>next z w' ?_;obtain⟨S,M,g',J,K,F⟩:=hs';exact(QT (st:=U) (st':=s3) ⟨S,M,g',J,K,ht.trans F⟩ A ht.len F.len).1;cases h;cases h
 |br live pre o x y rest=>
  simp only[step]at h;intro N j E a w Q hc q next;unfold cU at hc;split at hc;rename_i cp cq cx cy cz;simp only[aT]at hc;obtain⟨⟨⟨⟨hp,ho⟩,C⟩,hy⟩,hz⟩:=hc;split at h;rename_i s1 a5;refine wp_seq (wp_seq ((ih _ _ _ a5).get hp q λV O Z=>?_));have ac: ∀{c:bU} {j:Code} {r':Out},cU P N c j=true->thn (R c s1) (λs=>R rest s)=some r'->
    ∀{E:Sn} {a:Act} {w:World} {Q:Exit->Act->World->Prop},Sim N E s1 a w->(∀z w',Sim N E r'.2 z w'->Q (qT r'.1) z w')->j.wp P (Exit.then (cz.wp P Q) Q) a w:=by
   intro c j r' hc ht E a w Q q next;cases hR:R c s1 with
   |none=>rw[hR]at ht;cases ht
   |some o=>
    obtain⟨e,U⟩:=o;rw[hR]at ht;refine(ih _ _ _ hR).get hc q λz w' hs'=>?_;cases e with
    |normal=>exact(ih _ _ _ ht).get hz hs' next
    |exit id=>injection ht with ht;subst ht;exact next z w' hs'
    |ret=>injection ht with ht;subst ht;exact next z w' hs'
  have ag: ∀{c:bU} {j:Code},cU P N c j=true->lY s1.sto.length live (thn (R c s1) λs=>R rest s)=some r->j.wp P (Exit.then (cz.wp P Q) Q) V O:=(by intro c j hc ht;unfold lY at ht;split at ht;rename_i e U L;split at ht;rename_i s3 A;injection ht with ht;subst ht;obtain⟨h1,h2,g,hi,B,ht⟩:=Z;have D:Sim N ⟨s1.sto,g,O⟩ s1 V O:=⟨h1,h2,g,hi,B,.refl _⟩;refine ac hc L D λz w' hs'=>next z w' ?_;obtain⟨S,M,g',J,K,F⟩:=hs';exact(QT (st:=U) (st':=s3) ⟨S,M,g',J,K,ht.trans F⟩ A ht.len F.len).1;cases ht;cases ht);have a2:=Z;obtain⟨_,_,g,hi,B,_⟩:=a2;simp only[qT,Exit.then];split at h;rename_i b G;have hrel:=bK (s:=⟨s1.sto,g,O⟩) (env:=s1.env) B G ho;generalize I:V.eval cq=v at hrel;cases hrel with
  |p _ _ hrel=>cases hrel<;>grind [wp_cond]
  rename_i G;have hrel:=bK (s:=⟨s1.sto,g,O⟩) (env:=s1.env) B G ho;generalize I:V.eval cq=v at hrel;cases hrel with
  |unk t=>
   refine wp_cond I ?_;unfold same at h;grind
  cases h;cases h;cases hc
theorem Dm(e:P.follows .mixedOrders=true)(j: ∀f o,T f=some (.fn o)->kR P f o=true)
  (h: ∀f g,T f=some (.prim g)-> ∀args blks r,g args blks=some r->J4p P f args blks r) (n: ∀f k,T f=some (.fork k)->kR P f k.af=true):jF P (AF T):=
 qf (JIQ e j h n) j h n
end
end Go.Am
end
section
namespace Go.Am
@[congr] theorem JNk{o e:Option Out}{k:St->Option Out}(h:o=e):thn o k=thn e k:=by rw[h]
@[congr] theorem JMm{α β:Type}{o e:RM α}{f:α->RM β}(h:o=e):o.bind f=e.bind f:=by rw[h]
@[congr] theorem JMn{α β:Type}{o e:Option α}{f:α->Option β}(h:o=e):o.bind f=e.bind f:=by rw[h]
@[simp] theorem MN(s k):thn (some (.normal,s)) k=k s:=rfl
@[simp] theorem JGU(i s k):thn (some (.exit i,s)) k=some (.exit i,s):=rfl
@[simp] theorem JIO(s k):thn (some (.ret,s)) k=some (.ret,s):=rfl
@[simp] theorem JFH(k):thn none k=none:=rfl
def HU(o:Option Out)(k:St->Option Out):Option Out:=
 match o with
 |some (.normal,s)=>k s
 |_=>none
@[congr] theorem JMr{o e:Option Out}{k:St->Option Out}(h:o=e):HU o k=HU e k:=by rw[h]
@[simp] theorem Iq(s k):HU (some (.normal,s)) k=k s:=rfl
def blo(id:Nat)(o:Option Out):Option Out:=
 match o with
 |some (.exit k,s)=>if k=id then some (.normal,s)else some (.exit k,s)
 |o=>o
@[simp] theorem JD0(id s):blo id (some (.normal,s))=some (.normal,s):=rfl
@[simp] theorem pe(id i s):blo id (some (.exit i,s))=if i=id then some (.normal,s)else some (.exit i,s):=rfl
@[simp] theorem JJM(id s):blo id (some (.ret,s))=some (.ret,s):=rfl
@[simp] theorem JGy(id):blo id none=none:=rfl
def nrm(o:Option St):Option Out:=match o with|some s=>some (.normal,s)|none=>none
@[simp] theorem JHZ(s):nrm (some s)=some (.normal,s):=rfl
@[simp] theorem JHe:nrm none=none:=rfl
def evv(x:Opd)(env:List (Nat×AV)):Option AV:=match x with| .t n=>lk n env| .c v=>some v
@[simp] theorem JNT(n env):evv (.t n) env=lk n env:=rfl
@[simp] theorem JNU(v env):evv (.c v) env=some v:=rfl
theorem PL(x:Opd)(s:St):(ev x).run s=evv x s.env:=by cases x<;>grind [ev,RM.run,evv]
section
variable (T:cZ)
@[simp ↓] theorem JNO(s):X T .skip s=some (.normal,s):=by rw[lR];rfl
@[simp ↓] theorem Dt(a b s):X T (.seq a b) s=thn (X T a s) λs=>X T b s:=by
 rw[lR];simp only[step];cases X T a s with
 |none=>rfl
 |some o=>obtain⟨e,s'⟩:=o;cases e<;>rfl
theorem Dk(d ps ins s):X T (.reg d ps ins) s=nrm (region (AF T) ps ins s):=by rw[lR];simp only[step];show(match region (AF T) ps ins s with|some s'=>some (AX.normal,s')|none=>none)=_;cases region (AF T) ps ins s<;>rfl
@[simp ↓] theorem JNQ(d ins env sto):X T (.reg d [] ins) ⟨env,sto⟩=nrm (fU (AF T) ins sto.length ⟨env,room (news ins) sto⟩):=by rw[Dk];rfl
def cnd(x:Option AV)(a b:Option Out)(c:Unit->Option Out):Option Out:=
 match x with
 |some (.p (.b x))=>if x=true then a else b
 |some .unk=>c ()
 |_=>none
@[congr] theorem JNi{x e:Option AV}{a b:Option Out}{c:Unit->Option Out}(h:x=e):cnd x a b c=cnd e a b c:=by rw[h]
@[simp] theorem Di(x a b c):cnd (some (.p (.b x))) a b c=if x=true then a else b:=rfl
@[simp] theorem JJS(a b c):cnd (some .unk) a b c=c ():=rfl
@[simp ↓] theorem JK4(x a b s):X T (.cond x a b) s=cnd (evv x s.env) (X T a s) (X T b s) λ_=>same (X T a s) (X T b s):=by
 rw[lR];simp only[step,PL];cases evv x s.env with
 |none=>rfl
 |some v=>
  cases v with
  |p c=>cases c<;>rfl
  |_=>rfl
@[simp ↓] theorem JIC(id c s):X T (.block id c) s=blo id (X T c s):=by
 rw[lR];simp only[step];cases X T c s with
 |none=>rfl
 |some o=>obtain⟨e,s'⟩:=o;cases e<;>rfl
@[simp ↓] theorem JIZ(c s):X T (.scope c) s=X T c s:=by rw[lR];rfl
@[simp ↓] theorem JNN(id s):X T (.exit id) s=some (.exit id,s):=by rw[lR];rfl
@[simp ↓] theorem JMW(s):X T .ret s=some (.ret,s):=by rw[lR];rfl
@[simp ↓] theorem D1(live c s):X T (.keep live c) s=X T c ⟨restr live s.env,s.sto⟩:=by rw[lR];rfl
@[simp ↓] theorem JNW(live pre x a b rest s):X T (.br live pre x a b rest) s=HU (X T pre s) λs1=>
  cnd (evv x s1.env) (thn (X T a s1) λs=>X T rest s) (thn (X T b s1) λs=>X T rest s) λ_=>
   same (lY s1.sto.length live (thn (X T a s1) λs=>X T rest s)) (lY s1.sto.length live (thn (X T b s1) λs=>X T rest s)):=by
 rw[lR];simp only[step,PL];cases X T pre s with
 |none=>rfl
 |some o=>
  obtain⟨e,s1⟩:=o;cases e with
  |normal=>
   dsimp only[HU];cases evv x s1.env with
   |none=>rfl
   |some v=>
    cases v with
    |p c=>cases c<;>rfl
    |_=>rfl
  |exit=>rfl
  |ret=>rfl
@[simp ↓] theorem JLk(live c env sto):X T (.loop live c) ⟨env,sto⟩=X T (.lp sto.length live c) ⟨restr live env,sto⟩:=by
 grind [lR,step,clean]
theorem lg(n live c s):X T (.lp n live c) s=thn (X T c s) λs=>match clean n live s with
  |some s=>X T (.lp n live c) s
  |none=>none:=by
 rw[lR];simp only[step];cases X T c s with
 |none=>rfl
 |some o=>obtain⟨e,s'⟩:=o;cases e<;>rfl
def HL(res:List vN)(fresh:Bool)(m:Nat)(o:Option Out):Option Res:=
 match o with
 |some (.normal,s)=>gV ⟨0,0,.skip,res,fresh⟩ m s
 |some (.ret,s)=>gV ⟨0,0,.skip,res,fresh⟩ m s
 |_=>none
@[congr] theorem JMV{res:List vN}{fresh:Bool}{m:Nat}{o e:Option Out}(h:o=e):HL res fresh m o=HL res fresh m e:=by rw[h]
@[simp] theorem Ih(res fresh m s):HL res fresh m (some (.normal,s))=gV ⟨0,0,.skip,res,fresh⟩ m s:=rfl
@[simp] theorem JHD(res fresh m s):HL res fresh m (some (.ret,s))=gV ⟨0,0,.skip,res,fresh⟩ m s:=rfl
@[simp] theorem JMH(o:Option Res):KP o o=o:=by unfold KP;cases o<;>simp
theorem JNc{f:FuncId}{fn:AFn}(h:T f=some (.fn fn))(args blks):AF T f args blks=if args.length=fn.np then
  HL fn.res fn.fresh blks.length (X T fn.body ⟨iT 0 args,blks⟩)
 else none:=by
 unfold AF qL;rw[h];rfl
end
variable {F:Orc} {env:List (Nat×AV)} {sto:List Blk} {new:Nat} {r:List bQ} {d:Nat}
@[simp] theorem JBI(s):fU F [] new s=some s:=rfl
theorem Ik(i s):fU F (i::r) new s=((bT F i new).run s).bind λe=>fU F r (new+lV i.op) (put i.dst e s):=by
 grind [fU]
@[simp] theorem JNs:news []=0:=rfl
@[simp ↓] theorem JNj(i):news (i::r)=lV i.op+news r:=rfl
@[simp] theorem JNR:room 0 sto=sto:=rfl
@[simp] theorem JNg(n):room (n+1) sto=sto++List.replicate (n+1) .dead:=rfl
@[simp] theorem JNS(n):lk n []=none:=rfl
@[simp] theorem JJj(n m v)(r:List (Nat×AV)):lk n ((m,v)::r)=if n=m then some v else lk n r:=rfl
attribute [simp ↓] Ik bT opD tF lV run_bind PL opR
attribute [simp] put val evs evo kG nO
 mW yA yF unP iW HQ fz fz.fzL fz.fz1 fzs zX gE hQ sub spl qP OZ IN LF LB lZ OJ vE pA kE wO wL fK qH iR mmP cellsOf unp oY kD
 mV one iT gG LL mD
@[simp] theorem JNl(o:Option Out):same o o=o:=by unfold same;cases o<;>simp
@[simp ↓] theorem JW{α:Type}(a:α)(s:St):(RM.ret a).run s=some a:=rfl
@[simp ↓] theorem JNG{α:Type}(s:St):(RM.fail:RM α).run s=none:=rfl
@[simp ↓] theorem xA{α:Type}(n:Nat)(k:AV->RM α)(s:St):(RM.slot n k).run s=(lk n s.env).bind λv=>(k v).run s:=by grind [RM.run]
@[simp ↓] theorem dX{α:Type}(n:Nat)(k:Blk->RM α)(s:St):(RM.blk n k).run s=(s.sto[n]?).bind λv=>(k v).run s:=by grind [RM.run]
@[simp] theorem JIw:upd [] sto=sto:=rfl
@[simp] theorem JGP(b x ws):upd ((b,x)::ws) sto=upd ws (sto.set b x):=rfl
@[simp] theorem JNh:restr [] env=[]:=rfl
@[simp] theorem JD9(k l):restr (k::l) env=match lk k env with
 |some v=>(k,v)::restr l env
 |none=>restr l env:=rfl
end Go.Am
namespace Go.Am
def oV:AV->Bool| .p _| .data _| .cp _ _| .unk=>true|_=>false
@[simp] theorem JNt(c):oV (.p c)=true:=rfl
@[simp] theorem JMo(c):oV (.data c)=true:=rfl
@[simp] theorem JNf(c o):oV (.cp c o)=true:=rfl
theorem tq: ∀{args:List AV} {l:List Ent},args.all oV=true->cF.entsOfL args l=l|[],l,_=>rfl|x::r,l,h=>by simp only[List.all_cons,aT]at h;obtain⟨h1,h2⟩:=h;simp only[cF.entsOfL];cases x<;>simp[oV]at h1<;>simp only[cF]<;>exact tq h2
theorem qu{ρ:Ent->Option Nat}: ∀{args:List AV},args.all oV=true->ren.renL ρ args=some args|[],_=>rfl|x::r,h=>by simp only[List.all_cons,aT]at h;have:=qu (ρ:=ρ) h.2;have h1:=h.1;clear h;cases x<;>simp[oV]at h1<;>simp[ren.renL,ren,this]
theorem JGX{es:List Ent}{new:Nat}{x:AV}(h:oV x=true):bk es new x=some x:=by cases x<;>simp[oV]at h<;>rfl
theorem fa{es:List Ent}{new:Nat}: ∀{xs:List AV},xs.all oV=true->bk.bkL es new xs=some xs|[],_=>rfl|x::r,h=>by simp only[List.all_cons,aT]at h;simp[bk.bkL,JGX h.1,fa h.2]
@[simp] theorem JNV(es new c):bk es new (.p c)=some (.p c):=rfl
@[simp] theorem JNM(es new c):bk es new (.data c)=some (.data c):=rfl
@[simp] theorem JNP(es new l):bk es new (.tup l)=(bk.bkL es new l).map .tup:=by grind [bk]
@[simp] theorem JNL(es new):bk.bkL es new []=some []:=rfl
@[simp] theorem JNx(es new x l):bk.bkL es new (x::l)=(bk es new x).bind λy=>(bk.bkL es new l).map λl=>y::l:=by simp only[bk.bkL];cases bk es new x<;>simp;cases bk.bkL es new l<;>rfl
@[simp] theorem JMp(n live):lY n live none=none:=rfl
@[simp] theorem Ls(n live e s):lY n live (some (e,s))=(clean n live s).map λs=>(e,s):=by
 grind [lY]
attribute [simp ↓] JL Option.bind_none MN JGU JIO JFH Iq JHZ JHe Di JJS JD0 pe JJM JGy Ih JHD JBI JJj JD9 JIw JGP
attribute [simp] clean vM qI fT fin fin.finL gV jH qJ cF cF.entsOfL wM jD vV eE unp
end Go.Am
end
section
namespace Go.Am
inductive Fr where|sq (b:bU)|bl (id:Nat)|td (n:Nat) (live:List Nat)|lo (n:Nat) (live:List Nat) (c:bU)
noncomputable def again(T:cZ)(n:Nat)(live:List Nat)(c:bU)(o:Option St):Option Out:=match o with|some s=>X T (.lp n live c) s|none=>none
section
variable (T:cZ) (f:AFn) (m:Nat) (k:List Fr)
theorem JKD(live c s):X T (.tidy live c) s=lY s.sto.length live (X T c s):=by rw[lR];rfl
end
open Classical in
noncomputable def J6{σ ρ:Type}(f:σ->Option (σ⊕ρ))(s:σ):Option ρ:=
 let e:Nat->σ->Option ρ:=λn=>n.rec (λ_=>none) λ_ ih s=>match f s with|some (.inl s')=>ih s'|some (.inr r)=>some r|none=>none
 if h: ∃n r,e n s=some r then e (Classical.choose h) s else none
def cW{σ ρ:Type}(f:σ->Option (σ⊕ρ)):Nat->σ->Option ρ|0,_=>none|n+1,s=>match f s with|some (.inl s')=>cW f n s'|some (.inr r)=>some r|none=>none
section
variable {σ ρ:Type} {f:σ->Option (σ⊕ρ)}
theorem ZZ(n:Nat): ∀s:σ,(Nat.rec (motive:=λ_=>σ->Option ρ) (λ_=>none) (λ_ ih s=>match f s with
  |some (.inl s')=>ih s'
  |some (.inr r)=>some r
  |none=>none) n) s=cW f n s:=by
 induction n with
 |zero=>intro s;rfl
 |succ n ih=>grind [cW]
theorem fg: ∀{n:Nat} {s:σ} {r:ρ} (m:Nat),cW f n s=some r->cW f (n+m) s=some r
 |0,_,_,_,h=>by cases h
 |n+1,s,r,m,h=>by
  rw[show n+1+m=(n+m)+1 by omega];simp only[cW]at h⊢;split at h;exact fg m h
  all_goals simp_all
theorem JG4{n m:Nat}{s:σ}{r r':ρ}(h:cW f n s=some r)(e:cW f m s=some r'):r=r':=by
 have a:=fg m h;have b:=fg n e;grind
theorem iJ{s:σ}{r:ρ}:J6 f s=some r↔ ∃n,cW f n s=some r:=by
 unfold J6;dsimp only;constructor;intro h;split at h;exact⟨_,by rw[<-ZZ];exact h⟩;cases h;rintro⟨n,h⟩;have e: ∃n r,(Nat.rec (motive:=λ_=>σ->Option ρ) (λ_=>none) (λ_ ih s=>match f s with
  |some (.inl s')=>ih s'
  |some (.inr r)=>some r
  |none=>none) n) s=some r:=⟨n,r,by grind [ZZ]⟩
 rw[dif_pos e];obtain⟨r',g⟩:=Classical.choose_spec e;rw[g];rw[ZZ]at g;grind [JG4]
theorem fA{s:σ}{r:ρ}(h:f s=some (.inr r)):J6 f s=some r:=iJ.2 ⟨1,by grind [cW]⟩
theorem hV{s s':σ}(h:f s=some (.inl s')):J6 f s=J6 f s':=by
 have g: ∀r,J6 f s=some r↔J6 f s'=some r:=by
  intro r;rw[iJ,iJ];constructor;rintro⟨n,e⟩;cases n<;>grind [cW]
  rintro⟨n,e⟩;exact⟨n+1,by grind [cW]⟩
 cases hs:J6 f s with
 |some r=>grind
 |none=>cases hs':J6 f s'<;>grind
theorem JCs{s:σ}(h:f s=none):J6 f s=none:=by
 cases hs:J6 f s with
 |none=>rfl
 |some r=>obtain⟨n,e⟩:=iJ.1 hs;cases n<;>simp_all [cW]
theorem fb{P:σ->ρ->Prop}(h1: ∀s r,f s=some (.inr r)->P s r)(h2: ∀s s' r,f s=some (.inl s')->P s' r->P s r){s:σ}{r:ρ}(h:J6 f s=some r):P s r:=by
 obtain⟨n,e⟩:=iJ.1 h;clear h
 induction n generalizing s with
 |zero=>cases e
 |succ n ih=>
  grind [cW]
end
end Go.Am
end
section
namespace Go.Am
section
variable {α:Type}
def idx(l:List α)(n:Int):Option α:=if 0<=n then l[n.toNat]? else none
def aW(k:Nat)(n:Int):Option Unit:=if 0<=n/\n<k then some ()else none
def JH(bytes:Nat)(l l':List α):Option (List α):=if qH (l.length+l'.length) bytes=true then some (l++l')else none
def cN(bytes:Nat)(l:List α):Option (List α):=if qH l.length bytes=true then some l else none
def mkS(bytes:Nat)(n m:Int)(z:α):Option (List α):=if 0<=n/\n<=m/\bytes*m<=281474976710656/\m<=281474976710656 then some (List.replicate n.toNat z)else none
def sY(x:Option Int)(top e:Nat):Option Nat:=match x with|none=>some e|some n=>if 0<=n/\n<=top then some n.toNat else none
def pZ(n:Nat)(lo hi:Option Int):Option (Nat×Nat):=match sY hi n n with|none=>none|some h=>match sY lo h 0 with|none=>none|some l=>some (l,h)
def bH(l:List α)(lo hi:Option Int):Option (List α):=match pZ l.length lo hi with|some c=>some ((l.drop c.1).take (c.2-c.1))|none=>none
def C6(k:IntKind)(x y:Int):Option Int:=if y=0 then none else some (k.wrap (x.tdiv y))
def vJ(x y:Int):Option Int:=if y=0 then none else some (x.tmod y)
def sP(k:IntKind)(x y:Int):Option Int:=if y<0 then none else some (k.wrap (x*2^(min y.toNat k.bits)))
def jR(k:IntKind)(x y:Int):Option Int:=if y<0 then none else some (x.fdiv (2^(min y.toNat k.bits)))
def qE(k:IntKind)(x y:Int):Int:=k.wrap (BitVec.ofInt k.bits x&&&BitVec.ofInt k.bits y).toNat
def orI(k:IntKind)(x y:Int):Int:=k.wrap (BitVec.ofInt k.bits x|||BitVec.ofInt k.bits y).toNat
def fG(k:IntKind)(x y:Int):Int:=k.wrap (BitVec.ofInt k.bits x^^^BitVec.ofInt k.bits y).toNat
def VN(k:IntKind)(n:Int):Int:=k.wrap (BitVec.ofInt k.bits (if k.signed then -1 else k.max)^^^BitVec.ofInt k.bits n).toNat
def dA(a b:List UInt8):Option (List UInt8):=if a.length+b.length<=4611686018427387904 then some (a++b)else none
def oA(l:List UInt8)(n:Int):Option Int:=if 0<=n then(match l[n.toNat]? with|some u=>some (u.toNat:Int)|none=>none)else none
def ki{k:Nat}(v:Vector α k)(n:Int):Option α:=if 0<=n/\n<k then v[n.toNat]? else none
def toStr(l:List Int):List UInt8:=l.map λn=>UInt8.ofNat n.toNat
def aS(l:List UInt8):List Int:=l.map λu=>(u.toNat:Int)
def lM(x y:Int):Int:=if y<x then y else x
def cO(x y:Int):Int:=if y>x then y else x
end
@[reducible] def cat(a b:List PV):List PV:=a++b
def r_i(k:IntKind)(n:Int):List PV:=[.i k n]
def r_b(x:Bool):List PV:=[.b x]
def r_s(l:List UInt8):List PV:=[.s l]
def JNC{α:Type}(esz:Nat)(r:α->List PV)(l:List α):List PV:=[.sl esz (l.map r)]
def oF{α:Type}{n:Nat}(r:α->List PV)(v:Vector α n):List PV:=(v.toList.map r).flatten
section
variable {α:Type}
theorem zQ(cs:List α)(off size:Nat):sub cs off size=if off+size<=cs.length then some ((cs.drop off).take size)else none:=by
 grind [sub]
theorem FM(cs:List α)(off:Nat)(vs:List α):spl cs off vs=if off+vs.length<=cs.length then some (cs.take off++vs++cs.drop (off+vs.length))else none:=by simp_all
theorem ZH{cs:List α}{n:Nat}(h:cs.length=n):sub cs 0 n=some cs:=by simp_all
theorem Gi{cs vs:List α}(h:cs.length=vs.length):spl cs 0 vs=some vs:=by simp_all
theorem JFw{a b c:List α}{off size:Nat}(h1:a.length=off)(h2:b.length=size):sub (a++(b++c)) off size=some b:=by
 grind [zQ]
theorem JDs{b c:List α}{size:Nat}(h2:b.length=size):sub (b++c) 0 size=some b:=JFw (a:=[]) rfl h2
theorem JEj{a b c v:List α}{off:Nat}(h1:a.length=off)(h2:b.length=v.length):spl (a++(b++c)) off v=some (a++(v++c)):=by
 grind [FM]
theorem JDG{b c v:List α}(h2:b.length=v.length):spl (b++c) 0 v=some (v++c):=JEj (a:=[]) rfl h2
theorem Hu{cs e r:List α}{a m k n:Nat}(h1:sub cs a m=some e)(h2:sub e k n=some r):sub cs (a+k) n=some r:=by
 grind [zQ,List.drop_take,List.drop_drop]
theorem G9{cs g e v cs':List α}{a m k:Nat}(h1:sub cs a m=some g)(h2:spl g k v=some e)(h3:spl cs a e=some cs'):spl cs (a+k) v=some cs':=by
 rw[zQ]at h1;rw[FM]at h2 h3⊢;split at h1;rename_i o;injection h1 with h1;subst h1;split at h2;rename_i j;injection h2 with h2;subst h2;simp at j;split at h3;injection h3 with h3;subst h3;rw[if_pos (by omega)]
 congr 1
 simp only[fR,yT,DU,List.take_take,List.drop_take,EC,lL];have h:cs.take (a+k)=cs.take a++(cs.drop a).take k:=List.take_add ..;rw[h,lL];rw[show min k m=k by omega]
 congr 3
 have n:cs.drop (a+k+v.length)=(cs.drop (a+(k+v.length))).take (m-(k+v.length))++cs.drop (a+m):=(by have:=oG (m-(k+v.length)) (cs.drop (a+(k+v.length)));rw[EC]at this;rw[show a+(k+v.length)+(m-(k+v.length))=a+m by omega]at this;grind);rw[n]
 congr 2
 omega;cases h3;cases h2;cases h1
theorem FT{β:Type}(g:α->β)(cs:List α)(off size:Nat):sub (cs.map g) off size=(sub cs off size).map (List.map g):=by
 grind [zQ,List.map_drop,List.map_take]
theorem FR{β:Type}(g:α->β)(cs:List α)(off:Nat)(vs:List α):spl (cs.map g) off (vs.map g)=(spl cs off vs).map (List.map g):=by
 grind [FM,List.map_drop,List.map_take]
theorem LN{n k w:Nat}{r:α->List PV}(hr: ∀x,(r x).length=w){v:Vector α n}{x:α}(h:v[k]?=some x):sub (oF r v) (k*w) w=some (r x):=by
 have g: ∀(l:List α) (k:Nat) (x:α),l[k]?=some x->sub ((l.map r).flatten) (k*w) w=some (r x):=by
  intro l
  induction l with
  |nil=>simp_all
  |cons y l ih=>
   intro k x h;cases k with
   |zero=>
    grind [JDs]
   |succ k=>
    simp at h;have:=ih k x h;rw[bR,qF];rw[zQ]at this⊢;split at this;injection this with this;have e:(k+1)*w=w+k*w:=by grind
    rw[e,if_pos (by grind)];have j:w+k*w=(r y).length+k*w:=by rw[hr]
    rw[j,List.drop_length_add_append,this];cases this
 exact g _ _ _ (by simp_all)
theorem Ep{n k w:Nat}{r:α->List PV}(hr: ∀x,(r x).length=w){v:Vector α n}(h:k<n)(y:α):spl (oF r v) (k*w) (r y)=some (oF r (v.setIfInBounds k y)):=by
 have g: ∀(l:List α) (k:Nat),k<l.length->spl ((l.map r).flatten) (k*w) (r y)=some (((l.set k y).map r).flatten):=by
  intro l
  induction l with
  |nil=>simp_all
  |cons z l ih=>
   intro k h;cases k with
   |zero=>
    grind [JDG]
   |succ k=>
    simp at h;have:=ih k h;rw[bR,qF];rw[FM]at this⊢;split at this;rename_i j;injection this with this;have e:(k+1)*w=(r z).length+k*w:=by grind
    rw[e,if_pos (by grind)];simp only[List.set_cons_succ,bR,qF];rw[<-this];rw[show(r z).length+k*w+(r y).length=(r z).length+(k*w+(r y).length) by omega];simp[List.take_length_add_append];cases this
 grind [oF]
theorem JLr{n w:Nat}{r:α->List PV}(hr: ∀x,(r x).length=w)(v:Vector α n):(oF r v).length=n*w:=by
 have e: ∀l:List α,((l.map r).flatten).length=l.length*w:=by
  intro l
  induction l with
  |nil=>simp
  |cons x l ih=>grind
 grind [oF]
end
theorem MD: ∀l:List PV,unp (l.map AV.p)=some l|[]=>rfl|x::l=>by simp[unp,MD l]
theorem uo(l:List PV):kG true (l.map AV.p)=some (.data l):=by simp[MD]
theorem WM: ∀l:List PV,(l.map AV.p).all oV=true|[]=>rfl|x::l=>by simp
theorem sf(m:Nat)(ids:List Nat)(sto:List Blk): ∀l:List PV,fin.finL m ids sto (l.map AV.p)=some (l.map AV.p)|[]=>rfl|x::l=>by simp[fin.finL,fin,sf m ids sto l]
theorem rn(l:List PV)(acc:List Ent):cF.entsOfL (l.map AV.p) acc=acc:=tq (WM l)
theorem JEf{α:Type}{r:α->List PV}{l:List α}{n:Int}{x:α}(h:idx l n=some x):OJ (l.map r) n=some (r x):=by simp_all [idx]
theorem Fk{k:Nat}{n:Int}{u:Unit}(h:aW k n=some u):0<=n/\n<k:=by
 grind [aW]
theorem JFJ{α:Type}{k:Nat}{v:Vector α k}{n:Int}{x:α}(h:ki v n=some x):(0<=n/\n<k)/\v[n.toNat]?=some x:=by
 grind [ki]
theorem JJr{α:Type}{r:α->List PV}{esz bytes b:Nat}{w:Bool}{l l' l2:List α}{y:AV}{s:St}(h:JH bytes l l2=some l')(hb:s.sto[b]?=some (.arr w esz (l.map r)))(hy:(fK esz y).run s=some (l2.map r)):
  (iR esz bytes (.slr b 0 l.length) y).run s=some ⟨.slr b 0 l'.length,[(b,.arr w esz (l'.map r))]⟩:=by
 grind [JH,iR,dX,run_bind,JW]
theorem ga: ∀l:List Int,tX (l.map (r_i .u8))=some (toStr l)|[]=>rfl|x::l=>by simp[tX,r_i,ga l,toStr]
theorem da(l:List UInt8):l.map mD=(aS l).map (r_i .u8):=by simp[aS,r_i]
theorem JFF{α:Type}{bytes:Nat}{l l':List α}(h:cN bytes l=some l'):qH l.length bytes=true/\l'=l:=by
 grind [cN]
theorem JJF{α:Type}{bytes:Nat}{n m:Int}{z:α}{l:List α}(h:mkS bytes n m z=some l):(0<=n/\n<=m/\bytes*m<=281474976710656/\m<=281474976710656)/\l=List.replicate n.toNat z:=by
 grind [mkS]
end Go.Am
end
section
set_option linter.unusedSimpArgs false
set_option linter.unusedVariables false
namespace Go.Am
open Go.RowKit
theorem ow{σ:List Blk}{g:Gh}{w w':World}(hi:Inv ⟨σ,g,w⟩)(hb:Below w.heap.size w w'):
  Inv ⟨σ,g,w'⟩/\bC ⟨σ,g,w⟩ ⟨σ,g,w'⟩:=by
 have j: ∀(r:Nat) x,w.heap[r]?=some x->w'.heap[r]?=some x:=λr x h=>by rw[hb.block r (xI h)];exact h
 have hc: ∀r o v,cellAt w r o=some v->cellAt w' r o=some v:=(by grind [cellAt]);have t:bC ⟨σ,g,w⟩ ⟨σ,g,w'⟩:=by
  refine⟨⟨hb.size,λr c e fz h=>⟨c,j r _ h,rfl,λ_ _=>rfl⟩,λr x h _=>j r x h,hb.os,hb.output⟩,λ_ _ h=>h,λ_ _ h=>.inl h,λr o ⟨b,hb⟩=>.inl ⟨b,hb⟩,zQ0 _,λ_ cs h=>⟨⟨cs,h,rfl⟩,rfl⟩,
   λ_ wm _ rows h=>⟨wm,rows,h,id,zQ0 _,λ_=>rfl⟩⟩
 exact⟨nJ hi t (λ_=>False) (λ_ _=>⟨rfl,rfl⟩) (λ_ r o v _ _ h=>hc r o v h) (λ_ _ h=>h.elim) (λ_ _ _ _ h=>h.elim)
  (λ_ _ _ _ h=>h.elim) (λr o h=>Nat.lt_of_lt_of_le (hi.const r o h).1 hb.size) (λ_ _ _ _ h=>h.elim) (λ_ _ _ h k=>(k h).elim),t⟩
def JcM:PV->Option Value| .b x=>some (.bool x)| .i k n=>some (.int k n)| .s l=>some (.string ⟨l.toArray⟩)|_=>none
theorem Jh7{x:PV}{v:Value}(h:JcM x=some v)(w:World)(C:Nat->Nat->Prop):J08 w C x v:=by
 cases x<;>simp only[JcM,Option.some.injEq,reduceCtorEq]at h<;>subst h
 exact .b _;exact .i _ _;exact .s _
theorem ZS{x:PV}{v e:Value}{w:World}{C:Nat->Nat->Prop}(h:J08 w C x v)(hv:JcM x=some e):v=e:=by cases x<;>simp only[JcM,Option.some.injEq,reduceCtorEq]at hv<;>subst hv<;>cases h<;>rfl
theorem JBo{P:Program}{f:FuncId}{xs:List PV}{vs:List Value}{r:PV}{v:Value}{blks:List Blk}
  (hf: ∃fn,P.funcs[f]?=some fn∧fn.body.isSome=true∧(fn.name== "runtime.NumGoroutine")=false)
  (hx:xs.mapM JcM=some vs) (hr:JcM r=some v)
  (hc: ∀w,Calls P f vs.toArray w λe w'=>e=.returned v/\Below w.heap.size w w'):
  J4p P f (xs.map .p) blks (.p r,blks):=by
 refine⟨hf,λg w vals hi C E=>?_⟩;have h:vals=vs.toArray:=by
  have n: ∀(xs:List PV) (vs vl:List Value),xs.mapM JcM=some vs->xs.length=vl.length->
    (∀(i:Nat) x v,(xs.map AV.p)[i]?=some x->vl[i]?=some v->JF ⟨blks,g,w⟩ x v)->vl=vs:=by
   intro xs
   induction xs with
   |nil=>grind
   |cons x r ih=>
    intro vs vl h1 h2 q;simp only[List.mapM_cons,Option.pure_def,Option.bind_eq_bind]at h1;obtain⟨v0,o,h1⟩:=bJ.1 h1;obtain⟨z,k,h1⟩:=bJ.1 h1;simp only[Option.some.injEq]at h1;subst h1;cases vl with
    |nil=>simp at h2
    |cons u y=>
     have:=q 0 (.p x) u rfl rfl;cases this with
     |p _ _ B=>rw[ZS B o,ih z y k (by simpa using h2) (λi x v hx D=>q (i+1) x v hx D)]
  apply UE;rw[n xs vs vals.toList hx (by simpa using C) (λi x v h1 h2=>E i x v h1 (by simpa using h2))]
 subst h;refine(hc w).mono ?_;rintro e w' ⟨rfl,A⟩;obtain⟨j,t⟩:=ow hi A;exact⟨v,g,rfl,j,t,.p _ _ (Jh7 hr _ _)⟩
theorem PX{T:cZ}{f:FuncId}{g:List AV->List Blk->Option Res}(h:T f=some (.prim g))(args blks):AF T f args blks=g args blks:=by simp_all [AF,qL]
def Cz(a:Option AFn)(k:Option oB)(g q:Option (List AV->List Blk->Option Res)):Option Entry:=
 match a with
 |some a=>some (.fn a)
 |none=>match k with|some k=>some (.fork k)|none=>match g with|some g=>some (.prim g)|none=>q.map .prim
theorem FX{a:Option AFn}{k:Option oB}{g q:Option (List AV->List Blk->Option Res)}{e:Entry}(h:Cz a k g q=some e):
  (∃x,a=some x/\e=.fn x)\/(∃x,k=some x/\e=.fork x)\/(∃x,g=some x/\e=.prim x)\/(∃x,q=some x/\e=.prim x):=by
 cases a with
 |some a=>exact .inl ⟨a,rfl,by injection h with h;exact h.symm⟩
 |none=>
  cases k with
  |some k=>exact .inr (.inl ⟨k,rfl,by injection h with h;exact h.symm⟩)
  |none=>
   cases g with
   |some g=>exact .inr (.inr (.inl ⟨g,rfl,by injection h with h;exact h.symm⟩))
   |none=>
    cases q with
    |some q=>exact .inr (.inr (.inr ⟨q,rfl,by injection h with h;exact h.symm⟩))
    |none=>cases h
def J7b(n:Int)(i:Nat):Int:=IntKind.wrap .u8 ((IntKind.wrap .u64 n).fdiv (2^(8*i)))
def J0h(n:Int)(k:Nat):List UInt8:=toStr ((List.range k).map (J7b n))
def Jlr(l:List UInt8)(n size:Int):Option (List UInt8):=if size<1\/8<size then some l else if l.length+8<=140737488355328 then some (l++J0h n size.toNat)else none
def JBV:List AV->List Blk->Option Res|[.p (.s l),.p (.i .i64 n),.p (.i .i64 k)],blks=>(Jlr l n k).map λr=>(.p (.s r),blks)|_,_=>none
theorem JJE(x:Int):0<=IntKind.wrap .u8 x/\IntKind.wrap .u8 x<256:=by have h:IntKind.wrap .u8 x=x%256:=rfl;rw[h];omega
theorem Job(n:Int)(i:Nat):((UInt8.ofNat (J7b n i).toNat).toNat:Int)=J7b n i:=by
 have h:0<=J7b n i/\J7b n i<256:=JJE _;grind [UInt8.toNat_ofNat_of_lt']
theorem JrA(n:Int)(k:Nat):J0h n (k+1)=J0h n k++[UInt8.ofNat (J7b n k).toNat]:=by simp[J0h,toStr,List.range_succ]
theorem Jx(n:Int)(k:Nat):(J0h n k).length=k:=by simp[J0h,toStr]
theorem JN9(x y:Bool):J1B [.b] [.b x] [.b y]=some (decide (x=y)):=by
 grind [J1B,Jht]
theorem JN1(k:IntKind)(x y:Int):J1B [.i k] [.i k x] [.i k y]=some (decide (x=y)):=by
 grind [J1B,Jht]
theorem JMZ(x y:List UInt8):J1B [.s] [.s x] [.s y]=some (decide (x=y)):=by
 grind [J1B,Jht]
theorem Hs{p q:Prop} [Decidable p] [Decidable q]: ∀{e g:List KD} {a1 a2 b1 b2:List PV},J1B e a1 b1=some (decide p)->J1B g a2 b2=some (decide q)->J1B (e++g) (cat a1 a2) (cat b1 b2)=some (decide (p/\q)):=by
 have h: ∀(e g:List KD) (a1 a2 b1 b2:List PV) (r s:Bool),J1B e a1 b1=some r->J1B g a2 b2=some s->J1B (e++g) (a1++a2) (b1++b2)=some (r&&s):=by
  intro e
  induction e with
  |nil=>
   grind [J1B]
  |cons k ks ih=>
   intro g a1 a2 b1 b2 r s h1 h2;cases a1 with
   |nil=>grind [J1B]
   |cons a a1=>
    cases b1 with
    |nil=>grind [J1B]
    |cons b b1=>
     simp only[J1B]at h1;split at h1;rename_i u c j hc;injection h1 with h1;subst h1;simp only[vR,J1B,j,ih _ _ _ _ _ _ _ hc h2,Bool.and_assoc];cases h1
 intro e g a1 a2 b1 b2 h1 h2;rw[h _ _ _ _ _ _ _ _ h1 h2,Bool.decide_and]
theorem JLI{α:Type} [DecidableEq α]{n:Nat}{ks:List KD}{r:α->List PV}(h: ∀x y,J1B ks (r x) (r y)=some (decide (x=y)))(v w:Vector α n):
  J1B (List.replicate n ks).flatten (oF r v) (oF r w)=some (decide (v=w)):=by
 have e: ∀(l l':List α),l.length=l'.length->J1B (List.replicate l.length ks).flatten (l.map r).flatten (l'.map r).flatten=some (decide (l=l')):=by
  intro l
  induction l with
  |nil=>grind [J1B]
  |cons a l ih=>
   intro l' h1;cases l' with
   |nil=>simp at h1
   |cons b l'=>
    have h2:=Hs (h a b) (ih l' (by simpa using h1));grind [decide]
 have g:=e v.toList w.toList (by simp);rw[show v.toList.length=n by simp]at g;rw[show decide (v=w)=decide (v.toList=w.toList) by simp[Vector.toList_inj]];exact g
end Go.Am
end
section
namespace Go.Am
def J2(k:IntKind)(a c:Int):Int:=k.wrap (a+c)
def Jw(k:IntKind)(a c:Int):Int:=k.wrap (a-c)
def bX(k:IntKind)(a c:Int):Int:=k.wrap (a*c)
def JNE(k:IntKind)(n:Int):Int:=k.wrap (0-n)
def aU(k:IntKind)(n:Int):Int:=k.wrap n
def aJ(a c:Int):Bool:=decide (a=c)
def aN(a c:Int):Bool:= !decide (a=c)
def aK(a c:Int):Bool:=decide (a<c)
def aX(a c:Int):Bool:=decide (a<=c)
def aO(a c:Int):Bool:=decide (a>c)
def aP(a c:Int):Bool:=decide (a>=c)
def eqS(a c:List UInt8):Bool:=decide (a=c)
def neS(a c:List UInt8):Bool:= !decide (a=c)
def ltS(a c:List UInt8):Bool:=Op.bytesLess a c
def leS(a c:List UInt8):Bool:=Op.bytesLess a c||decide (a=c)
def gtS(a c:List UInt8):Bool:= !(Op.bytesLess a c||decide (a=c))
def geS(a c:List UInt8):Bool:= !Op.bytesLess a c
def eqB(a c:Bool):Bool:=decide (a=c)
def Jr(x:Bool):Bool:= !x
def J0{α:Type}(l:List α):Int:=l.length
def JNn{α:Type}(c:Bool)(x y:α):α:=if c=true then x else y
def bF{α:Type}(l:List α)(i:Nat):Option α:=l[i]?
def aY{α:Type}(l:List α)(i:Nat)(x:α):List α:=l.set i x
def vat{α:Type}{n:Nat}(l:Vector α n)(i:Nat):Option α:=l[i]?
def bG{α:Type}{n:Nat}(l:Vector α n)(i:Nat)(x:α):Vector α n:=l.setIfInBounds i x
inductive Ty where
 |b
 |i (k:IntKind)
 |s
 |l (t:Ty)
 |pr (a c:Ty)
 |ar (n:Nat) (t:Ty)
 |u
 |f
 deriving DecidableEq
@[reducible] def Ty.D:Ty->Type
 | .b=>Bool
 | .i _=>Int
 | .s=>List UInt8
 | .l t=>List t.D
 | .pr a c=>a.D×c.D
 | .ar n t=>Vector t.D n
 | .u=>Unit
 | .f=>Unit
def Ty.sz:Ty->Nat| .b=>1| .i _=>1| .s=>1| .l _=>1| .pr a c=>a.sz+c.sz| .ar n t=>n*t.sz| .u=>0| .f=>1
def cel:(t:Ty)->t.D->List PV| .b,x=>[.b x]| .i k,x=>[.i k x]| .s,x=>[.s x]| .l t,x=>[.sl t.sz (x.map (cel t))]| .pr a c,x=>cel a x.1++cel c x.2| .ar _ t,x=>oF (cel t) x| .u,_=>[]| .f,_=>[.nf]
theorem dY: ∀(t:Ty) (x:t.D),(cel t x).length=t.sz| .b,_=>rfl| .i _,_=>rfl| .s,_=>rfl| .l _,_=>rfl| .pr a c,x=>by simp only[cel,fR,dY a,dY c,Ty.sz]| .ar n t,x=>by simp only[cel,Ty.sz];exact JLr (dY t) x| .u,_=>rfl| .f,_=>rfl
def Ty.eqd:(t:Ty)->DecidableEq t.D| .b=>inferInstanceAs (DecidableEq Bool)| .i _=>inferInstanceAs (DecidableEq Int)| .s=>inferInstanceAs (DecidableEq (List UInt8))| .l t=>have:=t.eqd;inferInstanceAs (DecidableEq (List t.D))| .pr a c=>have:=a.eqd;have:=c.eqd;inferInstanceAs (DecidableEq (a.D×c.D))| .ar n t=>have:=t.eqd;inferInstanceAs (DecidableEq (Vector t.D n))| .u=>inferInstanceAs (DecidableEq Unit)| .f=>inferInstanceAs (DecidableEq Unit)
def eqT(t:Ty)(x y:t.D):Bool:=have:=t.eqd;decide (x=y)
theorem J0X{t:Ty}{x y:t.D}:eqT t x y=true↔x=y:=by simp[eqT]
def Ty.zero:(t:Ty)->t.D| .b=>false| .i _=>(0:Int)| .s=>[]| .l _=>[]| .pr a c=>(a.zero,c.zero)| .ar n t=>Vector.replicate n t.zero| .u=>()| .f=>()
def Ty.ks:Ty->Option (List KD)
 | .b=>some [.b]
 | .i k=>some [.i k]
 | .s=>some [.s]
 | .l _=>none
 | .pr a c=>match a.ks,c.ks with|some x,some y=>some (x++y)|_,_=>none
 | .ar n t=>match t.ks with|some x=>some (List.replicate n x).flatten|none=>none
 | .u=>some []
 | .f=>none
theorem QR: ∀(t:Ty) {ks:List KD} (x y:t.D),t.ks=some ks->J1B ks (cel t x) (cel t y)=some (eqT t x y)
 | .b,ks,x,y,h=>by injection h with h;subst h;exact JN9 x y
 | .i k,ks,x,y,h=>by injection h with h;subst h;exact JN1 k x y
 | .s,ks,x,y,h=>by injection h with h;subst h;exact JMZ x y
 | .l _,_,_,_,h=>by cases h
 | .pr a c,ks,x,y,h=>by
  simp only[Ty.ks]at h;split at h;rename_i p q e g;injection h with h;subst h;have h1:=QR a x.1 y.1 e;have h2:=QR c x.2 y.2 g;unfold eqT at h1 h2;have j:(have:=a.eqd;decide (x.1=y.1))= @decide _ (a.eqd x.1 y.1):=rfl;have:= @Hs _ _ (a.eqd x.1 y.1) (c.eqd x.2 y.2) _ _ _ _ _ _ h1 h2;simp only[cel];refine this.trans (congrArg some ?_);grind [eqT];cases h
 | .ar n t,ks,x,y,h=>by
  simp only[Ty.ks]at h;split at h;rename_i p e;injection h with h;subst h;have:= @JLI t.D t.eqd n p (cel t) (λx y=>by have:=QR t x y e;exact this) x y;grind [cel,eqT];cases h
 | .u,ks,x,y,h=>by injection h with h;subst h;rfl
 | .f,_,_,_,h=>by cases h
inductive Sp where
 |f (off:Nat)
 |a (i esz:Nat)
 deriving DecidableEq
def spo:List Sp->Nat|[]=>0| .f o::r=>o+spo r| .a i e::r=>i*e+spo r
def spf:Nat->List Sp->Nat×List Sp|o,.f k::r=>spf (o+k) r|o,r=>(o,r)
theorem PB: ∀(o:Nat) (p:List Sp),(spf o p).1+spo (spf o p).2=o+spo p|o,[]=>rfl|o,.f k::r=>by simp only[spf,PB,spo];omega|o,.a i e::r=>rfl
section
variable {R:Type}
def prt:(t:Ty)->t.D->(off:Nat)->List Sp->(w:Ty)->(w.D->Option R)->Option R
 |t,x,off,p,w,k=>
  if h:t=w/\off=0/\p=[]then k (h.1▸x)
  else match t,x with
   | .pr a c,x=>if off+(if p=[]then w.sz else 1)<=a.sz then prt a x.1 off p w k
    else if a.sz<=off then prt c x.2 (off-a.sz) p w k
    else none
   | .ar _ t,x=>if p=[]then(vat x (off/t.sz)).bind λy=>prt t y (off%t.sz) p w k
    else match off,p with|0,.a i e::r=>if e=t.sz then(vat x i).bind λy=>prt t y (spf 0 r).1 (spf 0 r).2 w k else none|_,_=>none
   |_,_=>none
def pst:(t:Ty)->t.D->(off:Nat)->List Sp->(w:Ty)->w.D->(t.D->Option R)->Option R
 |t,x,off,p,w,v,k=>
  if h:t=w/\off=0/\p=[]then k (h.1.symm▸v)
  else match t,x,k with
   | .pr a c,x,k=>if off+(if p=[]then w.sz else 1)<=a.sz then pst a x.1 off p w v λy=>k (y,x.2)
    else if a.sz<=off then pst c x.2 (off-a.sz) p w v λy=>k (x.1,y)
    else none
   | .ar _ t,x,k=>if p=[]then(vat x (off/t.sz)).bind λy=>pst t y (off%t.sz) p w v λy=>k (bG x (off/t.sz) y)
    else match off,p with|0,.a i e::r=>if e=t.sz then(vat x i).bind λy=>pst t y (spf 0 r).1 (spf 0 r).2 w v λy=>k (bG x i y)else none|_,_=>none
   |_,_,_=>none
end
theorem JH6{α:Type}{a b v:List α}{off n:Nat}(h:sub a off n=some v):sub (a++b) off n=some v:=by
 grind [zQ]
theorem JFn{α:Type}{a b v:List α}{off n:Nat}(h0:a.length<=off)(h:sub b (off-a.length) n=some v):sub (a++b) off n=some v:=by
 grind [zQ,List.drop_append,List.drop_of_length_le]
theorem JHV{α:Type}{a b v e:List α}{off:Nat}(h:spl a off v=some e):spl (a++b) off v=some (e++b):=by
 grind [FM]
theorem JEs{α:Type}{a b v e:List α}{off:Nat}(h0:a.length<=off)(h:spl b (off-a.length) v=some e):spl (a++b) off v=some (a++e):=by
 rw[FM]at h⊢;split at h;injection h with h;rw[if_pos (by simp;omega),<-h,List.take_append,List.take_of_length_le h0,List.drop_append,List.drop_of_length_le (by omega)];simp;omega;cases h
theorem Fi{α:Type}{n i:Nat}{x:Vector α n}{y:α}(h:x[i]?=some y):i<n:=by
 grind
theorem wR{R:Type}{t w:Ty}{x:t.D}{off:Nat}{p:List Sp}{k:w.D->Option R}{r:R}(h0:t=w/\off=0/\p=[])(h:k (h0.1▸x)=some r):
  ∃y,sub (cel t x) (off+spo p) w.sz=some (cel w y)/\k y=some r:=by
 obtain⟨rfl,rfl,rfl⟩:=h0;grind [spo,ZH,dY]
theorem wT{R:Type}{t w:Ty}{x:t.D}{off:Nat}{p:List Sp}{v:w.D}{k:t.D->Option R}{r:R}(h0:t=w/\off=0/\p=[])(h:k (h0.1.symm▸v)=some r):
  ∃y,spl (cel t x) (off+spo p) (cel w v)=some (cel t y)/\k y=some r:=by
 obtain⟨rfl,rfl,rfl⟩:=h0;grind [spo,Gi,dY]
theorem wQ{R:Type}: ∀{t:Ty} {x:t.D} {off:Nat} {p:List Sp} {w:Ty} {k:w.D->Option R} {r:R},prt t x off p w k=some r->
  ∃y,sub (cel t x) (off+spo p) w.sz=some (cel w y)/\k y=some r
 | .pr a c,x,off,p,w,k,r,h=>by
  unfold prt at h;by_cases g:Ty.pr a c=w/\off=0/\p=[];rw[dif_pos g]at h;exact wR g h;rw[dif_neg g]at h;dsimp only at h;by_cases h1:off+(if p=[]then w.sz else 1)<=a.sz;rw[if_pos h1]at h;obtain⟨y,v,o⟩:=wQ h;exact⟨y,JH6 v,o⟩;rw[if_neg h1]at h;by_cases h2:a.sz<=off;rw[if_pos h2]at h;obtain⟨y,v,o⟩:=wQ h;refine⟨y,JFn (by grind [dY]) ?_,o⟩;grind [dY];simp_all
 | .ar n t,x,off,p,w,k,r,h=>by
  unfold prt at h;by_cases g:Ty.ar n t=w/\off=0/\p=[];rw[dif_pos g]at h;exact wR g h;rw[dif_neg g]at h;dsimp only at h;by_cases A:p=[];rw[if_pos A]at h;obtain⟨z,j,h⟩:=bJ.1 h;obtain⟨y,h1,h2⟩:=wQ h;refine⟨y,?_,h2⟩;have:=Hu (LN (dY t) j) h1;grind [cel,Nat.div_add_mod];rw[if_neg A]at h;split at h;rename_i _ i e q _;split at h;rename_i B;obtain⟨z,j,h⟩:=bJ.1 h;obtain⟨y,h1,h2⟩:=wQ h;refine⟨y,?_,h2⟩;have:=Hu (LN (dY t) j) h1;grind [cel,PB,spo];cases h;cases h
 | .b,x,off,p,w,k,r,h=>by
  unfold prt at h;split at h
  next g=>exact wR g h
  next=>cases h
 | .i _,x,off,p,w,k,r,h=>by
  unfold prt at h;split at h
  next g=>exact wR g h
  next=>cases h
 | .s,x,off,p,w,k,r,h=>by
  unfold prt at h;split at h
  next g=>exact wR g h
  next=>cases h
 | .l _,x,off,p,w,k,r,h=>by
  unfold prt at h;split at h
  next g=>exact wR g h
  next=>cases h
 | .u,x,off,p,w,k,r,h=>by
  unfold prt at h;split at h
  next g=>exact wR g h
  next=>cases h
 | .f,x,off,p,w,k,r,h=>by
  unfold prt at h;split at h
  next g=>exact wR g h
  next=>cases h
theorem zO{R:Type}: ∀{t:Ty} {x:t.D} {off:Nat} {p:List Sp} {w:Ty} {v:w.D} {k:t.D->Option R} {r:R},pst t x off p w v k=some r->
  ∃y,spl (cel t x) (off+spo p) (cel w v)=some (cel t y)/\k y=some r
 | .pr a c,x,off,p,w,v,k,r,h=>by
  unfold pst at h;by_cases g:Ty.pr a c=w/\off=0/\p=[];rw[dif_pos g]at h;exact wT g h;rw[dif_neg g]at h;dsimp only at h;by_cases h1:off+(if p=[]then w.sz else 1)<=a.sz;rw[if_pos h1]at h;obtain⟨y,B,A⟩:=zO h;exact⟨(y,x.2),JHV B,A⟩;rw[if_neg h1]at h;by_cases h2:a.sz<=off;rw[if_pos h2]at h;obtain⟨y,B,A⟩:=zO h;refine⟨(x.1,y),JEs (by grind [dY]) ?_,A⟩;grind [dY];simp_all
 | .ar n t,x,off,p,w,v,k,r,h=>by
  unfold pst at h;by_cases g:Ty.ar n t=w/\off=0/\p=[];rw[dif_pos g]at h;exact wT g h;rw[dif_neg g]at h;dsimp only at h;by_cases o:p=[];rw[if_pos o]at h;obtain⟨z,j,h⟩:=bJ.1 h;obtain⟨y,h1,h2⟩:=zO h;refine⟨_,?_,h2⟩;have:=G9 (LN (dY t) j) h1 (Ep (dY t) (Fi j) y);subst o;simp only[spo,sV]at this⊢;rw[HX,Nat.div_add_mod]at this;exact this;rw[if_neg o]at h;split at h;rename_i _ i e q _;split at h;rename_i C;obtain⟨z,j,h⟩:=bJ.1 h;obtain⟨y,h1,h2⟩:=zO h;refine⟨_,?_,h2⟩;have:=G9 (LN (dY t) j) h1 (Ep (dY t) (Fi j) y);have E:=PB 0 q;simp only[spo,C];rw[show i*t.sz+((spf 0 q).1+spo (spf 0 q).2)=0+(i*t.sz+spo q) by omega]at this;exact this;cases h;cases h
 | .b,x,off,p,w,v,k,r,h=>by
  unfold pst at h;split at h
  next g=>exact wT g h
  next=>cases h
 | .i _,x,off,p,w,v,k,r,h=>by
  unfold pst at h;split at h
  next g=>exact wT g h
  next=>cases h
 | .s,x,off,p,w,v,k,r,h=>by
  unfold pst at h;split at h
  next g=>exact wT g h
  next=>cases h
 | .l _,x,off,p,w,v,k,r,h=>by
  unfold pst at h;split at h
  next g=>exact wT g h
  next=>cases h
 | .u,x,off,p,w,v,k,r,h=>by
  unfold pst at h;split at h
  next g=>exact wT g h
  next=>cases h
 | .f,x,off,p,w,v,k,r,h=>by
  unfold pst at h;split at h
  next g=>exact wT g h
  next=>cases h
end Go.Am
end
section
namespace Go.Am
inductive TC where|d (t:Ty) (x:t.D)|sc (t:Ty) (rows:List t.D)|np|nf|un|ptr (b:Nat) (p:List Sp)|cp (t:Ty) (x:t.D) (p:List Sp)|slr (b:Nat)|slo (b n:Nat)|ep (b i:Nat) (p:List Sp)|epo (b e i:Nat) (p:List Sp)|pre (b k:Nat)|pro (b n k:Nat)|suf (b i:Nat)|suo (b i n:Nat)|fn (f:FuncId)
inductive TA where|c (x:TC)|dt (t:Ty) (x:t.D)|m (t:Ty) (cs:List TC)|fn (f:FuncId) (first caps:List TC)
inductive TV where|a (x:TA)|tup (vs:List TA)
inductive TB where|dead|box (t:Ty) (x:t.D)|mbox (t:Ty) (cs:List TC)|arr (w:Bool) (t:Ty) (rows:List t.D)
structure TSt where
 env:List (Nat×TV)
 sto:List TB
def hdP:List PV->PV|[c]=>c|_=>.np
def lnB:TB->Nat| .arr _ _ rows=>rows.length|_=>0
def lnO:Option TB->Nat|some x=>lnB x|none=>0
def lns(sto:List TB)(b:Nat):Nat:=lnO sto[b]?
section
variable (L:Nat->Nat)
def bB:TC->AV| .d t x=>.p (hdP (cel t x))| .sc t rows=>.p (.slc t.sz (rows.map (cel t)))| .np=>.p .np| .nf=>.p .nf| .un=>.unk| .ptr b p=>.ptr b (spo p)| .cp t x p=>.cp (cel t x) (spo p)| .slr b=>.slr b 0 (L b)| .slo b n=>.slr b 0 n| .ep b i p=>.ep b (L b) i (spo p)| .epo b e i p=>.ep b e i (spo p)| .pre b k=>.pre b (L b) k| .pro b n k=>.pre b n k| .suf b i=>.slr b (min i (L b)) (L b-i)| .suo b i n=>.slr b i n| .fn f=>.fn f [] []
def bL:TA->AV| .c x=>bB L x| .dt t x=>.data (cel t x)| .m _ cs=>.agg (cs.map (bB L))| .fn f a c=>.fn f (a.map (bB L)) (c.map (bB L))
def JY:TV->AV| .a x=>bL L x| .tup vs=>.tup (vs.map (bL L))
def aV:TB->Blk| .dead=>.dead| .box t x=>.box ((cel t x).map .p)| .mbox _ cs=>.box (cs.map (bB L))| .arr w t rows=>.arr w t.sz (rows.map (cel t))
end
def fI(L:Nat->Nat)(env:List (Nat×TV)):List (Nat×AV):=env.map λx=>(x.1,JY L x.2)
def JB(s:TSt):St:=⟨fI (lns s.sto) s.env,s.sto.map (aV (lns s.sto))⟩
section
variable (L:Nat->Nat)
theorem EW(t x):aV L (.box t x)=.box ((cel t x).map .p):=rfl
theorem LR(t cs):aV L (.mbox t cs)=.box (cs.map (bB L)):=rfl
theorem XX(w t rows):aV L (.arr w t rows)=.arr w t.sz (rows.map (cel t)):=rfl
theorem jV(b p):JY L (.a (.c (.ptr b p)))=.ptr b (spo p):=rfl
theorem lT(t x p):JY L (.a (.c (.cp t x p)))=.cp (cel t x) (spo p):=rfl
theorem gU(b):JY L (.a (.c (.slr b)))=.slr b 0 (L b):=rfl
theorem lP(b i p):JY L (.a (.c (.ep b i p)))=.ep b (L b) i (spo p):=rfl
theorem e_i(k x):JY L (.a (.c (.d (.i k) x)))=.p (.i k x):=rfl
theorem e_b(x):JY L (.a (.c (.d .b x)))=.p (.b x):=rfl
theorem e_s(x):JY L (.a (.c (.d .s x)))=.p (.s x):=rfl
theorem e_l(t x):JY L (.a (.c (.d (.l t) x)))=.p (.sl t.sz (x.map (cel t))):=rfl
theorem C9(f):JY L (.a (.c (.fn f)))=.fn f [] []:=rfl
theorem kg(t x):JY L (.a (.dt t x))=.data (cel t x):=rfl
theorem Cy(f a c):JY L (.a (.fn f a c))=.fn f (a.map (bB L)) (c.map (bB L)):=rfl
theorem e_m(t cs):JY L (.a (.m t cs))=.agg (cs.map (bB L)):=rfl
end
theorem IF{t:Ty}(h:t.sz=1)(x:t.D):cel t x=[hdP (cel t x)]:=by
 have:=dY t x;rw[h]at this
 match hc:cel t x,this with
 |[c],_=>rfl
def kC(b n:Nat):TC->TC| .slr c=>if c=b then .slo b n else .slr c| .ep c i p=>if c=b then .epo b n i p else .ep c i p| .pre c k=>if c=b then .pro b n k else .pre c k| .suf c i=>if c=b then .suo b (min i n) (n-i)else .suf c i|x=>x
def kA(b n:Nat):TA->TA| .c x=>.c (kC b n x)| .dt t x=>.dt t x| .m t cs=>.m t (cs.map (kC b n))| .fn f a c=>.fn f (a.map (kC b n)) (c.map (kC b n))
def kV(b n:Nat):TV->TV| .a x=>.a (kA b n x)| .tup vs=>.tup (vs.map (kA b n))
def kB(b n:Nat):TB->TB| .mbox t cs=>.mbox t (cs.map (kC b n))|x=>x
def wS(b:Nat)(x:TB)(s:TSt):TSt:=⟨s.env,s.sto.set b x⟩
def wN(b:Nat)(x:TB)(s:TSt):TSt:=⟨s.env.map λy=>(y.1,kV b (lns s.sto b) y.2),(s.sto.map (kB b (lns s.sto b))).set b x⟩
def bE(d:Option Nat)(v:TV)(s:TSt):TSt:=
 match d with
 |some d=>⟨(d,v)::s.env,s.sto⟩
 |none=>s
section
variable {L L':Nat->Nat} {b:Nat}
theorem k_C(h: ∀c,c≠b->L' c=L c)(x:TC):bB L' (kC b (L b) x)=bB L x:=by cases x<;>grind [kC,bB]
theorem Bs(h: ∀c,c≠b->L' c=L c)(xs:List TC):(xs.map (kC b (L b))).map (bB L')=xs.map (bB L):=by simp_all [k_C]
theorem k_A(h: ∀c,c≠b->L' c=L c)(x:TA):bL L' (kA b (L b) x)=bL L x:=by cases x<;>simp only[kA,bL,k_C h,Bs h]
theorem k_V(h: ∀c,c≠b->L' c=L c)(x:TV):JY L' (kV b (L b) x)=JY L x:=by cases x<;>simp only[kV,JY,k_A h,DN,Function.comp_def]
theorem k_B(h: ∀c,c≠b->L' c=L c)(x:TB):aV L' (kB b (L b) x)=aV L x:=by cases x<;>simp only[kB,aV,Bs h]
theorem JM1(b n:Nat)(x:TB):lnB (kB b n x)=lnB x:=by cases x<;>rfl
theorem JKC(sto:List TB)(b n c:Nat):lns (sto.map (kB b n)) c=lns sto c:=by
 unfold lns;rw[fF];cases sto[c]? with
 |none=>rfl
 |some x=>exact JM1 b n x
theorem Fo(sto:List TB)(b:Nat)(x:TB)(c:Nat)(h:c≠b):lns (sto.set b x) c=lns sto c:=by
 grind [lns]
theorem XW{sto:List TB}{b:Nat}(h:b<sto.length)(x:TB):lns (sto.set b x) b=lnB x:=by unfold lns;rw[DR h];rfl
theorem Dp(b:Nat)(x:TB)(s:TSt):JB (wN b x s)=⟨(JB s).env,(JB s).sto.set b (aV (lns (wN b x s).sto) x)⟩:=by
 have h: ∀c,c≠b->lns (wN b x s).sto c=lns s.sto c:=λc hc=>by
  grind [wN,Fo,JKC]
 unfold JB
 congr 1
 show fI _ (s.env.map λy=>(y.1,kV b (lns s.sto b) y.2))=fI _ s.env;simp_all [fI,k_V];show((s.sto.map (kB b (lns s.sto b))).set b x).map _=_;grind [List.map_set,List.map_congr_left,k_B]
theorem FD{b:Nat}{x:TB}{s:TSt}(h:lnB x=lns s.sto b):lns (wS b x s).sto=lns s.sto:=by
 grind [wS,XW,List.set_eq_of_length_le,Fo]
theorem zA{b:Nat}{x:TB}{s:TSt}(h:lnB x=lns s.sto b):JB (wS b x s)=⟨(JB s).env,(JB s).sto.set b (aV (lns s.sto) x)⟩:=by
 grind [JB,FD,wS,List.map_set]
theorem qU{s s1:TSt}{ws:List (Nat×Blk)}(h:JB s1=⟨(JB s).env,upd ws (JB s).sto⟩)(d:Option Nat)(v:TV):put d ⟨JY (lns s1.sto) v,ws⟩ (JB s)=JB (bE d v s1):=by cases d<;>simp_all [bE,JB,fI]
end
theorem LY{s:TSt}(d:Option Nat)(v:TV):put d ⟨JY (lns s.sto) v,[]⟩ (JB s)=JB (bE d v s):=qU rfl d v
def tlk(n:Nat):List (Nat×TV)->Option TV|[]=>none|(m,v)::r=>if n=m then some v else tlk n r
theorem zM(L:Nat->Nat)(n:Nat): ∀env:List (Nat×TV),lk n (fI L env)=(tlk n env).map (JY L)
 |[]=>rfl
 |(m,v)::r=>by
  simp only[fI,bR,lk,tlk];split;rfl;exact zM L n r
theorem eB(s:TSt)(b:Nat):(JB s).sto[b]?=(s.sto[b]?).map (aV (lns s.sto)):=by simp[JB]
theorem mC{sto:List TB}{b:Nat}{w:Bool}{t:Ty}{rows:List t.D}(h:sto[b]?=some (.arr w t rows)):lns sto b=rows.length:=by unfold lns;rw[h];rfl
inductive TO where|t (n:Nat)|c (x:TV)
def erO:TO->Opd| .t n=>.t n| .c x=>.c (JY (λ_=>0) x)
def De:TC->Bool| .d _ _| .sc _ _| .np| .nf| .un| .fn _=>true|_=>false
def OC:TA->Bool| .c x=>De x| .dt _ _=>true| .m _ _=>false| .fn _ a c=>a.isEmpty&&c.isEmpty
def EI:TV->Bool| .a x=>OC x| .tup vs=>vs.isEmpty
theorem JH8{L L':Nat->Nat}{v:TV}(h:EI v=true):JY L v=JY L' v:=by
 cases v with
 |a x=>
  cases x with
  |c x=>cases x<;>first|rfl|grind [EI,OC,De]
  |dt t x=>rfl
  |m t cs=>grind [EI,OC]
  |fn f a c=>simp[EI,OC]at h;obtain⟨rfl,rfl⟩:=h;rfl
 |tup vs=>simp[EI]at h;subst h;rfl
def tev:TO->TSt->Option TV| .t n,s=>tlk n s.env| .c x,_=>if EI x=true then some x else none
theorem bW{x:TO}{s:TSt}{v:TV}(h:tev x s=some v):(ev (erO x)).run (JB s)=some (JY (lns s.sto) v):=by
 cases x with
 |t n=>simp only[erO,ev,xA];show(lk n (fI (lns s.sto) s.env)).bind _=_;rw[zM,show tlk n s.env=some v from h];rfl
 |c x=>
  grind [tev,erO,ev,JW,JH8]
end Go.Am
end
section
namespace Go.Am
@[reducible] def vi(k:IntKind)(n:Int):TV:=.a (.c (.d (.i k) n))
@[reducible] def vb(x:Bool):TV:=.a (.c (.d .b x))
@[reducible] def vs(l:List UInt8):TV:=.a (.c (.d .s l))
@[reducible] def vl(t:Ty)(l:List t.D):TV:=.a (.c (.d (.l t) l))
def uv:TV:=.tup []
def mkv(agg:Bool)(t:Ty)(x:t.D):TV:=if agg=true then .a (.dt t x)else .a (.c (.d t x))
def Ok{R:Type}(m:RM Eff)(d:Option Nat)(s:TSt)(k:TSt->Option R)(r:R):Prop:= ∃e s',m.run (JB s)=some e/\put d e (JB s)=JB s'/\k s'=some r
def asm:(t:Ty)->List TC->Option t.D
 | .pr a c,l=>match asm a (l.take a.sz),asm c (l.drop a.sz)with|some x,some y=>some (x,y)|_,_=>none
 | .ar _ _,_=>none
 | .u,l=>if l.isEmpty=true then some ()else none
 |t,l=>match l with|[.d t' x]=>if h:t'=t then some (h▸x)else none|_=>none
def yK:(t:Ty)->t.D->Option (List TC)
 | .pr a c,x=>match yK a x.1,yK c x.2 with|some l,some q=>some (l++q)|_,_=>none
 | .ar _ _,_=>none
 | .u,_=>some []
 |t,x=>some [.d t x]
theorem KZ(L:Nat->Nat): ∀{t:Ty} {l:List TC} {x:t.D},asm t l=some x->l.map (bB L)=(cel t x).map .p
 | .pr a c,l,x,h=>by
  simp only[asm]at h;split at h;rename_i y z g j;injection h with h;subst h;have h1:=KZ L g;have h2:=KZ L j;grind [cel,List.take_append_drop];cases h
 | .ar _ _,_,_,h=>by cases h
 | .u,l,x,h=>by
  simp only[asm]at h;split at h;rename_i e;rw[List.isEmpty_iff.1 e];rfl;cases h
 | .b,l,x,h=>by
  simp only[asm]at h;split at h;split at h;rename_i e;subst e;injection h with h;subst h;rfl;cases h;cases h
 | .i _,l,x,h=>by
  simp only[asm]at h;split at h;split at h;rename_i e;subst e;injection h with h;subst h;rfl;cases h;cases h
 | .s,l,x,h=>by
  simp only[asm]at h;split at h;split at h;rename_i e;subst e;injection h with h;subst h;rfl;cases h;cases h
 | .l _,l,x,h=>by
  simp only[asm]at h;split at h;split at h;rename_i e;subst e;injection h with h;subst h;rfl;cases h;cases h
 | .f,l,x,h=>by
  simp only[asm]at h;split at h;split at h;rename_i e;subst e;injection h with h;subst h;rfl;cases h;cases h
theorem LQ(L:Nat->Nat): ∀{t:Ty} {x:t.D} {l:List TC},yK t x=some l->l.map (bB L)=(cel t x).map .p
 | .pr a c,x,l,h=>by
  simp only[yK]at h;split at h;rename_i y z e g;injection h with h;subst h;have h1:=LQ L e;have h2:=LQ L g;grind [cel];cases h
 | .ar _ _,_,_,h=>by cases h
 | .u,x,l,h=>by injection h with h;subst h;rfl
 | .b,x,l,h=>by injection h with h;subst h;rfl
 | .i _,x,l,h=>by injection h with h;subst h;rfl
 | .s,x,l,h=>by injection h with h;subst h;rfl
 | .l _,x,l,h=>by injection h with h;subst h;rfl
 | .f,x,l,h=>by injection h with h;subst h;rfl
def zcs:Ty->List TC| .pr a c=>zcs a++zcs c| .ar n t=>(List.replicate n (zcs t)).flatten| .u=>[]|t=>[.d t t.zero]
theorem FB(L:Nat->Nat): ∀t:Ty,(zcs t).map (bB L)=(cel t t.zero).map .p| .pr a c=>by simp only[zcs,DE,FB L a,FB L c,Ty.zero,cel]| .ar n t=>by have ih:=FB L t;simp_all [cel,oF,Ty.zero,zcs]| .u=>rfl| .b=>rfl| .i _=>rfl| .s=>rfl| .l _=>rfl| .f=>rfl
def mkb(t:Ty)(cs:List TC):TB:=match asm t cs with|some x=>.box t x|none=>.mbox t cs
theorem QO(L:Nat->Nat)(t:Ty)(cs:List TC):aV L (mkb t cs)=.box (cs.map (bB L)):=by
 unfold mkb;split;grind [EW,KZ];rfl
theorem QH(t:Ty)(cs:List TC):lnB (mkb t cs)=0:=by unfold mkb;split<;>rfl
def VD:TC->Bool| .ptr _ _| .cp _ _ _| .slr _| .slo _ _| .ep _ _ _| .epo _ _ _ _| .un| .fn _| .pre _ _| .pro _ _ _| .suf _ _| .suo _ _ _=>true|_=>false
theorem ZB(L:Nat->Nat): ∀{cs:List TC},cs.any VD=true->unp (cs.map (bB L))=none
 |[],h=>by simp at h
 |x::r,h=>by
  simp only[List.any_cons,yO]at h;rcases h with h|h;cases x<;>simp[VD]at h<;>rfl
  have:=ZB L h;cases x<;>simp[bB,unp,this]
def mka(agg:Bool)(t:Ty)(cs:List TC):Option TV:=
 if agg=true then
  match asm t cs with
  |some x=>some (.a (.dt t x))
  |none=>if cs.any VD=true then some (.a (.m t cs))else none
 else match cs with|[c]=>some (.a (.c c))|_=>none
theorem EZ(L:Nat->Nat){agg:Bool}{t:Ty}{cs:List TC}{v:TV}(h:mka agg t cs=some v):kG agg (cs.map (bB L))=some (JY L v):=by
 unfold mka at h;split at h;rename_i e;subst e;split at h;rename_i x j;injection h with h;subst h;rw[KZ L j,uo];rfl;split at h;rename_i g;injection h with h;subst h;simp only[kG,ZB L g,if_true];rfl;cases h;rename_i e;split at h;injection h with h;subst h;have:agg=false:=by simpa using e
 subst this;rfl;cases h
def tcs:TV->Option (List TC)| .a (.c .un)=>none| .a (.c (.pre _ _))=>none| .a (.c (.pro _ _ _))=>none| .a (.c x)=>some [x]| .a (.dt t x)=>yK t x| .a (.m _ cs)=>some cs| .a (.fn f [] [])=>some [.fn f]|_=>none
theorem LM(L:Nat->Nat){v:TV}{cs:List TC}(h:tcs v=some cs):cellsOf (JY L v)=some (cs.map (bB L)):=by
 cases v with
 |a x=>
  cases x with
  |c x=>cases x<;>cases h<;>rfl
  |dt t x=>simp only[JY,bL,cellsOf];rw[LQ L h]
  |m t cs=>injection h with h;subst h;rfl
  |fn f a c=>
   cases a with
   |nil=>cases c with
    |nil=>injection h with h;subst h;rfl
    |cons y c=>cases h
   |cons y a=>cases h
 |tup vs=>cases h
def tdv(t:Ty):TV->Option t.D| .a (.c (.d t' x))=>if h:t'=t then some (h▸x)else none| .a (.dt t' x)=>if h:t'=t then some (h▸x)else none|_=>none
def agv:TV->Bool| .a (.dt _ _)=>true|_=>false
theorem JM3(L:Nat->Nat){t:Ty}{v:TV}{x:t.D}(h:tdv t v=some x):JY L v=if agv v=true then .data (cel t x)else .p (hdP (cel t x)):=by
 unfold tdv at h;split at h;split at h;rename_i e;subst e;injection h with h;subst h;rfl;cases h;split at h;rename_i e;subst e;injection h with h;subst h;rfl;cases h;cases h
def sQ:List Sp->Option Nat
 |[]=>some 0
 | .f o::r=>match sQ r with|some n=>some (o+n)|none=>none
 | .a _ _::_=>none
theorem EU: ∀{p:List Sp} {n:Nat},sQ p=some n->spo p=n
 |[],n,h=>by injection h with h
 | .f o::r,n,h=>by
  simp only[sQ]at h;split at h;rename_i m e;injection h with h;simp only[spo,EU e,h];cases h
 | .a _ _::_,_,h=>by cases h
section
variable {R:Type}
def ni(agg:Bool)(t:Ty)(v:TV)(d:Option Nat)(s:TSt)(k:TSt->Option R):Option R:=
 if agg=true\/t.sz=1 then
  match v with
  | .a (.c (.cp t0 x p))=>prt t0 x (spf 0 p).1 (spf 0 p).2 t λy=>k (bE d (mkv agg t y) s)
  | .a (.c (.ptr b p))=>match s.sto[b]? with
   |some (.box t0 x)=>prt t0 x (spf 0 p).1 (spf 0 p).2 t λy=>k (bE d (mkv agg t y) s)
   |some (.mbox _ cs)=>match sQ p with
    |some off=>match sub cs off t.sz with
     |some l=>match mka agg t l with|some v=>k (bE d v s)|none=>none
     |none=>none
    |none=>none
   |_=>none
  | .a (.c (.ep b i p))=>match s.sto[b]? with|some (.arr _ t0 rows)=>(bF rows i).bind λrow=>prt t0 row (spf 0 p).1 (spf 0 p).2 t λy=>k (bE d (mkv agg t y) s)|_=>none
  |_=>none
 else none
theorem ES(L:Nat->Nat){agg:Bool}{t:Ty}(h:agg=true\/t.sz=1)(y:t.D):nO agg (cel t y)=some (JY L (mkv agg t y)):=by
 unfold mkv;split;rename_i e;subst e;rfl;rename_i e;have:agg=false:=by simpa using e
 subst this;have:=h.resolve_left (by simp);rw[IF this];rfl
theorem HP(p:List Sp):(spf 0 p).1+spo (spf 0 p).2=spo p:=by simp[PB]
theorem JHI{agg:Bool}{t:Ty}{v:TV}{d:Option Nat}{s:TSt}{k:TSt->Option R}{r:R}(h:ni agg t v d s k=some r):Ok (gE agg t.sz (JY (lns s.sto) v)) d s k r:=by
 unfold ni at h;split at h;rename_i j;split at h;rename_i t0 x p;obtain⟨y,h1,h2⟩:=wQ h;rw[HP]at h1;refine⟨_,_,?_,LY d (mkv agg t y),h2⟩;simp only[jV,lT,lP,gU,gE,h1,ES (lns s.sto) j,val];rfl;rename_i b p;split at h;rename_i t0 x e;obtain⟨y,h1,h2⟩:=wQ h;rw[HP]at h1;refine⟨_,_,?_,LY d (mkv agg t y),h2⟩;have hc:kG agg ((cel t y).map .p)=nO agg (cel t y):=by
  unfold kG nO;split;rw[MD];cases hcel:cel t y with
  |nil=>rfl
  |cons a l=>cases l<;>rfl
 simp only[jV,lT,lP,gU,gE,dX,eB,e,cT,JL,aV,FT,h1,hc,ES (lns s.sto) j,val];rfl;rename_i cs e;split at h;rename_i off n;split at h;rename_i l o;split at h;rename_i v q;refine⟨_,_,?_,LY d v,h⟩;simp only[jV,lT,lP,gU,gE,dX,eB,e,cT,JL,aV,FT,EU n,o,EZ (lns s.sto) q,val];rfl;cases h;cases h;cases h;cases h;rename_i b i p;split at h;rename_i w t0 rows e;obtain⟨row,g,h⟩:=bJ.1 h;have g:rows[i]?=some row:=g;obtain⟨y,h1,h2⟩:=wQ h;rw[HP]at h1;refine⟨_,_,?_,LY d (mkv agg t y),h2⟩;simp only[jV,lT,lP,gU,gE,dX,eB,e,cT,JL,aV,mC e,fE,if_true,fF,g,h1,ES (lns s.sto) j,val];rfl;cases h;cases h;cases h
end
end Go.Am
end
section
namespace Go.Am
section
variable {R:Type}
def fzC:(t:Ty)->List TC->TSt->(t.D->TSt->Option R)->Option R
 | .pr a c,l,s,k=>fzC a (l.take a.sz) s λx s=>fzC c (l.drop a.sz) s λy s=>k (x,y) s
 | .ar _ _,_,_,_=>none
 | .u,l,s,k=>if l.isEmpty=true then k () s else none
 | .l e,l,s,k=>match l with
  |[.d t' x]=>if h:t'=.l e then k (h▸x) s else none
  |[.slr b]=>match s.sto[b]? with|some (.arr _ e' rows)=>if h:e'=e then k (h▸rows) (wS b (.arr false e' rows) s)else none|_=>none
  |_=>none
 |t,l,s,k=>match l with|[.d t' x]=>if h:t'=t then k (h▸x) s else none|_=>none
def tfz(t:Ty)(v:TV)(s:TSt)(k:t.D->TSt->Option R):Option R:=
 match v with
 | .a (.dt t' x)=>if h:t'=t then k (h▸x) s else none
 | .a (.c x)=>fzC t [x] s k
 | .a (.m _ cs)=>fzC t cs s k
 |_=>none
def Fzd(s s':TSt)(ws:List (Nat×Blk)):Prop:=s'.env=s.env/\lns s'.sto=lns s.sto/\JB s'=⟨(JB s).env,upd ws (JB s).sto⟩/\(∀(b:Nat) (t:Ty) (rows:List t.D) (w:Bool),s'.sto[b]?=some (TB.arr w t rows)-> ∃w',s.sto[b]?=some (TB.arr w' t rows))/\(∀(b:Nat) (t:Ty) (rows:List t.D),s.sto[b]?=some (TB.arr false t rows)->s'.sto[b]?=some (TB.arr false t rows))/\ ∀x∈ws,∃(t:Ty) (rows:List t.D),s'.sto[x.1]?=some (TB.arr false t rows)
theorem Fzd.refl(s:TSt):Fzd s s []:=⟨rfl,rfl,rfl,λb t rows w h=>⟨w,h⟩,λb t rows h=>h,λx h=>by cases h⟩
theorem Fzd.trans{s1 e g:TSt}{a c:List (Nat×Blk)}(h:Fzd s1 e a)(j:Fzd e g c):Fzd s1 g (a++c):=by
 obtain⟨h1,h2,B,z,o,y⟩:=h;obtain⟨n,q,A,v,k,r⟩:=j;refine⟨n.trans h1,q.trans h2,?_,λb t rows w h=>?_,λb t rows h=>k b t rows (o b t rows h),λx C=>?_⟩
 all_goals grind [eM]
theorem ZC{s:TSt}{b:Nat}{w:Bool}{t:Ty}{rows:List t.D}(hb:s.sto[b]?=some (.arr w t rows)):Fzd s (wS b (.arr false t rows) s) [(b,.arr false t.sz (rows.map (cel t)))]:=by
 have e:lnB (.arr false t rows)=lns s.sto b:=by rw[mC hb];rfl
 have k:(wS b (.arr false t rows) s).sto[b]?=some (.arr false t rows):=by grind [wS]
 have j: ∀c,c≠b->(wS b (.arr false t rows) s).sto[c]?=s.sto[c]?:=λc hc=>by grind [wS]
 refine⟨rfl,FD e,zA e,λc t' g w' h=>?_,λc t' g h=>?_,λx n=>?_⟩
 all_goals grind
theorem JJd(x y:List AV)(st:St):(fz.fzL (x++y)).run st=((fz.fzL x).run st).bind λa=>((fz.fzL y).run st).map λc=>(a.1++c.1,a.2++c.2):=by
 induction x with
 |nil=>simp_all
 |cons v x ih=>
  simp only[vR,fz.fzL,run_bind,ih];cases(fz.fz1 v).run st with
  |none=>rfl
  |some a=>
   simp only[JL];cases(fz.fzL x).run st with
   |none=>rfl
   |some c=>simp only[JL];cases(fz.fzL y).run st<;>simp_all
theorem KV{L:Nat->Nat}{t t':Ty}{x:t'.D}(h:t'=t)(h1:t.sz=1)(st:St):(fz.fzL ([TC.d t' x].map (bB L))).run st=some (cel t (h▸x),[]):=by
 grind [IF,bB,fz.fzL,fz.fz1,run_bind,JW]
theorem LI: ∀{t:Ty} {l:List TC} {s0 s:TSt} {w0:List (Nat×Blk)} {k:t.D->TSt->Option R} {r:R},Fzd s0 s w0->fzC t l s k=some r->
  ∃y s' ws,(fz.fzL (l.map (bB (lns s0.sto)))).run (JB s0)=some (cel t y,ws)/\Fzd s0 s' (w0++ws)/\k y s'=some r
 | .pr a c,l,s0,s,w0,k,r,j,h=>by simp only[fzC]at h;obtain⟨x,s1,z,B,q,h⟩:=LI j h;obtain⟨y,v,C,A,E,h⟩:=LI q h;refine⟨(x,y),v,z++C,?_,by simp_all,h⟩;have:=JJd ((l.take a.sz).map (bB (lns s0.sto))) ((l.drop a.sz).map (bB (lns s0.sto))) (JB s0);rw[<-DE,oG,B,A]at this;exact this
 | .ar _ _,_,_,_,_,_,_,_,h=>by cases h
 | .u,l,s0,s,w0,k,r,j,h=>by
  simp only[fzC]at h;split at h;rename_i g;refine⟨(),s,[],?_,by simp_all,h⟩;rw[List.isEmpty_iff.1 g];rfl;cases h
 | .l e,l,s0,s,w0,k,r,j,h=>by
  simp only[fzC]at h;split at h;split at h;rename_i g;exact⟨_,s,[],KV g rfl _,by simp_all,h⟩;cases h;rename_i b;split at h;rename_i w e' rows o;split at h;rename_i g;subst g;obtain⟨w',n⟩:=j.2.2.2.1 b _ rows w o;refine⟨rows,_,[(b,.arr false e'.sz (rows.map (cel e')))],?_,j.trans (ZC o),h⟩;simp only[bR,List.map_nil,bB,fz.fzL,fz.fz1,run_bind,dX,eB,n,cT,JL,aV,mC n,fE,oM,if_true,DL,JW];rfl;cases h;cases h;cases h
 | .b,l,s0,s,w0,k,r,j,h=>by
  simp only[fzC]at h;split at h;split at h;rename_i g;exact⟨_,s,[],KV g rfl _,by simp_all,h⟩;cases h;cases h
 | .i _,l,s0,s,w0,k,r,j,h=>by
  simp only[fzC]at h;split at h;split at h;rename_i g;exact⟨_,s,[],KV g rfl _,by simp_all,h⟩;cases h;cases h
 | .s,l,s0,s,w0,k,r,j,h=>by
  simp only[fzC]at h;split at h;split at h;rename_i g;exact⟨_,s,[],KV g rfl _,by simp_all,h⟩;cases h;cases h
 | .f,l,s0,s,w0,k,r,j,h=>by
  simp only[fzC]at h;split at h;split at h;rename_i g;exact⟨_,s,[],KV g rfl _,by simp_all,h⟩;cases h;cases h
theorem Z3(x:AV)(hx:(∀cs,x≠.data cs)/\ ∀cs,x≠.agg cs)(st:St){y:List PV}{ws:List (Nat×Blk)}(h:(fz.fzL [x]).run st=some (y,ws)):(fz x).run st=some (y,ws):=by simp only[fz.fzL,run_bind,JW]at h;cases x<;>simp_all [bJ]
theorem Eg{t:Ty}{v:TV}{s0 s:TSt}{w0:List (Nat×Blk)}{k:t.D->TSt->Option R}{r:R}(g:Fzd s0 s w0)(h:tfz t v s k=some r):
  ∃y s' ws,(fz (JY (lns s0.sto) v)).run (JB s0)=some (cel t y,ws)/\Fzd s0 s' (w0++ws)/\k y s'=some r:=by
 unfold tfz at h;split at h;split at h;rename_i j;subst j;exact⟨_,s,[],rfl,by simp_all,h⟩;cases h;rename_i x;obtain⟨y,s',ws,h1,h2,e⟩:=LI g h;refine⟨y,s',ws,Z3 _ ⟨λcs=>?_,λcs=>?_⟩ _ h1,h2,e⟩<;>cases x<;>simp[bB,JY,bL]
 obtain⟨y,s',ws,h1,h2,e⟩:=LI g h;exact⟨y,s',ws,h1,h2,e⟩;cases h
end
end Go.Am
end
section
namespace Go.Am
section
variable {R:Type}
theorem fj(L:Nat->Nat){t:Ty}{v:TV}{x:t.D}(h:tdv t v=some x)(ha:agv v=true\/t.sz=1):cellsOf (JY L v)=some ((cel t x).map .p):=by
 rw[JM3 L h];split;rfl;rename_i e;rw[IF (ha.resolve_left e)];rfl
def YC(t:Ty)(x u:TV)(d:Option Nat)(s:TSt)(k:TSt->Option R):Option R:=
 match x with
 | .a (.c (.ptr b p))=>match s.sto[b]? with
  |some (.box t0 y)=>match tdv t u with
   |some z=>if agv u=true\/t.sz=1 then pst t0 y (spf 0 p).1 (spf 0 p).2 t z λg=>k (bE d uv (wS b (.box t0 g) s))else none
   |none=>match sQ p,yK t0 y,tcs u with
    |some off,some cs,some l=>if l.length=t.sz then
     match spl cs off l with
     |some cs'=>k (bE d uv (wS b (mkb t0 cs') s))
     |none=>none
     else none
    |some off,none,some l=>if off=0/\l.length=t0.sz/\l.length=t.sz then k (bE d uv (wS b (mkb t0 l) s))else none
    |_,_,_=>none
  |some (.mbox t0 cs)=>match sQ p,tcs u with
   |some off,some l=>if l.length=t.sz then
    match spl cs off l with
    |some cs'=>k (bE d uv (wS b (mkb t0 cs') s))
    |none=>none
    else none
   |_,_=>none
  |_=>none
 | .a (.c (.ep b i p))=>tfz t u s λz s1=>match s1.sto[b]? with|some (.arr true t0 rows)=>(bF rows i).bind λrow=>pst t0 row (spf 0 p).1 (spf 0 p).2 t z λe=>k (bE d uv (wS b (.arr true t0 (aY rows i e)) s1))|_=>none
 |_=>none
theorem JM5(L:Nat->Nat):JY L uv=gG:=rfl
theorem PY{s:TSt}{b:Nat}{t:Ty}{x:t.D}(h:s.sto[b]?=some (.box t x)):lns s.sto b=0:=by unfold lns;rw[h];rfl
theorem pt{s:TSt}{b:Nat}{t:Ty}{cs:List TC}(h:s.sto[b]?=some (.mbox t cs)):lns s.sto b=0:=by unfold lns;rw[h];rfl
theorem zY{s:TSt}{b:Nat}(h:s.sto[b]?=some .dead):lns s.sto b=0:=by unfold lns;rw[h];rfl
theorem KE{m:RM Eff}{d:Option Nat}{s:TSt}{k:TSt->Option R}{r:R}{b:Nat}{x:TB}{v:TV}(hl:lnB x=lns s.sto b)(hm:m.run (JB s)=some ⟨JY (lns s.sto) v,[(b,aV (lns s.sto) x)]⟩)
  (h:k (bE d v (wS b x s))=some r):Ok m d s k r:=by
 refine⟨_,_,hm,?_,h⟩;have e:=FD hl;rw[<-e];refine qU ?_ d v;simp_all [zA]
theorem mb{m:RM Eff}{d:Option Nat}{s:TSt}{k:TSt->Option R}{r:R}{b:Nat}{x:TB}{v:TV}(hm:m.run (JB s)=some ⟨JY (lns (wN b x s).sto) v,[(b,aV (lns (wN b x s).sto) x)]⟩)
  (h:k (bE d v (wN b x s))=some r):Ok m d s k r:=
 ⟨_,_,hm,qU (Dp b x s) d v,h⟩
theorem fV{m:RM Eff}{d:Option Nat}{s:TSt}{k:TSt->Option R}{r:R}{v:TV}(hm:m.run (JB s)=some ⟨JY (lns s.sto) v,[]⟩)(h:k (bE d v s)=some r):Ok m d s k r:=
 ⟨_,_,hm,LY d v,h⟩
theorem XT{m:RM Eff}{d:Option Nat}{s s':TSt}{ws:List (Nat×Blk)}{k:TSt->Option R}{r:R}{v:TV}(f:Fzd s s' ws)(hm:m.run (JB s)=some ⟨JY (lns s.sto) v,ws⟩)(h:k (bE d v s')=some r):Ok m d s k r:=by refine⟨_,_,hm,?_,h⟩;rw[<-f.2.1];exact qU f.2.2.1 d v
theorem JE7{t:Ty}{x u:TV}{d:Option Nat}{s:TSt}{k:TSt->Option R}{r:R}(h:YC t x u d s k=some r):Ok (hQ t.sz (JY (lns s.sto) x) (JY (lns s.sto) u)) d s k r:=by
 unfold YC at h;split at h;rename_i b p;split at h;rename_i t0 y e;split at h;rename_i z F;split at h;rename_i I;obtain⟨D,h1,h2⟩:=zO h;rw[HP]at h1;refine KE (x:=.box t0 D) (v:=uv) (PY e).symm ?_ h2;simp only[jV,lT,lP,gU,hQ,dX,eB,e,cT,JL,aV,fj (lns s.sto) F I,fE,dY,if_true,FR,h1,JW];rfl;cases h;split at h;rename_i off cs l o hc j;split at h;rename_i B;split at h;rename_i cs' A;refine KE (x:=mkb t0 cs') (v:=uv) ((QH _ _).trans (PY e).symm) ?_ h;rw[QO];simp only[jV,lT,lP,gU,hQ,dX,eB,e,cT,JL,aV,LM (lns s.sto) j,fE,B,if_true,EU o,<-LQ (lns s.sto) hc,FR,A,JW];rfl;cases h;cases h;rename_i off l o _ j;split at h;rename_i E;obtain⟨rfl,h1,h2⟩:=E;refine KE (x:=mkb t0 l) (v:=uv) ((QH _ _).trans (PY e).symm) ?_ h;rw[QO];have J:spl ((cel t0 y).map AV.p) 0 (l.map (bB (lns s.sto)))=some (l.map (bB (lns s.sto))):=Gi (by grind [dY]);simp only[jV,lT,lP,gU,hQ,dX,eB,e,cT,JL,aV,LM (lns s.sto) j,fE,h2,if_true,EU o,J,JW];rfl;cases h;cases h;rename_i t0 cs e;split at h;rename_i off l o j;split at h;rename_i B;split at h;rename_i cs' A;refine KE (x:=mkb t0 cs') (v:=uv) ((QH _ _).trans (pt e).symm) ?_ h;rw[QO];simp only[jV,lT,lP,gU,hQ,dX,eB,e,cT,JL,aV,LM (lns s.sto) j,fE,B,if_true,EU o,FR,A,JW];rfl;cases h;cases h;cases h;cases h;rename_i b i p;obtain⟨z,s1,ws,h1,f,h⟩:=Eg (Fzd.refl s) h;rw[oC]at f;split at h;rename_i t0 rows e;obtain⟨row,w,h⟩:=bJ.1 h;have w:rows[i]?=some row:=w;obtain⟨g,C,K⟩:=zO h;rw[HP]at C;obtain⟨w',n⟩:=f.2.2.2.1 b _ rows true e;have G:w'=true:=by
  cases w' with
  |true=>rfl
  |false=>have:=f.2.2.2.2.1 b _ rows n;simp_all
 subst G;have q:(ws.all λy=>y.1 !=b)=true:=(by rw[List.all_eq_true];intro y H;obtain⟨t',rows',L⟩:=f.2.2.2.2.2 y H;grind);have j:lnB (.arr true t0 (aY rows i g))=lns s1.sto b:=by grind [mC,lnB,aY]
 refine⟨⟨gG,ws++[(b,.arr true t0.sz ((aY rows i g).map (cel t0)))]⟩,_,?_,?_,K⟩;simp only[jV,lT,lP,gU,hQ,dX,eB,n,cT,JL,aV,mC n,fE,if_true,fF,w,run_bind,h1,dY,q,and_self,C,JW,List.map_set,aY];rw[<-JM5 (lns (wS b (.arr true t0 (aY rows i g)) s1).sto)];refine qU ?_ d uv;rw[zA j,f.2.2.1,eM];rfl;cases h;cases h
def tpv:List (Nat×Ty×TO)->TSt->Option (List (Nat×(w:Ty)×w.D))
 |[],_=>some []
 |(off,w,o)::r,s=>match tev o s with
  |some v=>match tdv w v with
   |some z=>if agv v=true\/w.sz=1 then
    match tpv r s with
    |some l=>some ((off,⟨w,z⟩)::l)
    |none=>none
    else none
   |none=>none
  |none=>none
def OH(t:Ty):t.D->List (Nat×(w:Ty)×w.D)->(t.D->Option R)->Option R|x,[],k=>k x|x,(off,⟨w,z⟩)::r,k=>pst t x off [] w z λe=>OH t e r k
def tpc:List (Nat×Ty×TO)->TSt->Option (List (Nat×Nat×List TC))
 |[],_=>some []
 |(off,w,o)::r,s=>match tev o s with
  |some v=>match tcs v with
   |some l=>match tpc r s with|some q=>some ((off,w.sz,l)::q)|none=>none
   |none=>none
  |none=>none
def IQ:List (Nat×Nat×List TC)->List TC->Option (List TC)
 |[],cs=>some cs
 |(off,n,c)::r,cs=>if c.length=n then
  match spl cs off c with
  |some cs'=>IQ r cs'
  |none=>none
  else none
def erP(parts:List (Nat×Ty×TO)):List (Nat×Nat×Opd):=parts.map λx=>(x.1,x.2.1.sz,erO x.2.2)
theorem YL{s:TSt}: ∀{parts:List (Nat×Ty×TO)} {l:List (Nat×Nat×List TC)},tpc parts s=some l->
  (kD (erP parts)).run (JB s)=some (l.map λx=>(x.1,x.2.1,x.2.2.map (bB (lns s.sto))))
 |[],l,h=>by injection h with h;subst h;rfl
 |(off,w,o)::r,l,h=>by
  simp only[tpc]at h;split at h;rename_i v g;split at h;rename_i c hc;split at h;rename_i q e;injection h with h;subst h;have ih:=YL e;simp only[erP,bR,kD,run_bind,bW g,JL,LM (lns s.sto) hc];simp_all [erP];cases h;cases h;cases h
theorem D6{s:TSt}: ∀{parts:List (Nat×Ty×TO)} {l:List (Nat×(w:Ty)×w.D)},tpv parts s=some l->
  (kD (erP parts)).run (JB s)=some (l.map λx=>(x.1,x.2.1.sz,(cel x.2.1 x.2.2).map .p))
 |[],l,h=>by injection h with h;subst h;rfl
 |(off,w,o)::r,l,h=>by
  simp only[tpv]at h;split at h;rename_i v g;split at h;rename_i z k;split at h;rename_i j;split at h;rename_i q e;injection h with h;subst h;have ih:=D6 e;simp only[erP,bR,kD,run_bind,bW g,JL,fj (lns s.sto) k j];simp_all [erP];cases h;cases h;cases h;cases h
theorem qk{t:Ty}: ∀{l:List (Nat×(w:Ty)×w.D)} {x:t.D} {k:t.D->Option R} {r:R},OH t x l k=some r->
  ∃y,oY (l.map λx=>(x.1,x.2.1.sz,(cel x.2.1 x.2.2).map .p)) ((cel t x).map .p)=some ((cel t y).map .p)/\k y=some r
 |[],x,k,r,h=>⟨x,rfl,h⟩
 |(off,⟨w,z⟩)::q,x,k,r,h=>by
  simp only[OH]at h;obtain⟨e,h1,h2⟩:=zO h;obtain⟨y,j,g⟩:=qk h2;grind [oY,dY,FR,spo]
theorem ds(L:Nat->Nat): ∀{l:List (Nat×Nat×List TC)} {cs cs':List TC},IQ l cs=some cs'->
  oY (l.map λx=>(x.1,x.2.1,x.2.2.map (bB L))) (cs.map (bB L))=some (cs'.map (bB L))
 |[],cs,cs',h=>by injection h with h;subst h;rfl
 |(off,n,c)::q,cs,cs',h=>by
  simp only[IQ]at h;split at h;rename_i e;split at h;rename_i j g;simp only[bR,oY,fE,e,if_true,FR,g,cT];exact ds L h;cases h;cases h
def YE(t:Ty)(parts:List (Nat×Ty×TO))(d:Option Nat)(s:TSt)(k:TSt->Option R):Option R:=
 match tpv parts s with
 |some l=>OH t t.zero l λy=>k (bE d (.a (.dt t y)) s)
 |none=>match tpc parts s with
  |some l=>match IQ l (zcs t)with
   |some cs'=>match mka true t cs' with|some v=>k (bE d v s)|none=>none
   |none=>none
  |none=>none
theorem JEQ(F:Orc)(new:Nat){t:Ty}{parts:List (Nat×Ty×TO)}{d:Option Nat}{s:TSt}{k:TSt->Option R}{r:R}(h:YE t parts d s k=some r):Ok (opR F (.build (cel t t.zero) (erP parts)) new) d s k r:=by
 unfold YE at h;split at h;rename_i l e;obtain⟨y,h1,h2⟩:=qk h;refine fV (v:=.a (.dt t y)) ?_ h2;simp only[opR,run_bind,D6 e,JL,h1,uo,val,JW];rfl;split at h;rename_i l e;split at h;rename_i cs' g;split at h;rename_i v j;refine fV (v:=v) ?_ h;simp only[opR,run_bind,YL e,JL,<-FB (lns s.sto) t,ds (lns s.sto) g,EZ (lns s.sto) j,val,JW];cases h;cases h;cases h
def YF(agg:Bool)(off:Nat)(t:Ty)(v:TV)(d:Option Nat)(s:TSt)(k:TSt->Option R):Option R:=
 if agg=true\/t.sz=1 then
  match v with
  | .a (.dt t0 x)=>prt t0 x off [] t λy=>k (bE d (mkv agg t y) s)
  | .a (.m _ cs)=>match sub cs off t.sz with
   |some l=>match mka agg t l with|some v=>k (bE d v s)|none=>none
   |none=>none
  |_=>none
 else none
theorem JEp{agg:Bool}{off:Nat}{t:Ty}{v:TV}{d:Option Nat}{s:TSt}{k:TSt->Option R}{r:R}(h:YF agg off t v d s k=some r):Ok (val (qP agg off t.sz (JY (lns s.sto) v))) d s k r:=by
 unfold YF at h;split at h;rename_i j;split at h;rename_i t0 x;obtain⟨y,h1,h2⟩:=wQ h;refine fV (v:=mkv agg t y) ?_ h2;grind [spo,kg,qP,ES,val,JW];rename_i cs;split at h;rename_i l e;split at h;rename_i v g;refine fV (v:=v) ?_ h;grind [e_m,qP,FT,EZ,val,JW];cases h;cases h;cases h;cases h
end
end Go.Am
end
section
namespace Go.Am
section
variable {R:Type}
theorem ZL{α:Type} [BEq α] [LawfulBEq α] [DecidableEq α](x y:α):(x==y)=decide (x=y):=by
 grind
def Vl(m:Option AV)(s:TSt)(kk:TV->Option R)(r:R):Prop:= ∃v,m=some (JY (lns s.sto) v)/\kk v=some r
theorem Vl.ok{m:Option AV}{d:Option Nat}{s:TSt}{k:TSt->Option R}{r:R}(h:Vl m s (λv=>k (bE d v s)) r):Ok (val m) d s k r:=by obtain⟨v,h1,h2⟩:=h;refine fV (v:=v) ?_ h2;rw[h1];rfl
def kc(op:BinOp)(k:IntKind)(a c:Int)(kk:TV->Option R):Option R:=
 match op with
 | .add=>kk (vi k (J2 k a c))
 | .sub=>kk (vi k (Jw k a c))
 | .mul=>kk (vi k (bX k a c))
 | .quo=>(C6 k a c).bind λq=>kk (vi k q)
 | .rem=>(vJ a c).bind λq=>kk (vi k q)
 | .and=>kk (vi k (qE k a c))
 | .or=>kk (vi k (orI k a c))
 | .xor=>kk (vi k (fG k a c))
 | .eql=>kk (vb (aJ a c))
 | .neq=>kk (vb (aN a c))
 | .lss=>kk (vb (aK a c))
 | .leq=>kk (vb (aX a c))
 | .gtr=>kk (vb (aO a c))
 | .geq=>kk (vb (aP a c))
 |_=>none
def l4(op:BinOp)(a c:List UInt8)(kk:TV->Option R):Option R:=
 match op with
 | .add=>(dA a c).bind λq=>kk (vs q)
 | .eql=>kk (vb (eqS a c))
 | .neq=>kk (vb (neS a c))
 | .lss=>kk (vb (ltS a c))
 | .leq=>kk (vb (leS a c))
 | .gtr=>kk (vb (gtS a c))
 | .geq=>kk (vb (geS a c))
 |_=>none
inductive TBT where|plain|bool|flat (t:Ty)|nilp|nilf
def erT:TBT->BT| .plain=>.plain| .bool=>.bool| .flat t=>.flat (t.ks.getD [])| .nilp=>.nilp| .nilf=>.nilf
def mZ(op:BinOp)(x:Bool)(kk:TV->Option R):Option R:=
 match op with
 | .eql=>kk (vb x)
 | .neq=>kk (vb (Jr x))
 |_=>none
def kv(op:BinOp)(bt:TBT)(x y:TV)(kk:TV->Option R):Option R:=
 match bt with
 | .plain=>match x,y with
  | .a (.c (.d (.i k) a)),.a (.c (.d (.i k') c))=>match op with| .shl=>(sP k a c).bind λq=>kk (vi k q)| .shr=>(jR k a c).bind λq=>kk (vi k q)|_=>if k=k' then kc op k a c kk else none
  | .a (.c (.d .s a)),.a (.c (.d .s c))=>l4 op a c kk
  |_,_=>none
 | .bool=>match x,y with| .a (.c (.d .b a)),.a (.c (.d .b c))=>mZ op (eqB a c) kk|_,_=>none
 | .flat t=>match x,y with| .a (.dt g a),.a (.dt e c)=>if h:g=t/\e=t/\t.ks.isSome=true then mZ op (eqT t (h.1▸a) (h.2.1▸c)) kk else none|_,_=>none
 | .nilp=>match x with| .a (.c .np)=>mZ op true kk| .a (.c (.ptr _ _))=>mZ op false kk| .a (.c (.cp _ _ _))=>mZ op false kk| .a (.c (.ep _ _ _))=>mZ op false kk|_=>none
 | .nilf=>match x with| .a (.c .nf)=>mZ op true kk| .a (.fn _ _ _)=>mZ op false kk| .a (.c (.fn _))=>mZ op false kk| .a (.c (.d .f _))=>mZ op true kk|_=>none
theorem QA{op:BinOp}{x:Bool}{s:TSt}{kk:TV->Option R}{r:R}(h:mZ op x kk=some r):Vl (iW op (some x)) s kk r:=by
 unfold mZ at h;split at h;exact⟨_,rfl,h⟩;exact⟨_,rfl,h⟩;cases h
theorem JIp{op:BinOp}{k:IntKind}{a c:Int}{s:TSt}{kk:TV->Option R}{r:R}(h:kc op k a c kk=some r):Vl ((yA op k a c).map .p) s kk r:=by
 unfold kc at h;split at h<;>first
  |exact⟨_,rfl,h⟩
  |(obtain⟨q,h1,h⟩:=bJ.1 h
    refine⟨_,?_,h⟩
    first|unfold C6 at h1|unfold vJ at h1
    split at h1;cases h1;rename_i e;injection h1 with h1;simp only[yA,if_neg e,h1,cT,e_i])
  |(refine⟨_,?_,h⟩;simp only[yA,ZL,cT,e_b,bne,aJ,aN,aK,aX,aO,aP];done)
  |cases h
theorem JJV{op:BinOp}{a c:List UInt8}{s:TSt}{kk:TV->Option R}{r:R}(h:l4 op a c kk=some r):Vl ((yF op a c).map .p) s kk r:=by
 unfold l4 at h;split at h<;>first
  |(obtain⟨q,h1,h⟩:=bJ.1 h
    refine⟨_,?_,h⟩;unfold dA at h1;split at h1;rename_i e;injection h1 with h1;simp only[yF,if_pos e,h1,cT,e_s];cases h1)
  |(refine⟨_,?_,h⟩;simp only[yF,ZL,cT,e_b,eqS,neS,ltS,leS,gtS,geS];done)
  |cases h
theorem JJk{op:BinOp}{bt:TBT}{x y:TV}{s:TSt}{kk:TV->Option R}{r:R}(h:kv op bt x y kk=some r):Vl (mW op (erT bt) (JY (lns s.sto) x) (JY (lns s.sto) y)) s kk r:=by
 unfold kv at h;split at h;split at h;rename_i k a k' c;simp only[e_i,erT,mW];split at h;obtain⟨q,h1,h⟩:=bJ.1 h;unfold sP at h1;split at h1;cases h1;rename_i e;injection h1 with h1;exact⟨_,by simp_all [e_i],h⟩;obtain⟨q,h1,h⟩:=bJ.1 h;unfold jR at h1;split at h1;cases h1;rename_i e;injection h1 with h1;exact⟨_,by simp_all [e_i],h⟩;grind [JIp];exact JJV h;cases h;split at h;rename_i a c;simp only[e_b,erT,mW,ZL];exact QA h;cases h;grind [Option.isSome_iff_exists,kg,erT,mW,QR,QA];split at h<;>first|exact QA h|cases h
 split at h<;>first|exact QA h|cases h
def tUn(op:UnOp)(x:TV)(kk:TV->Option R):Option R:=
 match op,x with
 | .neg,.a (.c (.d (.i k) n))=>kk (vi k (JNE k n))
 | .xor,.a (.c (.d (.i k) n))=>kk (vi k (VN k n))
 | .not,.a (.c (.d .b x))=>kk (vb (Jr x))
 |_,_=>none
theorem JLN{op:UnOp}{x:TV}{s:TSt}{kk:TV->Option R}{r:R}(h:tUn op x kk=some r):Vl (unP op (JY (lns s.sto) x)) s kk r:=by unfold tUn at h;split at h<;>first|exact⟨_,rfl,h⟩|cases h
def tMm(mx:Bool)(x y:TV)(kk:TV->Option R):Option R:=
 match x,y with
 | .a (.c (.d (.i k) a)),.a (.c (.d (.i _) c))=>kk (vi k (if mx=true then cO a c else lM a c))
 |_,_=>none
theorem JMd{mx:Bool}{x y:TV}{s:TSt}{kk:TV->Option R}{r:R}(h:tMm mx x y kk=some r):Vl (mmP mx (JY (lns s.sto) x) (JY (lns s.sto) y)) s kk r:=by
 unfold tMm at h;split at h;exact⟨_,by cases mx<;>rfl,h⟩;cases h
def tls(t:Ty)(v:TV)(s:TSt):Option (List t.D):=
 match v with
 | .a (.c (.d (.l t') l))=>if h:t'=t then some (h▸l)else none
 | .a (.c (.d .s l))=>if h:t=.i .u8 then some (h▸(aS l:List (Ty.i .u8).D))else none
 | .a (.c (.slr b))=>match s.sto[b]? with|some (.arr _ t' rows)=>if h:t'=t then some (h▸rows)else none|_=>none
 | .a (.c (.suf b i))=>match s.sto[b]? with|some (.arr _ t' rows)=>if h:t'=t then some (h▸rows.drop i)else none|_=>none
 |_=>none
theorem YO{t:Ty}{v:TV}{s:TSt}{l:List t.D}(h:tls t v s=some l):(fK t.sz (JY (lns s.sto) v)).run (JB s)=some (l.map (cel t)):=by
 unfold tls at h;split at h;grind [e_l,fK,JW];split at h;rename_i g;subst g;injection h with h;subst h;simp only[e_s,fK,Ty.sz,if_true,JW,da];rfl;cases h;rename_i b;split at h;rename_i w t' rows j;split at h;rename_i g;subst g;injection h with h;subst h;simp only[gU,fK,dX,eB,j,cT,JL,aV,mC j,fE,oM,and_self,if_true,JW,DL];cases h;cases h;rename_i b i;split at h;rename_i w t' rows j;split at h;rename_i g;subst g;injection h with h;subst h;have e:JY (lns s.sto) (.a (.c (.suf b i)))=.slr b (min i (lns s.sto b)) (lns s.sto b-i):=rfl;have n:min i rows.length+(rows.length-i)=rows.length:=by omega
 have k:(rows.map (cel t')).drop (min i rows.length)=(rows.map (cel t')).drop i:=(by rcases Nat.le_total i rows.length with h|h;rw[Nat.min_eq_left h];rw[Nat.min_eq_right h,List.drop_of_length_le (by simp),List.drop_of_length_le (by simpa using h)]);simp only[e,fK,dX,eB,j,cT,JL,aV,mC j,fE,n,and_self,if_true,JW,k,List.map_drop];cases h;cases h;cases h
def nb(k:CK)(x:TV)(d:Option Nat)(new:Nat)(s:TSt)(kk:TSt->Option R):Option R:=
 match k with
 | .int k=>match x with| .a (.c (.d (.i _) n))=>kk (bE d (vi k (aU k n)) s)|_=>none
 | .same=>match x with| .a (.c (.d .s l))=>kk (bE d (vs l) s)|_=>none
 | .toStr=>match tls (.i .u8) x s with|some l=>kk (bE d (vs (toStr l)) s)|none=>none
 | .toBytes own=>match x with| .a (.c (.d .s l))=>if own=true then kk (bE d (.a (.c (.slr new))) (wN new (.arr true (.i .u8) (aS l)) s))else kk (bE d (vl (.i .u8) (aS l)) s)|_=>none
theorem JGF(F:Orc){k:CK}{x:TO}{v:TV}{d:Option Nat}{new:Nat}{s:TSt}{kk:TSt->Option R}{r:R}(hx:tev x s=some v)(hn:k=.toBytes true->new<s.sto.length)(h:nb k v d new s kk=some r):Ok (opR F (.conv k (erO x)) new) d s kk r:=by
 unfold nb at h;split at h;split at h;refine fV (v:=vi _ _) ?_ h;simp only[opR,run_bind,bW hx,JL,e_i,JW,aU];cases h;split at h;refine fV (v:=vs _) ?_ h;grind [opR,run_bind,bW,e_s,JW];cases h;split at h;rename_i l j;refine fV (v:=vs _) ?_ h;have:=YO j;have e:l.map (cel (.i .u8))=l.map (r_i .u8):=rfl;rw[e]at this;simp only[opR,run_bind,bW hx,JL,this,ga,e_s,JW,Ty.sz];rw[show(fK 1 (JY (lns s.sto) v)).run (JB s)=some (l.map (r_i .u8))from this];simp[ga];cases h;rename_i own;split at h;rename_i l;split at h;rename_i g;subst g;refine mb (x:=.arr true (.i .u8) (aS l)) (v:=.a (.c (.slr new))) ?_ h;simp only[opR,run_bind,bW hx,JL,e_s,if_true,JW,gU,aV,da];have e:lns (wN new (TB.arr true (Ty.i IntKind.u8) (aS l)) s).sto new=l.length:=(by grind [wN,XW,lnB,aS]);rw[e];rfl;rename_i g;have:own=false:=by simpa using g
 subst this;refine fV (v:=vl _ _) ?_ h;simp only[opR,run_bind,bW hx,JL,e_s,eI,if_false,JW,e_l,da];rfl;cases h
end
end Go.Am
end
section
namespace Go.Am
section
variable {R:Type}
theorem Hj(p q:List Sp):spo (p++q)=spo p+spo q:=by
 induction p with
 |nil=>simp[spo]
 |cons x p ih=>cases x<;>simp only[vR,spo,ih]<;>omega
def YT(off:Nat)(x:TV)(kk:TV->Option R):Option R:=
 match x with
 | .a (.c (.ptr b p))=>kk (.a (.c (.ptr b (p++[.f off]))))
 | .a (.c (.cp t x p))=>kk (.a (.c (.cp t x (p++[.f off]))))
 | .a (.c (.ep b i p))=>kk (.a (.c (.ep b i (p++[.f off]))))
 |_=>none
theorem JEG{off:Nat}{x:TV}{s:TSt}{kk:TV->Option R}{r:R}(h:YT off x kk=some r):Vl (LF off (JY (lns s.sto) x)) s kk r:=by
 unfold YT at h;split at h<;>first
  |(refine⟨_,?_,h⟩;simp only[jV,lT,lP,LF,Hj,spo,sV];done)
  |cases h
def YV(len esz:Nat)(x i:TV)(kk:TV->Option R):Option R:=
 match i with
 | .a (.c (.d (.i _) n))=>(aW len n).bind λ_=>match x with| .a (.c (.ptr b p))=>kk (.a (.c (.ptr b (p++[.a n.toNat esz]))))| .a (.c (.cp t x p))=>kk (.a (.c (.cp t x (p++[.a n.toNat esz]))))| .a (.c (.ep b i p))=>kk (.a (.c (.ep b i (p++[.a n.toNat esz]))))|_=>none
 |_=>none
theorem JEU{len esz:Nat}{x i:TV}{s:TSt}{kk:TV->Option R}{r:R}(h:YV len esz x i kk=some r):Vl (LB len esz (JY (lns s.sto) x) (JY (lns s.sto) i)) s kk r:=by
 unfold YV at h;split at h;obtain⟨_,h1,h⟩:=bJ.1 h;have e:=Fk h1;split at h<;>first
  |(refine⟨_,?_,h⟩;simp only[jV,lT,lP,e_i,LB,if_pos e,Hj,spo,sV];done)
  |cases h
 cases h
def YD(t:Ty)(x i:TV)(s:TSt)(kk:TV->Option R):Option R:=
 match i with
 | .a (.c (.d (.i _) n))=>match x with
  | .a (.c (.d (.l t') l))=>if t'=t then(idx l n).bind λy=>kk (.a (.c (.cp t' y [])))else none
  | .a (.c (.slr b))=>match s.sto[b]? with|some (.arr _ t' rows)=>if t'=t then(aW rows.length n).bind λ_=>kk (.a (.c (.ep b n.toNat [])))else none|_=>none
  |_=>none
 |_=>none
theorem JEk{t:Ty}{x i:TV}{d:Option Nat}{s:TSt}{k:TSt->Option R}{r:R}(h:YD t x i s (λv=>k (bE d v s))=some r):Ok (lZ t.sz (JY (lns s.sto) x) (JY (lns s.sto) i)) d s k r:=by
 unfold YD at h;split at h;split at h;split at h;rename_i e;subst e;obtain⟨y,h1,h⟩:=bJ.1 h;refine fV (v:=.a (.c (.cp _ y []))) ?_ h;grind [e_l,e_i,lT,lZ,JEf,JW,spo];cases h;rename_i b;split at h;rename_i w t' rows g;split at h;rename_i e;subst e;obtain⟨_,h1,h⟩:=bJ.1 h;have e:=Fk h1;refine fV (v:=.a (.c (.ep b _ []))) ?_ h;simp only[gU,e_i,lP,lZ,dX,eB,g,cT,JL,aV,mC g,fE,oM,true_and];rw[if_pos e];rfl;cases h;cases h;cases h;cases h
def nk(x i:TV)(kk:TV->Option R):Option R:=
 match x,i with
 | .a (.c (.d .s l)),.a (.c (.d (.i _) n))=>(oA l n).bind λu=>kk (vi .u8 u)
 |_,_=>none
theorem JI2(F:Orc){x i:TO}{g e:TV}{d:Option Nat}{new:Nat}{s:TSt}{k:TSt->Option R}{r:R}(hx:tev x s=some g)(hi:tev i s=some e)(h:nk g e (λv=>k (bE d v s))=some r):Ok (opR F (.sidx (erO x) (erO i)) new) d s k r:=by
 unfold nk at h;split at h
 ·rename_i l k' n;obtain⟨u,h1,h⟩:=bJ.1 h;refine fV (v:=vi .u8 u) ?_ h;simp only[opR,run_bind,bW hx,bW hi,JL,e_s,e_i];unfold oA at h1;split at h1
  ·rename_i j;rw[if_pos j];split at h1
   all_goals simp_all
  cases h1
 cases h
def TZ(j:Int)(k:Nat->Option R):Nat->Option R|0=>none|m+1=>if aJ j m=true then k m else TZ j k m
theorem F6{j:Int}{k:Nat->Option R}{r:R}: ∀{n:Nat},TZ j k n=some r-> ∃m,m<n/\j=m/\k m=some r
 |0,h=>by cases h
 |n+1,h=>by
  simp only[TZ]at h;split at h;grind [aJ];obtain⟨m,h1,h2,e⟩:=F6 h;grind
def mc(agg:Bool)(len:Nat)(t:Ty)(x i:TV)(d:Option Nat)(s:TSt)(k:TSt->Option R):Option R:=
 if agg=true\/t.sz=1 then
  match x,i with
  | .a (.dt (.ar n t') v),.a (.c (.d (.i _) j))=>if h:t'=t/\n=len then(ki v j).bind λy=>k (bE d (mkv agg t (h.1▸y)) s)else none
  | .a (.m _ cs),.a (.c (.d (.i _) j))=>TZ j (λm=>match sub cs (m*t.sz) t.sz with
   |some l=>match mka agg t l with|some v=>k (bE d v s)|none=>none
   |none=>none) len
  |_,_=>none
 else none
theorem JH4(F:Orc){agg:Bool}{len:Nat}{t:Ty}{x i:TO}{o g:TV}{d:Option Nat}{new:Nat}{s:TSt}{k:TSt->Option R}{r:R}(hx:tev x s=some o)(hi:tev i s=some g)(h:mc agg len t o g d s k=some r):
  Ok (opR F (.aidx agg len t.sz (erO x) (erO i)) new) d s k r:=by
 unfold mc at h;split at h;rename_i B;split at h;rename_i n t' v k' j;split at h;rename_i w;obtain⟨rfl,rfl⟩:=w;obtain⟨y,h1,h⟩:=bJ.1 h;obtain⟨h2,e⟩:=JFJ h1;refine fV (v:=mkv agg t' y) ?_ h;simp only[opR,run_bind,bW hx,bW hi,JL,kg,e_i,if_pos h2,qP];grind [cel,LN,dY,ES,val,JW];cases h;rename_i t0 cs k' j;obtain⟨m,h1,q,e⟩:=F6 h;clear h;subst q;split at e;rename_i l z;split at e;rename_i v A;refine fV (v:=v) ?_ e;have h2:(0:Int)<=m/\(m:Int)<len:=by omega
 simp only[opR,run_bind,bW hx,bW hi,JL,e_m,e_i,if_pos h2,qP,Int.toNat_natCast,FT,z,cT,EZ (lns s.sto) A,val,JW];cases e;cases e;cases h;cases h
def nd(x:TV)(i:Nat)(kk:TV->Option R):Option R:=
 match x with
 | .tup vs=>match vs[i]? with|some v=>kk (.a v)|none=>none
 |_=>none
theorem JHN{x:TV}{i:Nat}{s:TSt}{kk:TV->Option R}{r:R}(h:nd x i kk=some r):Vl (OZ i (JY (lns s.sto) x)) s kk r:=by
 unfold nd at h;split at h;split at h;rename_i v e;refine⟨_,?_,h⟩;simp_all [JY];cases h;cases h
def lx(str:Bool)(x:TV)(s:TSt)(kk:TV->Option R):Option R:=
 match str,x with
 |true,.a (.c (.d .s l))=>kk (vi .i64 (J0 l))
 |false,.a (.c (.d (.l _) l))=>kk (vi .i64 (J0 l))
 |false,.a (.c (.slr b))=>match s.sto[b]? with|some (.arr _ _ rows)=>kk (vi .i64 (J0 rows))|_=>none
 |false,.a (.c (.slo _ n))=>kk (vi .i64 n)
 |_,_=>none
theorem JIx{str:Bool}{x:TV}{s:TSt}{kk:TV->Option R}{r:R}(h:lx str x s kk=some r):Vl (IN str (JY (lns s.sto) x)) s kk r:=by
 unfold lx at h;split at h;exact⟨_,rfl,h⟩;exact⟨_,by simp[e_l,e_i,J0],h⟩;split at h;rename_i e;exact⟨_,by grind [gU,IN,mC,e_i,J0],h⟩;cases h;exact⟨_,rfl,h⟩;cases h
theorem ZV{s:TSt}{new:Nat}(hn:new<s.sto.length){w:Bool}{t:Ty}{rows:List t.D}:lns (wN new (TB.arr w t rows) s).sto new=rows.length:=by unfold wN;rw[XW (by simpa using hn)];rfl
theorem YQ{m:RM Eff}{d:Option Nat}{s:TSt}{k:TSt->Option R}{r:R}{new:Nat}{t:Ty}{rows:List t.D}(hn:new<s.sto.length)
  (hm:m.run (JB s)=some ⟨.slr new 0 rows.length,[(new,.arr true t.sz (rows.map (cel t)))]⟩) (h:k (bE d (.a (.c (.slr new))) (wN new (.arr true t rows) s))=some r):Ok m d s k r:=by
 refine mb (x:=.arr true t rows) (v:=.a (.c (.slr new))) ?_ h;rw[hm,gU,ZV hn];rfl
def cw(own:Bool)(t:Ty)(bytes:Nat)(l c:TV)(d:Option Nat)(new:Nat)(s:TSt)(k:TSt->Option R):Option R:=
 match l,c with
 | .a (.c (.d (.i _) n)),.a (.c (.d (.i _) m))=>(mkS bytes n m t.zero).bind λrows=>
  if own=true then k (bE d (.a (.c (.slr new))) (wN new (.arr true t rows) s))else k (bE d (vl t rows) s)
 |_,_=>none
theorem H8(F:Orc){own:Bool}{t:Ty}{bytes:Nat}{l c:TO}{e n:TV}{d:Option Nat}{new:Nat}{s:TSt}{k:TSt->Option R}{r:R}(hl:tev l s=some e)(hc:tev c s=some n)(hn:own=true->new<s.sto.length)
  (h:cw own t bytes e n d new s k=some r):Ok (opR F (.mkslice own t.sz bytes (cel t t.zero) (erO l) (erO c)) new) d s k r:=by
 unfold cw at h;split at h;obtain⟨rows,h1,j⟩:=bJ.1 h;obtain⟨h2,rfl⟩:=JJF h1;clear h;split at j;rename_i g;subst g;refine YQ (hn rfl) ?_ j;simp only[opR,run_bind,bW hl,bW hc,JL,e_i,if_pos h2,if_true,JW,VV,VE];rename_i g;have:own=false:=by simpa using g
 subst this;refine fV (v:=vl t _) ?_ j;simp only[opR,run_bind,bW hl,bW hc,JL,e_i,if_pos h2,eI,if_false,JW,e_l,VE];cases h
def jy(t:Ty)(bytes:Nat)(x y:TV)(d:Option Nat)(s:TSt)(k:TSt->Option R):Option R:=
 match x with
 | .a (.c (.slr b))=>match s.sto[b]? with
  |some (.arr w t' rows)=>if h:t'=t then
   match tls t' y s with
   |some l=>(JH bytes rows l).bind λm=>k (bE d (.a (.c (.slr b))) (wN b (.arr w t' m) s))
   |none=>none
   else none
  |_=>none
 |_=>none
theorem JJT{t:Ty}{bytes:Nat}{x y:TV}{d:Option Nat}{s:TSt}{k:TSt->Option R}{r:R}(h:jy t bytes x y d s k=some r):Ok (iR t.sz bytes (JY (lns s.sto) x) (JY (lns s.sto) y)) d s k r:=by
 unfold jy at h;split at h;rename_i b;split at h;rename_i w t' rows e;split at h;rename_i j;subst j;split at h;rename_i l n;obtain⟨m,h1,h⟩:=bJ.1 h;refine mb (x:=.arr w t' m) (v:=.a (.c (.slr b))) ?_ h;have g:(JB s).sto[b]?=some (.arr w t'.sz (rows.map (cel t'))):=by rw[eB,e];rfl
 have:=JJr h1 g (YO n);rw[gU,mC e,this,gU,ZV (Jy e)];rfl;cases h;cases h;cases h;cases h
def mf(t:Ty)(bytes:Nat)(y:TV)(d:Option Nat)(new:Nat)(s:TSt)(k:TSt->Option R):Option R:=
 match tls t y s with
 |some l=>(cN bytes l).bind λm=>k (bE d (.a (.c (.slr new))) (wN new (.arr true t m) s))
 |none=>none
theorem JGe(F:Orc){t:Ty}{bytes:Nat}{z:List PV}{y:TO}{e:TV}{d:Option Nat}{new:Nat}{s:TSt}{k:TSt->Option R}{r:R}(hy:tev y s=some e)(hn:new<s.sto.length)(h:mf t bytes e d new s k=some r):Ok (opR F (.appn t.sz bytes z (erO y)) new) d s k r:=by
 unfold mf at h;split at h;rename_i l g;obtain⟨m,h1,j⟩:=bJ.1 h;obtain⟨h2,rfl⟩:=JFF h1;refine YQ hn ?_ j;simp only[opR,run_bind,bW hy,JL,YO g,fE,h2,if_true,JW];cases h
def tbn(x:Option TO)(s:TSt):Option (Option (IntKind×Int)):=
 match x with
 |none=>some none
 |some o=>match tev o s with|some (.a (.c (.d (.i k) n)))=>some (some (k,n))|_=>none
def bv(x:Option (IntKind×Int)):Option AV:=x.map λy=>.p (.i y.1 y.2)
theorem ER{x:Option TO}{s:TSt}{y:Option (IntKind×Int)}(h:tbn x s=some y):(evo (x.map erO)).run (JB s)=some (bv y):=by
 cases x with
 |none=>injection h with h;subst h;rfl
 |some o=>
  simp only[tbn]at h;split at h;rename_i k n e;injection h with h;subst h;simp only[cT,evo,run_bind,bW e,JL,JW,bv,e_i];cases h
theorem JLH(x:Option (IntKind×Int))(top d:Nat):pA (bv x) top d=sY (x.map (·.2)) top d:=by cases x<;>rfl
theorem Es(n:Nat)(lo hi:Option (IntKind×Int)):vE n (bv lo) (bv hi)=pZ n (lo.map (·.2)) (hi.map (·.2)):=by
 grind [vE,pZ,JLH]
inductive TSK where|str|sl (t:Ty)
def erK:TSK->SK| .str=>.str| .sl t=>.sl t.sz
def kn(t:Ty)(x:TV)(s:TSt)(kk:List t.D->TSt->Option R):Option R:=
 match x with
 | .a (.c (.d (.l t') l))=>if h:t'=t then kk (h▸l) s else none
 | .a (.c (.slr b))=>match s.sto[b]? with|some (.arr _ t' rows)=>if h:t'=t then kk (h▸rows) (wS b (.arr false t' rows) s)else none|_=>none
 |_=>none
theorem JJv{t:Ty}{x:TV}{s:TSt}{kk:List t.D->TSt->Option R}{r:R}(h:kn t x s kk=some r):
  ∃l s' ws,Fzd s s' ws/\kk l s'=some r/\((JY (lns s.sto) x=.p (.sl t.sz (l.map (cel t)))/\ws=[])\/
   ∃b,JY (lns s.sto) x=.slr b 0 l.length/\(fz (.slr b 0 l.length)).run (JB s)=some ([.sl t.sz (l.map (cel t))],ws)):=by
 unfold kn at h;split at h;grind [Fzd.refl,e_l];rename_i b;split at h;rename_i w t' rows e;split at h;rename_i g;subst g;refine⟨_,_,_,ZC e,h,.inr ⟨b,by rw[gU,mC e],?_⟩⟩;simp_all [eB,aV];cases h;cases h;cases h
def XP(e:TSK)(x:TV)(lo hi mx:Option (IntKind×Int))(d:Option Nat)(s:TSt)(k:TSt->Option R):Option R:=
 match e with
 | .str=>match x,mx with| .a (.c (.d .s l)),none=>(bH l (lo.map (·.2)) (hi.map (·.2))).bind λq=>k (bE d (vs q) s)|_,_=>none
 | .sl t=>kn t x s λl s1=>match mx with|none=>(bH l (lo.map (·.2)) (hi.map (·.2))).bind λq=>k (bE d (vl t q) s1)|some (_,n)=>match lo,hi with|none,some (_,h)=>if h=l.length/\n=l.length then k (bE d (.a (.c (.sc t l))) s1)else none|_,_=>none
theorem Hn{α:Type}{l q:List α}{lo hi:Option Int}(h:bH l lo hi=some q): ∃c,pZ l.length lo hi=some c/\q=(l.drop c.1).take (c.2-c.1):=by
 grind [bH]
theorem JEI(F:Orc){n:TSK}{x:TO}{j:TV}{lo hi mx:Option TO}{l g m:Option (IntKind×Int)}{d:Option Nat}{new:Nat}{s:TSt}{k:TSt->Option R}{r:R}(hx:tev x s=some j)(hl:tbn lo s=some l)(o:tbn hi s=some g)(hm:tbn mx s=some m)
  (h:XP n j l g m d s k=some r):Ok (opR F (.slice (erK n) (erO x) (lo.map erO) (hi.map erO) (mx.map erO)) new) d s k r:=by
 unfold XP at h;split at h;split at h;rename_i A;obtain⟨q,h1,h⟩:=bJ.1 h;obtain⟨c,hc,rfl⟩:=Hn h1;refine fV (v:=vs _) ?_ h;have w:bv none=none:=rfl;simp only[opR,run_bind,bW hx,ER hl,ER o,ER hm,JL,e_s,erK,w,kE,wO,val,Es,hc,JW];cases h;rename_i t;obtain⟨y,s1,ws,f,h,C⟩:=JJv h;have e: ∀(res:AV),kE (.sl t.sz) (.p (.sl t.sz (y.map (cel t)))) (bv l) (bv g) (bv m)=some res->
   (opR F (.slice (erK (.sl t)) (erO x) (lo.map erO) (hi.map erO) (mx.map erO)) new).run (JB s)=some ⟨res,ws⟩:=by
  intro res B;simp only[opR,run_bind,bW hx,ER hl,ER o,ER hm,JL,erK];grind [val,JW,run_bind]
 split at h;obtain⟨q,h2,h⟩:=bJ.1 h;obtain⟨c,hc,rfl⟩:=Hn h2;refine XT (v:=vl t _) f (e _ ?_) h;grind [bv,kE,wL,Es,e_l,List.map_take,List.map_drop];split at h;split at h;rename_i z;refine XT (v:=.a (.c (.sc t y))) f (e _ ?_) h;simp only[bv,Option.map_none,cT,kE,OX,fE,z,and_self,if_true];rfl;cases h;cases h
end
end Go.Am
end
section
namespace Go.Am
section
variable {R:Type}
def UG(t:Ty):List (Nat×TO)->TSt->TSt->(List (Nat×t.D)->TSt->Option R)->Option R|[],_,s,k=>k [] s|(i,o)::r,s0,s,k=>match tev o s0 with|some v=>tfz t v s λz s'=>UG t r s0 s' λl e=>k ((i,z)::l) e|none=>none
theorem Gp{t:Ty}: ∀{parts:List (Nat×TO)} {s0 s:TSt} {w0:List (Nat×Blk)} {k:List (Nat×t.D)->TSt->Option R} {r:R},Fzd s0 s w0->UG t parts s0 s k=some r->
  ∃l s' ws,(fzs (parts.map λx=>erO x.2)).run (JB s0)=some (l.map λx=>cel t x.2,ws)/\Fzd s0 s' (w0++ws)/\l.map (·.1)=parts.map (·.1)/\k l s'=some r
 |[],s0,s,w0,k,r,f,h=>⟨[],s,[],rfl,by simp_all,rfl,h⟩
 |(i,o)::q,s0,s,w0,k,r,f,h=>by
  simp only[UG]at h;split at h;rename_i v w;obtain⟨z,s1,j,h1,e,h⟩:=Eg f h;obtain⟨l,g,y,h2,A,n,h⟩:=Gp e h;refine⟨(i,z)::l,g,j++y,?_,by simp_all,by simp[n],h⟩;simp only[bR,fzs,run_bind,bW w,JL,h1,h2,JW];cases h
def PI{α:Type}:List (Nat×α)->List α->Option (List α)|[],rows=>some rows|(i,c)::r,rows=>if i<rows.length then PI r (rows.set i c)else none
theorem ru{t:Ty}: ∀{l:List (Nat×t.D)} {rows rows':List t.D},PI l rows=some rows'->
  zX t.sz ((l.map (·.1)).zip (l.map λx=>cel t x.2)) (rows.map (cel t))=some (rows'.map (cel t))/\rows'.length=rows.length
 |[],rows,rows',h=>by injection h with h;simp_all
 |(i,c)::q,rows,rows',h=>by
  simp only[PI]at h;split at h;rename_i e;obtain⟨h1,h2⟩:=ru h;simp_all [dY];cases h
def mr(own:Bool)(t:Ty)(n:Nat)(parts:List (Nat×TO))(d:Option Nat)(new:Nat)(s:TSt)(k:TSt->Option R):Option R:=
 UG t parts s s λl s1=>match PI l (List.replicate n t.zero)with|some rows=>if own=true then k (bE d (.a (.c (.slr new))) (wN new (.arr true t rows) s1))else k (bE d (vl t rows) s1)|none=>none
theorem JGs(F:Orc){own:Bool}{t:Ty}{n:Nat}{parts:List (Nat×TO)}{d:Option Nat}{new:Nat}{s:TSt}{k:TSt->Option R}{r:R}(hn:own=true->new<s.sto.length)
  (h:mr own t n parts d new s k=some r):Ok (opR F (.lits own t.sz n (cel t t.zero) (parts.map λx=>(x.1,erO x.2))) new) d s k r:=by
 unfold mr at h;obtain⟨l,s1,ws,h1,f,h2,e⟩:=Gp (Fzd.refl s) h;rw[oC]at f;clear h;split at e;rename_i rows o;obtain⟨j,q⟩:=ru o;rw[VV]at q;rw[VE]at j;have z:(parts.map λx=>(x.1,erO x.2)).map (·.2)=parts.map λx=>erO x.2:=by simp
 have y:(parts.map λx=>(x.1,erO x.2)).map (·.1)=l.map (·.1):=by rw[h2];simp
 split at e;rename_i g;subst g;have w:new<s1.sto.length:=(by have:=congrArg (λst=>st.sto.length) f.2.2.1;grind [JB,zU]);refine⟨⟨JY (lns (wN new (.arr true t rows) s1).sto) (.a (.c (.slr new))),ws++[(new,.arr true t.sz (rows.map (cel t)))]⟩,_,?_,qU ?_ d _,e⟩;grind [gU,ZV,opR,run_bind,JW];rw[Dp,f.2.2.1,eM];rfl;rename_i g;have:own=false:=by simpa using g
 subst this;refine XT (v:=vl t rows) f ?_ e;grind [opR,run_bind,JW,e_l];cases e
def nB(s:TSt):Nat->Nat->Bool
 |_,0=>true
 |new,k+1=>(match s.sto[new]? with
  |some .dead=>true
  |_=>false)&&nB s (new+1) k
theorem pj{s:TSt}: ∀{k new:Nat},nB s new k=true->(tF new k).run (JB s)=some ()
 |0,_,_=>rfl
 |k+1,new,h=>by
  simp only[nB,aT]at h;obtain⟨h1,h2⟩:=h;split at h1;rename_i hd;simp only[tF,dX,eB,hd,cT,JL,aV];exact pj h2;cases h1
theorem wY{s:TSt}: ∀{k new:Nat},nB s new k=true-> ∀j,j<k->s.sto[new+j]?=some .dead
 |0,_,_,j,hj=>by omega
 |k+1,new,h,j,hj=>by
  simp only[nB,aT]at h;obtain⟨h1,h2⟩:=h;cases j with
  |zero=>
   grind
  |succ j=>
   have:=wY h2 j (by omega);grind
theorem ZE{m:RM Eff}{d:Option Nat}{s:TSt}{k:TSt->Option R}{r:R}{new:Nat}{x:TB}(hd:s.sto[new]?=some .dead)(h0:lnB x=0)
  (hm:m.run (JB s)=some ⟨.ptr new 0,[(new,aV (lns s.sto) x)]⟩) (h:k (bE d (.a (.c (.ptr new []))) (wS new x s))=some r):Ok m d s k r:=by
 refine KE (x:=x) (v:=.a (.c (.ptr new []))) (h0.trans (zY hd).symm) ?_ h;rw[hm];rfl
def Gl(t:Ty)(d:Option Nat)(new:Nat)(s:TSt)(k:TSt->Option R):Option R:=k (bE d (.a (.c (.ptr new []))) (wS new (.box t t.zero) s))
theorem JBU(F:Orc){t:Ty}{d:Option Nat}{new:Nat}{s:TSt}{k:TSt->Option R}{r:R}(hd:s.sto[new]?=some .dead)(h:Gl t d new s k=some r):Ok (opR F (.newbox (cel t t.zero)) new) d s k r:=
 ZE hd (x:=.box t t.zero) rfl rfl h
def ke(t:Ty)(x:TV)(d:Option Nat)(new:Nat)(s:TSt)(k:TSt->Option R):Option R:=
 match tdv t x with
 |some z=>if agv x=true\/t.sz=1 then k (bE d (.a (.c (.ptr new []))) (wS new (.box t z) s))else none
 |none=>match tcs x with|some cs=>if cs.length=t.sz then k (bE d (.a (.c (.ptr new []))) (wS new (.mbox t cs) s))else none|none=>none
theorem JIz(F:Orc){t:Ty}{x:TO}{v:TV}{d:Option Nat}{new:Nat}{s:TSt}{k:TSt->Option R}{r:R}(hd:s.sto[new]?=some .dead)(hx:tev x s=some v)(h:ke t v d new s k=some r):Ok (opR F (.box t.sz (erO x)) new) d s k r:=by
 unfold ke at h;split at h;rename_i z j;split at h;rename_i e;refine ZE hd (x:=.box t z) rfl ?_ h;simp only[opR,run_bind,bW hx,JL,fj (lns s.sto) j e,fE,dY,if_true,JW,aV];cases h;split at h;rename_i cs hc;split at h;rename_i g;refine ZE hd (x:=.mbox t cs) rfl ?_ h;simp only[opR,run_bind,bW hx,JL,LM (lns s.sto) hc,fE,g,if_true,JW,aV];cases h;cases h
def oR:List (Nat×Ty)->Nat->TSt->TSt|[],_,s=>s|(_,t)::r,n,s=>oR r (n+1) (wS n (.arr true t []) s)
def yJ:List (Nat×Ty)->Nat->List TC->List TC|[],_,cs=>cs|(off,_)::r,n,cs=>yJ r (n+1) (cs.set off (.slr n))
def kP(os:List (Nat×Ty)):List (Nat×Nat):=os.map λx=>(x.1,x.2.sz)
theorem dg: ∀{os:List (Nat×Ty)} {new:Nat} {s:TSt},(∀j,j<os.length->s.sto[new+j]?=some .dead)->
  lns (oR os new s).sto=lns s.sto/\JB (oR os new s)=⟨(JB s).env,upd (gT (kP os) new) (JB s).sto⟩/\(∀b,(∀j,j<os.length->b≠new+j)->(oR os new s).sto[b]?=s.sto[b]?)
 |[],_,s,_=>⟨rfl,rfl,λ_ _=>rfl⟩
 |(off,t)::q,new,s,h=>by
  have hd:s.sto[new]?=some .dead:=h 0 (by simp);have k:lnB (.arr true t [])=lns s.sto new:=(zY hd).symm;have e:=FD k;have g: ∀c,c≠new->(wS new (.arr true t []) s).sto[c]?=s.sto[c]?:=λc hc=>by grind [wS]
  obtain⟨h1,h2,r⟩:=dg (os:=q) (new:=new+1) (s:=wS new (.arr true t []) s) (λj o=>by
   rw[g _ (by omega)];have:=h (j+1) (by simp;omega);grind)
  refine⟨h1.trans e,?_,λb n=>?_⟩;simp only[oR];rw[h2,zA k];simp only[kP,bR,gT];rfl;simp only[oR];rw[r b (λj o=>by have:=n (j+1) (by simp;omega);omega),g b (by have:=n 0 (by simp);omega)]
theorem cu{L:Nat->Nat}: ∀{os:List (Nat×Ty)} {new:Nat} {cs:List TC},(∀j,j<os.length->L (new+j)=0)->(yJ os new cs).map (bB L)=lQ (kP os) new (cs.map (bB L))
 |[],_,_,_=>rfl
 |(off,t)::q,new,cs,h=>by
  simp only[yJ,kP,bR,lQ];rw[cu (os:=q) (new:=new+1) (λj e=>by have:=h (j+1) (by simp;omega);grind),List.map_set];have:bB L (.slr new)=.slr new 0 0:=by simp only[bB];rw[show L new=0 from h 0 (by simp)]
  rw[this];rfl
def eh(t:Ty)(os:List (Nat×Ty))(d:Option Nat)(new:Nat)(s:TSt)(k:TSt->Option R):Option R:=k (bE d (.a (.c (.ptr (new+os.length) []))) (wS (new+os.length) (.mbox t (yJ os new (zcs t))) (oR os new s)))
theorem Ia(F:Orc){t:Ty}{os:List (Nat×Ty)}{d:Option Nat}{new:Nat}{s:TSt}{k:TSt->Option R}{r:R}(hd:nB s new (os.length+1)=true)(h:eh t os d new s k=some r):
  Ok (opR F (.newboxo (cel t t.zero) (kP os)) new) d s k r:=by
 unfold eh at h;generalize hc:zcs t=cs at h;have g:=wY hd;obtain⟨h1,h2,q⟩:=dg (os:=os) (new:=new) (s:=s) (λj o=>g j (by omega));have n:lnB (.mbox t (yJ os new cs))=lns (oR os new s).sto (new+os.length):=by rw[h1,zY (g os.length (by omega))];rfl
 have e:=FD n;have el:(kP os).length=os.length:=by simp[kP]
 refine⟨⟨JY (lns (wS (new+os.length) (.mbox t (yJ os new cs)) (oR os new s)).sto) (.a (.c (.ptr (new+os.length) []))),gT (kP os) new++[(new+os.length,.box (lQ (kP os) new ((cel t t.zero).map .p)))]⟩,_,?_,qU ?_ d _,h⟩;simp only[opR,JW,el];rfl;rw[zA n,h2,eM];simp only[aV];rw[cu (λj o=>by rw[h1];grind [zY]),<-hc,FB];rfl
def cr(t:Ty)(parts:List (Nat×Ty×TO))(os:List (Nat×Ty))(d:Option Nat)(new:Nat)(s:TSt)(k:TSt->Option R):Option R:=
 match tpc parts s with
 |some l=>match IQ l (yJ os new (zcs t))with
  |some cs'=>match mka true t cs' with|some v=>k (bE d v (oR os new s))|none=>none
  |none=>none
 |none=>none
theorem JBO(F:Orc){t:Ty}{parts:List (Nat×Ty×TO)}{os:List (Nat×Ty)}{d:Option Nat}{new:Nat}{s:TSt}{k:TSt->Option R}{r:R}(hd:nB s new os.length=true)(h:cr t parts os d new s k=some r):
  Ok (opR F (.buildo (cel t t.zero) (erP parts) (kP os)) new) d s k r:=by
 unfold cr at h;split at h;rename_i l w;have e:=wY hd;obtain⟨h1,h2,x⟩:=dg (os:=os) (new:=new) (s:=s) (λj o=>e j (by omega));split at h;rename_i cs' g;split at h;rename_i v y;refine⟨⟨JY (lns (oR os new s).sto) v,gT (kP os) new⟩,_,?_,qU h2 d _,h⟩;have n:=cu (L:=lns s.sto) (os:=os) (new:=new) (cs:=zcs t) (λj o=>zY (e j (by omega)));rw[FB]at n;have q:=ds (lns s.sto) g;grind [opR,run_bind,YL,EZ,JW];cases h;cases h;cases h
def Ea(t:Ty)(d:Option Nat)(new:Nat)(s:TSt)(k:TSt->Option R):Option R:=k (bE d (.a (.c (.slr new))) (wN new (.arr true t []) s))
theorem JE4(F:Orc){t:Ty}{x:Opd}{d:Option Nat}{new:Nat}{s:TSt}{k:TSt->Option R}{r:R}(hn:new<s.sto.length)(h:Ea t d new s k=some r):Ok (opR F (.mkarr t.sz x) new) d s k r:=
 YQ (rows:=[]) hn rfl h
def tyB:Option TB->Ty|some (.box t _)=>t|some (.mbox t _)=>t|_=>.u
def ZM(t:Ty)(x:TV)(d:Option Nat)(new:Nat)(s:TSt)(k:TSt->Option R):Option R:=
 match x with
 | .a (.c (.ptr b p))=>match sQ p,(match s.sto[b]? with
   |some (.box t0 y)=>yK t0 y
   |some (.mbox _ cs)=>some cs
   |_=>none)with
  |some off,some cs=>match spl cs off [.slr new]with|some cs'=>k (bE d uv (wS b (.mbox (tyB s.sto[b]?) cs') (wS new (.arr true t []) s)))|none=>none
  |_,_=>none
 |_=>none
theorem JBN(F:Orc){t:Ty}{x:TO}{v:TV}{d:Option Nat}{new:Nat}{s:TSt}{k:TSt->Option R}{r:R}(hd:s.sto[new]?=some .dead)(hx:tev x s=some v)(h:ZM t v d new s k=some r):Ok (opR F (.storen t.sz (erO x)) new) d s k r:=by
 unfold ZM at h;split at h;rename_i b p;split at h;rename_i off cs A hc;split at h;rename_i cs' E;have o:lnB (.arr true t [])=lns s.sto new:=(zY hd).symm;have n:b≠new/\lns s.sto b=0/\(JB s).sto[b]?=some (.box (cs.map (bB (lns s.sto)))):=(by split at hc;rename_i t0 y g;refine⟨λe=>?_,PY g,?_⟩;simp_all;rw[eB,g,LQ _ hc];rfl;rename_i t0 D g;injection hc with hc;subst hc;refine⟨λe=>?_,pt g,?_⟩;simp_all;rw[eB,g];rfl;cases hc);obtain⟨C,w,g⟩:=n;have q:=FD o;have j:lnB (.mbox (tyB s.sto[b]?) cs')=lns (wS new (.arr true t []) s).sto b:=by rw[q,w];rfl
 refine⟨⟨JY (lns (wS b (.mbox (tyB s.sto[b]?) cs') (wS new (.arr true t []) s)).sto) uv,(new,.arr true t.sz [])::[(b,.box (cs'.map (bB (lns s.sto))))]⟩,_,?_,qU ?_ d _,h⟩;have z:bB (lns s.sto) (.slr new)=.slr new 0 0:=by grind [bB,zY]
 have B:spl (cs.map (bB (lns s.sto))) (spo p) [.slr new 0 0]=some (cs'.map (bB (lns s.sto))):=by rw[<-z,EU A];have:=FR (bB (lns s.sto)) cs off [TC.slr new];simp_all
 simp only[opR,run_bind,bW hx,JL,jV,hQ,dX,g,cellsOf,DC,List.length_nil,oM,if_true,B,JW];rfl;rw[zA j,zA o,q];rfl;cases h;cases h;cases h
def m9(c:Bool)(a b:Option TV)(kk:TV->Option R):Option R:=
 match a,b with
 |some (.a (.c (.d t x))),some (.a (.c (.d t' y)))=>if h:t'=t then kk (.a (.c (.d t (JNn c x (h▸y)))))else none
 |some x,some y=>if c=true then kk x else kk y
 |some x,none=>if c=true then kk x else none
 |none,some y=>if c=true then none else kk y
 |none,none=>none
theorem JHK(F:Orc){c a b:TO}{x:Bool}{d:Option Nat}{new:Nat}{s:TSt}{k:TSt->Option R}{r:R}(hc:tev c s=some (vb x))(h:m9 x (tev a s) (tev b s) (λv=>k (bE d v s))=some r):Ok (opR F (.pick (erO c) (erO a) (erO b)) new) d s k r:=by
 have e: ∃v,(if x=true then tev a s else tev b s)=some v/\k (bE d v s)=some r:=by
  unfold m9 at h;split at h;rename_i t y t' z n j;split at h;rename_i g;subst g;refine⟨_,?_,h⟩;rw[n,j];cases x<;>rfl
  cases h
  all_goals grind
 obtain⟨v,h1,h2⟩:=e;refine fV (v:=v) ?_ h2;simp only[opR,run_bind,bW hc,JL,e_b];grind [run_bind,bW,JW]
def lm(x:TV)(kk:TV->Option R):Option R:=
 match x with
 | .a (.c (.ptr b p))=>kk (.a (.c (.ptr b p)))
 | .a (.c (.cp t y p))=>kk (.a (.c (.cp t y p)))
 | .a (.c (.ep b i p))=>kk (.a (.c (.ep b i p)))
 | .a (.fn f a c)=>kk (.a (.fn f a c))
 | .a (.c (.fn f))=>kk (.a (.c (.fn f)))
 |_=>none
theorem JID(F:Orc){x:TO}{v:TV}{d:Option Nat}{new:Nat}{s:TSt}{k:TSt->Option R}{r:R}(hx:tev x s=some v)(h:lm v (λv=>k (bE d v s))=some r):Ok (opR F (.nilchk (erO x)) new) d s k r:=by
 unfold lm at h;split at h<;>first
  |(refine fV (v:=_) ?_ h
    simp only[opR,run_bind,bW hx,JL,jV,lT,lP,Cy,C9,JW];done)
  |cases h
end
end Go.Am
end
section
namespace Go.Am
section
variable {R:Type}
def kd(keep:Bool)(v:TV)(s:TSt)(kk:TA->TSt->Option R):Option R:=
 match v with
 | .a x=>if keep=true then kk x s else
  match x with
  | .c (.slr b)=>match s.sto[b]? with|some (.arr _ t' rows)=>kk (.c (.d (.l t') rows)) (wS b (.arr false t' rows) s)|_=>none
  | .c (.slo _ _)=>none
  | .c (.suf _ _)=>none
  | .c (.suo _ _ _)=>none
  | .m t cs=>fzC t cs s λx s'=>kk (.dt t x) s'
  |x=>kk x s
 | .tup _=>none
def IT:List (TV×Bool)->TSt->(List TA->TSt->Option R)->Option R|[],s,kk=>kk [] s|(v,keep)::r,s,kk=>kd keep v s λx s=>IT r s λl s=>kk (x::l) s
theorem JJo{keep:Bool}{v:TV}{s0 s:TSt}{w0:List (Nat×Blk)}{kk:TA->TSt->Option R}{r:R}(f:Fzd s0 s w0)(h:kd keep v s kk=some r):
  ∃x s' ws,(if keep=true then RM.ret (JY (lns s0.sto) v,[])else iX (JY (lns s0.sto) v)).run (JB s0)=some (bL (lns s0.sto) x,ws)/\Fzd s0 s' (w0++ws)/\kk x s'=some r:=by
 unfold kd at h;split at h;rename_i x;split at h;rename_i g;subst g;exact⟨x,s,[],rfl,by simp_all,h⟩;rename_i g;have:keep=false:=by simpa using g
 subst this;simp only[eI,if_false];split at h;rename_i b;split at h;rename_i w t' rows j;obtain⟨w',e⟩:=f.2.2.2.1 b _ rows w j;refine⟨_,_,[(b,.arr false t'.sz (rows.map (cel t')))],?_,f.trans (ZC j),h⟩;simp only[gU,iX,fz,run_bind,dX,eB,e,cT,JL,aV,mC e,fE,oM,if_true,DL,JW];rfl;cases h;cases h;cases h;cases h;obtain⟨y,s',ws,h1,h2,k⟩:=LI f h;refine⟨_,s',ws,?_,h2,k⟩;simp only[e_m,iX,fz,run_bind,h1,JL,JW];rfl;rename_i A B q z o;refine⟨x,s,[],?_,by simp_all,h⟩;cases x with
 |c x=>
  cases x with
  |slr b=>simp_all
  |slo b n=>simp_all
  |suf b i=>simp_all
  |suo b i n=>simp_all
  |_=>rfl
 |m t cs=>simp_all
 |_=>rfl
 cases h
theorem di: ∀{vs:List (TV×Bool)} {s0 s:TSt} {w0:List (Nat×Blk)} {kk:List TA->TSt->Option R} {r:R},Fzd s0 s w0->IT vs s kk=some r->
  ∃xs s' ws,(eW (vs.map (·.2)) (vs.map λx=>JY (lns s0.sto) x.1)).run (JB s0)=some (xs.map (bL (lns s0.sto)),ws)/\Fzd s0 s' (w0++ws)/\kk xs s'=some r
 |[],s0,s,w0,kk,r,f,h=>⟨[],s,[],rfl,by simp_all,h⟩
 |(v,keep)::q,s0,s,w0,kk,r,f,h=>by simp only[IT]at h;obtain⟨x,s1,j,h1,e,h⟩:=JJo f h;obtain⟨xs,g,k,h2,n,h⟩:=di e h;refine⟨x::xs,g,j++k,?_,by simp_all,h⟩;cases keep<;>simp_all [eW]
theorem SI: ∀(vs:List AV),eW [] vs=jY vs|[]=>rfl|x::r=>by simp only[eW,jY,SI r]
theorem MU: ∀(m:List Bool) (vs:List AV),(∀x∈m,x=false)->eW m vs=jY vs|[],vs,_=>SI vs|b::m,[],_=>rfl|b::m,x::r,h=>by have:b=false:=h b (by simp);subst this;simp only[eW,jY,MU m r (λx e=>h x (by simp[e]))]
def IE(b:Nat)(l:List Nat):List Nat:=if l.any (λx=>x==b)=true then l else l++[b]
def OF(x:TC)(l:List Nat):Option (List Nat):=
 match x with
 | .ptr b _=>some (IE b l)
 | .slr b=>some (IE b l)
 | .slo b _=>some (IE b l)
 | .ep _ _ _=>none
 | .epo _ _ _ _=>none
 | .suf _ _=>none
 | .suo _ _ _=>none
 |_=>some l
def vT:List TC->List Nat->Option (List Nat)|[],l=>some l|x::r,l=>match OF x l with|some l=>vT r l|none=>none
def nj(x:TA)(l:List Nat):Option (List Nat):=
 match x with
 | .c x=>OF x l
 | .dt _ _=>some l
 | .m _ cs=>vT cs l
 | .fn _ a c=>match vT a l with|some l=>vT c l|none=>none
def EX:List TA->List Nat->Option (List Nat)|[],l=>some l|x::r,l=>match nj x l with|some l=>EX r l|none=>none
def wG(s:TSt):List Nat->List Nat->Option (List Nat)
 |[],acc=>some acc
 |b::r,acc=>match s.sto[b]? with
  |some (.mbox _ cs)=>match vT cs acc with|some acc=>wG s r acc|none=>none
  |some _=>wG s r acc
  |none=>none
theorem La(b:Nat)(l:List Nat):wM (.whole b) (l.map .whole)=(IE b l).map .whole:=by
 grind [wM,IE]
section
variable (L:Nat->Nat)
theorem ql{x:TC}{l l':List Nat}(h:OF x l=some l'):cF (bB L x) (l.map .whole)=l'.map .whole:=by
 unfold OF at h;split at h<;>first
  |(injection h with h;subst h;simp only[bB,cF,La];done)
  |(cases h;done)
  |skip
 injection h with h;subst h;rename_i o q r v k g j;cases x with
 |ptr b p=>simp_all
 |slr b=>simp_all
 |slo b n=>simp_all
 |ep b i p=>simp_all
 |epo b e i p=>grind
 |suf b i=>grind
 |suo b i n=>grind
 |_=>rfl
theorem MH: ∀{xs:List TC} {l l':List Nat},vT xs l=some l'->cF.entsOfL (xs.map (bB L)) (l.map .whole)=l'.map .whole
 |[],l,l',h=>by injection h with h;subst h;rfl
 |x::r,l,l',h=>by
  simp only[vT]at h;split at h;rename_i e h1;simp only[bR,cF.entsOfL,ql L h1];exact MH h;cases h
theorem JHb{x:TA}{l l':List Nat}(h:nj x l=some l'):cF (bL L x) (l.map .whole)=l'.map .whole:=by
 cases x with
 |c x=>exact ql L h
 |dt t x=>injection h with h;subst h;rfl
 |m t cs=>exact MH L h
 |fn f a c=>
  simp only[nj]at h;split at h
  all_goals simp_all [bL,MH]
theorem RS: ∀{xs:List TA} {l l':List Nat},EX xs l=some l'->cF.entsOfL (xs.map (bL L)) (l.map .whole)=l'.map .whole
 |[],l,l',h=>by injection h with h;subst h;rfl
 |x::r,l,l',h=>by
  simp only[EX]at h;split at h;rename_i e h1;simp only[bR,cF.entsOfL,JHb L h1];exact RS h;cases h
end
theorem ee{s0 s1:TSt}{ws:List (Nat×Blk)}(f:Fzd s0 s1 ws){b:Nat}{y:TB}(h:s1.sto[b]?=some y):(qD ws b).run (JB s0)=some (aV (lns s0.sto) y):=by
 have h1:(JB s1).sto[b]?=some (aV (lns s0.sto) y):=by rw[eB,h,f.2.1];rfl
 rw[f.2.2.1]at h1;grind [zU,wW,qD,dX,JW]
theorem AA{s0 s1:TSt}{ws:List (Nat×Blk)}(f:Fzd s0 s1 ws): ∀{r acc l:List Nat},wG s1 r acc=some l->(dW ws (r.map .whole) (acc.map .whole)).run (JB s0)=some (l.map .whole)
 |[],acc,l,h=>by injection h with h;subst h;rfl
 |b::r,acc,l,h=>by
  simp only[wG]at h;split at h;rename_i cs e;split at h;rename_i g j;simp only[bR,dW,run_bind,ee f e,JL,aV,MH (lns s0.sto) j];exact AA f h;cases h;rename_i x k e;simp only[bR,dW,run_bind,ee f e,JL];cases x with
  |mbox t cs=>simp_all
  |box t x=>simp only[aV];rw[rn];exact AA f h
  |_=>exact AA f h
  cases h
end
end Go.Am
end
section
namespace Go.Am
def kCs(K:List Nat)(L:Nat->Nat):TC->TC| .slr c=>if K.any (λx=>x==c)=true then .slo c (L c)else .slr c| .ep c i p=>if K.any (λx=>x==c)=true then .epo c (L c) i p else .ep c i p| .pre c k=>if K.any (λx=>x==c)=true then .pro c (L c) k else .pre c k| .suf c i=>if K.any (λx=>x==c)=true then .suo c (min i (L c)) (L c-i)else .suf c i|x=>x
def kAs(K:List Nat)(L:Nat->Nat):TA->TA| .c x=>.c (kCs K L x)| .dt t x=>.dt t x| .m t cs=>.m t (cs.map (kCs K L))| .fn f a c=>.fn f (a.map (kCs K L)) (c.map (kCs K L))
def kVs(K:List Nat)(L:Nat->Nat):TV->TV| .a x=>.a (kAs K L x)| .tup vs=>.tup (vs.map (kAs K L))
def kBs(K:List Nat)(L:Nat->Nat):TB->TB| .mbox t cs=>.mbox t (cs.map (kCs K L))|x=>x
section
variable {K:List Nat} {L L':Nat->Nat} (h: ∀c,K.any (λx=>x==c)=false->L' c=L c)
include h
theorem Bx(x:TC):bB L' (kCs K L x)=bB L x:=by cases x<;>grind [kCs,bB]
theorem Dg(xs:List TC):(xs.map (kCs K L)).map (bB L')=xs.map (bB L):=by
 grind [List.map_congr_left,Bx]
theorem Z7(x:TA):bL L' (kAs K L x)=bL L x:=by cases x<;>simp only[kAs,bL,Bx h,Dg h]
theorem JNF(x:TV):JY L' (kVs K L x)=JY L x:=by cases x<;>simp only[kVs,JY,Z7 h,DN,Function.comp_def]
theorem JNp(x:TB):aV L' (kBs K L x)=aV L x:=by cases x<;>simp only[kBs,aV,Dg h]
end
theorem JJH(K:List Nat)(L:Nat->Nat)(x:TB):lnB (kBs K L x)=lnB x:=by cases x<;>rfl
theorem JJm(sto:List TB)(K:List Nat)(L:Nat->Nat)(c:Nat):lns (sto.map (kBs K L)) c=lns sto c:=by
 unfold lns;rw[fF];cases sto[c]? with
 |none=>rfl
 |some x=>exact JJH K L x
def vC(ws:List (Nat×Bool×TB))(sto:List TB):List TB:=ws.foldl (λσ x=>σ.set x.1 x.2.2) sto
def nA(ws:List (Nat×Bool×TB))(s:TSt):TSt:=
 match ws with
 |[]=>s
 |ws=>
  let K:=(ws.filter λx=> !x.2.1).map (·.1)
  ⟨s.env.map λy=>(y.1,kVs K (lns s.sto) y.2),vC ws (s.sto.map (kBs K (lns s.sto)))⟩
theorem dy: ∀{ws:List (Nat×Bool×TB)} {sto:List TB} {c:Nat},c∉ws.map (·.1)->(vC ws sto)[c]?=sto[c]?|[],_,_,_=>rfl|x::ws,sto,c,h=>by simp only[bR,cL,not_or]at h;show(vC ws (sto.set x.1 x.2.2))[c]?=_;rw[dy h.2,HB (λe=>h.1 e.symm)]
theorem F0: ∀{ws:List (Nat×Bool×TB)} {sto:List TB},(ws.map (·.1)).Nodup-> ∀x∈ws,x.1<sto.length->(vC ws sto)[x.1]?=some x.2.2
 |[],_,_,x,e,_=>by cases e
 |y::ws,sto,g,x,e,h=>by
  simp only[bR,List.nodup_cons]at g;show(vC ws (sto.set y.1 y.2.2))[x.1]?=_;rcases cL.1 e with rfl|e;grind [dy];exact F0 g.2 x e (by simpa using h)
theorem p9(f:TB->Blk): ∀(ws:List (Nat×Bool×TB)) (sto:List TB),(vC ws sto).map f=upd (ws.map λx=>(x.1,f x.2.2)) (sto.map f)
 |[],_=>rfl
 |x::ws,sto=>by show(vC ws (sto.set x.1 x.2.2)).map f=upd (ws.map λx=>(x.1,f x.2.2)) ((sto.map f).set x.1 (f x.2.2));rw[p9 f ws,List.map_set]
theorem JJL{ws:List (Nat×Bool×TB)}{s:TSt}(hn:(ws.map (·.1)).Nodup)(hl: ∀x∈ws,x.1<s.sto.length)(hf: ∀x∈ws,x.2.1=true->lnB x.2.2=lns s.sto x.1):
  JB (nA ws s)=⟨(JB s).env,upd (ws.map λx=>(x.1,aV (lns (nA ws s).sto) x.2.2)) (JB s).sto⟩/\ ∀x∈ws,lns (nA ws s).sto x.1=lnB x.2.2:=by
 cases ws with
 |nil=>exact⟨rfl,λx g=>by cases g⟩
 |cons x0 j=>
  generalize k:x0::j=ws at*;have e:nA ws s=⟨s.env.map λy=>(y.1,kVs ((ws.filter λx=> !x.2.1).map (·.1)) (lns s.sto) y.2),vC ws (s.sto.map (kBs ((ws.filter λx=> !x.2.1).map (·.1)) (lns s.sto)))⟩:=by subst k;rfl
  have h: ∀x∈ws,lns (nA ws s).sto x.1=lnB x.2.2:=λx g=>by rw[e];unfold lns;rw[F0 hn x g (by grind)];rfl
  have o: ∀c,((ws.filter λx=> !x.2.1).map (·.1)).any (λx=>x==c)=false->lns (nA ws s).sto c=lns s.sto c:=(by intro c hc;by_cases n:c∈ws.map (·.1);obtain⟨x,g,rfl⟩:=oK.1 n;grind;rw[e];have:=JJm s.sto ((ws.filter λx=> !x.2.1).map (·.1)) (lns s.sto) c;grind [lns,dy]);refine⟨?_,h⟩;generalize hL:lns (nA ws s).sto=L' at*;unfold JB;rw[hL,e];grind [fI,List.map_congr_left,JNF,p9,JNp]
theorem Fu(b:Nat): ∀(ids:List Nat) (k:Nat),cY (.whole b) (ids.map .whole) k=eE b ids k
 |[],_=>rfl
 |x::r,k=>by
  simp only[bR,cY,eE];by_cases h:x=b;subst h;simp;simp[h,Fu b r (k+1)]
def OK(ids:List Nat):TC->Option TC| .ptr b p=>(eE b ids 0).bind λk=>some (.ptr k p)| .slr b=>(eE b ids 0).bind λk=>some (.slr k)| .slo b n=>(eE b ids 0).bind λk=>some (.slo k n)| .ep _ _ _=>none| .epo _ _ _ _=>none| .pre _ _=>none| .pro _ _ _=>none| .suf _ _=>none| .suo _ _ _=>none|x=>some x
def yY(ids:List Nat):List TC->Option (List TC)|[]=>some []|x::r=>match OK ids x,yY ids r with|some y,some l=>some (y::l)|_,_=>none
def KB(ids:List Nat):TA->Option TA
 | .c x=>match OK ids x with|some y=>some (.c y)|none=>none
 | .dt t x=>some (.dt t x)
 | .m t cs=>match yY ids cs with|some l=>some (.m t l)|none=>none
 | .fn f a c=>match yY ids a,yY ids c with|some a,some c=>some (.fn f a c)|_,_=>none
def PH(ids:List Nat):List TA->Option (List TA)|[]=>some []|x::r=>match KB ids x,PH ids r with|some y,some l=>some (y::l)|_,_=>none
def YA(ids:List Nat):TB->Option TB
 | .box t x=>some (.box t x)
 | .mbox t cs=>match yY ids cs with|some l=>some (.mbox t l)|none=>none
 | .arr w t rows=>some (.arr w t rows)
 | .dead=>none
def wV(ids:List Nat)(s:TSt):List Nat->Option (List TB)
 |[]=>some []
 |b::r=>match s.sto[b]? with
  |some x=>match YA ids x,wV ids s r with|some y,some l=>some (y::l)|_,_=>none
  |none=>none
section
variable {ids:List Nat} {L L':Nat->Nat} (hL: ∀b k,eE b ids 0=some k->L' k=L b)
include hL
theorem pm{x y:TC}(h:OK ids x=some y):ren (λe=>cY e (ids.map .whole) 0) (bB L x)=some (bB L' y):=by
 cases x<;>simp only[OK]at h<;>first
  |(obtain⟨k,g,h⟩:=bJ.1 h
    injection h with h;subst h;simp only[bB,ren,Fu,g,cT]
    try rw[hL _ _ g]
    done)
  |(injection h with h;subst h;rfl)
  |cases h
theorem RE: ∀{xs g:List TC},yY ids xs=some g->ren.renL (λe=>cY e (ids.map .whole) 0) (xs.map (bB L))=some (g.map (bB L'))
 |[],g,h=>by injection h with h;subst h;rfl
 |x::r,g,h=>by
  simp only[yY]at h;split at h;rename_i y l k j;injection h with h;subst h;simp only[bR,ren.renL,pm hL k,RE j];cases h
theorem JGT{x y:TA}(h:KB ids x=some y):ren (λe=>cY e (ids.map .whole) 0) (bL L x)=some (bL L' y):=by
 cases x with
 |c x=>
  simp only[KB]at h;split at h;rename_i y g;injection h with h;subst h;exact pm hL g;cases h
 |dt t x=>injection h with h;subst h;rfl
 |m t cs=>
  grind [KB,bL,ren,RE]
 |fn f a c=>
  grind [KB,bL,ren,RE]
theorem qz: ∀{xs g:List TA},PH ids xs=some g->ren.renL (λe=>cY e (ids.map .whole) 0) (xs.map (bL L))=some (g.map (bL L'))
 |[],g,h=>by injection h with h;subst h;rfl
 |x::r,g,h=>by
  simp only[PH]at h;split at h;rename_i y l k j;injection h with h;subst h;simp only[bR,ren.renL,JGT hL k,qz j];cases h
theorem s8{s0 s1:TSt}{ws:List (Nat×Blk)}(f:Fzd s0 s1 ws)(j:lns s0.sto=L): ∀{k:List Nat} {bl:List TB},wV ids s1 k=some bl->
  (kF ws (λe=>cY e (ids.map .whole) 0) (k.map .whole)).run (JB s0)=some (bl.map (aV L'))
 |[],bl,h=>by injection h with h;subst h;rfl
 |b::r,bl,h=>by
  simp only[wV]at h;split at h;rename_i x o;split at h;rename_i y l g q;injection h with h;subst h;have ih:=s8 f j q;have n:=ee f o;rw[j]at n;simp only[bR,kF,yW,run_bind,n,JL];cases x with
  |dead=>cases g
  |box t x=>injection g with g;grind [qu,WM,aV,JW]
  |mbox t cs=>
   grind [YA,aV,RE,JW]
  |arr w t rows=>injection g with g;grind [aV,JW]
  cases h;cases h
end
theorem uh{ids:List Nat}{s:TSt}: ∀{g:List Nat} {bl:List TB},wV ids s g=some bl->bl.length=g.length/\ ∀(k b:Nat),g[k]?=some b->lns bl k=lns s.sto b
 |[],bl,h=>by injection h with h;simp_all
 |b::r,bl,h=>by
  simp only[wV]at h;split at h;rename_i x n;split at h;rename_i y l e o;injection h with h;subst h;obtain⟨h1,h2⟩:=uh o;refine⟨by simp[h1],λk c j=>?_⟩;cases k with
  |zero=>
   simp at j;subst j;unfold lns;rw[n];show lnB y=lnB x;cases x with
   |dead=>cases e
   |box t x=>injection e with e;subst e;rfl
   |mbox t cs=>
    simp only[YA]at e;split at e;injection e with e;subst e;rfl;cases e
   |arr w t rows=>injection e with e;subst e;rfl
  |succ k=>
   grind [lns]
  cases h;cases h
def eQ(ids:List Nat)(new m k:Nat):Option Nat:=if k<ids.length then ids[k]? else if k<m then some (new+(k-ids.length))else none
def VH(ids:List Nat)(new m:Nat):TC->Option TC| .ptr k p=>(eQ ids new m k).bind λb=>some (.ptr b p)| .slr k=>(eQ ids new m k).bind λb=>some (.slr b)| .slo k n=>(eQ ids new m k).bind λb=>some (.slo b n)| .ep k i p=>(eQ ids new m k).bind λb=>some (.ep b i p)| .epo k e i p=>(eQ ids new m k).bind λb=>some (.epo b e i p)| .pre _ _=>none| .pro _ _ _=>none| .suf _ _=>none| .suo _ _ _=>none|x=>some x
def yR(ids:List Nat)(new m:Nat):List TC->Option (List TC)|[]=>some []|x::r=>match VH ids new m x,yR ids new m r with|some y,some l=>some (y::l)|_,_=>none
def VW(ids:List Nat)(new m:Nat):TA->Option TA
 | .c x=>match VH ids new m x with|some y=>some (.c y)|none=>none
 | .dt t x=>some (.dt t x)
 | .m t cs=>match yR ids new m cs with|some l=>some (.m t l)|none=>none
 | .fn f a c=>match yR ids new m a,yR ids new m c with|some a,some c=>some (.fn f a c)|_,_=>none
def OV(ids:List Nat)(new m:Nat):List TA->Option (List TA)|[]=>some []|x::r=>match VW ids new m x,OV ids new m r with|some y,some l=>some (y::l)|_,_=>none
def ll(ids:List Nat)(new m:Nat):TV->Option TV
 | .a x=>match VW ids new m x with|some y=>some (.a y)|none=>none
 | .tup vs=>match OV ids new m vs with|some l=>some (.tup l)|none=>none
def yM(ids:List Nat)(new m:Nat):TB->Option TB
 | .box t x=>some (.box t x)
 | .mbox t cs=>match yR ids new m cs with|some l=>some (.mbox t l)|none=>none
 | .arr w t rows=>some (.arr w t rows)
 | .dead=>none
section
variable {ids:List Nat} {new m:Nat} {L Lp:Nat->Nat} (hL: ∀k b,eQ ids new m k=some b->Lp b=L k)
theorem JMb{k b o:Nat}(h:eQ ids new m k=some b):bk (ids.map .whole) new (.ptr k o)=some (.ptr b o):=by
 grind [eQ,bk]
theorem JLq{k b i n:Nat}(h:eQ ids new m k=some b):bk (ids.map .whole) new (.slr k i n)=some (.slr b i n):=by
 grind [eQ,bk]
theorem JMs{k b e i o:Nat}(h:eQ ids new m k=some b):bk (ids.map .whole) new (.ep k e i o)=some (.ep b e i o):=by
 grind [eQ,bk]
include hL
theorem G5{x y:TC}(h:VH ids new m x=some y):bk (ids.map .whole) new (bB L x)=some (bB Lp y):=by
 cases x<;>simp only[VH]at h<;>first
  |(obtain⟨b,e,h⟩:=bJ.1 h
    injection h with h;subst h;simp only[bB,JMb e,JLq e,JMs e,hL _ _ e]
    done)
  |(cases h;done)
  |(injection h with h;subst h;rfl)
theorem QJ: ∀{xs e:List TC},yR ids new m xs=some e->bk.bkL (ids.map .whole) new (xs.map (bB L))=some (e.map (bB Lp))
 |[],e,h=>by injection h with h;subst h;rfl
 |x::r,e,h=>by
  simp only[yR]at h;split at h;rename_i y l j g;injection h with h;subst h;simp only[bR,bk.bkL,G5 hL j,QJ g];cases h
theorem Hx{x y:TA}(h:VW ids new m x=some y):bk (ids.map .whole) new (bL L x)=some (bL Lp y):=by cases x<;>grind [VW,G5,bL,bk,QJ]
theorem oz: ∀{xs e:List TA},OV ids new m xs=some e->bk.bkL (ids.map .whole) new (xs.map (bL L))=some (e.map (bL Lp))
 |[],e,h=>by injection h with h;subst h;rfl
 |x::r,e,h=>by
  simp only[OV]at h;split at h;rename_i y l j g;injection h with h;subst h;simp only[bR,bk.bkL,Hx hL j,oz g];cases h
theorem JIv{x y:TV}(h:ll ids new m x=some y):bk (ids.map .whole) new (JY L x)=some (JY Lp y):=by cases x<;>grind [ll,Hx,JY,bk,oz]
end
end Go.Am
end
section
namespace Go.Am
structure TG where
 go: ∀{R:Type},FuncId->List TA->List TB->(TV->List (Bool×TB)->Option R)->Option R
def nX(out:List (Bool×TB)):Nat->Nat:=lns (out.map (·.2))
structure GOk(F:Orc)(G:TG):Prop where
 ok: ∀{R:Type} {f:FuncId} {xs:List TA} {bl:List TB} {kk:TV->List (Bool×TB)->Option R} {r:R},G.go f xs bl kk=some r->
  ∃v out,F f (xs.map (bL (lns bl))) (bl.map (aV (lns bl)))=some (JY (nX out) v,out.map λx=>aV (nX out) x.2)/\
   (∀(k:Nat) x,out[k]?=some (true,x)->k<bl.length->lnB x=lns bl k)/\kk v out=some r
def oQ(ids:List Nat)(new m:Nat):Nat->List (Bool×TB)->Option (List (Nat×Bool×TB))|_,[]=>some []|k,(s,x)::r=>match eQ ids new m k,yM ids new m x,oQ ids new m (k+1) r with|some b,some y,some l=>some ((b,s&&decide (k<ids.length),y)::l)|_,_,_=>none
section
variable {R:Type}
def mi(e:Bool)(a b n:Nat):Bool:=if e=true then decide (a<=b/\b<=a+n)else decide (b=a+n)
theorem JEv{e:Bool}{a b n:Nat}(h:mi e a b n=true):(if e=true then a<=b/\b<=a+n else b=a+n)/\a<=b/\b<=a+n:=by
 grind [mi]
def EN(G:TG)(f:FuncId)(args:List (TV×Bool))(e:Bool)(n:Nat)(d:Option Nat)(new:Nat)(s:TSt)(kk:TSt->Option R):Option R:=
 IT args s λxs s1=>
 match EX xs []with
 |none=>none
 |some g=>match wG s1 g g with
  |none=>none
  |some i1=>match wG s1 i1 i1 with
   |none=>none
   |some ids=>if jD ids=true then
    match PH ids xs,wV ids s1 ids with
    |some j,some bl=>G.go f j bl λv out=>
     if mi e ids.length out.length n=true then
      match ll ids new out.length v,oQ ids new out.length 0 out with
      |some h,some ws=>if jD (ws.map (·.1))=true then kk (bE d h (nA ws s1))else none
      |_,_=>none
     else none
    |_,_=>none
    else none
theorem oh{ids:List Nat}{new m:Nat}{x y:TB}(h:yM ids new m x=some y):lnB y=lnB x:=by
 cases x with
 |dead=>cases h
 |box t x=>injection h with h;subst h;rfl
 |mbox t cs=>
  simp only[yM]at h;split at h;injection h with h;subst h;rfl;cases h
 |arr w t rows=>injection h with h;subst h;rfl
theorem qn{ids:List Nat}{new m:Nat}: ∀{k:Nat} {out:List (Bool×TB)} {ws:List (Nat×Bool×TB)},oQ ids new m k out=some ws->
  ws.length=out.length/\ ∀(j:Nat) s x,out[j]?=some (s,x)-> ∃b y,eQ ids new m (k+j)=some b/\yM ids new m x=some y/\ws[j]?=some (b,s&&decide (k+j<ids.length),y)
 |k,[],ws,h=>by injection h with h;simp_all
 |k,(s,x)::r,ws,h=>by
  simp only[oQ]at h;split at h;rename_i b y l q o e;injection h with h;subst h;obtain⟨h1,h2⟩:=qn e;refine⟨by simp[h1],λj s' g n=>?_⟩;cases j<;>grind
  cases h
theorem JHJ{l:List Nat}(h:jD l=true):l.Nodup:=SF h
theorem Kb{ids:List Nat}(h:jD ids=true):jD ((ids.map Ent.whole).map Ent.id)=true:=by rw[DN,show Ent.id∘Ent.whole=id from rfl,List.map_id];exact h
theorem qc{ids:List Nat}{new m:Nat}{L Lp:Nat->Nat}(hL: ∀k b,eQ ids new m k=some b->Lp b=L k){ws0:List (Nat×Blk)}{st:St}: ∀{j:Nat} {es:List Nat} {out:List (Bool×TB)} {ws:List (Nat×Bool×TB)},
  (∀(i:Nat) b,es[i]?=some b->ids[j+i]?=some b)->j+es.length=ids.length->es.length<=out.length->oQ ids new m j out=some ws->
  (iH ws0 (ids.map .whole) new (es.map .whole) (out.map λx=>aV L x.2)).run st=some ((ws.take es.length).map λx=>(x.1,aV Lp x.2.2))
 |j,[],out,ws,_,_,_,h=>by simp[iH]
 |j,b::es,[],ws,_,_,hl,h=>by simp at hl
 |j,b::es,(s,x)::out,ws,he,hj,hl,h=>by
  simp only[oQ]at h;split at h;rename_i e y l r v n;injection h with h;subst h;have ih:=qc hL (ws0:=ws0) (st:=st) (j:=j+1) (es:=es) (out:=out) (ws:=l) (λi c hc=>by
   have:=he (i+1) c (by simpa using hc);grind) (by grind) (by simpa using hl) n
  have g:e=b:=(by have q:=he 0 b (by simp);grind [eQ]);subst g;simp only[bR,iH,run_bind];have o:(tQ ws0 (ids.map .whole) new (.whole e) (aV L x)).run st=some (e,aV Lp y):=by cases x<;>grind [EW,tQ,fa,WM,JW,yM,LR,QJ,XX]
  simp_all;cases h
theorem pp{ids:List Nat}{new m:Nat}{L Lp:Nat->Nat}(hL: ∀k b,eQ ids new m k=some b->Lp b=L k): ∀{j:Nat} {out:List (Bool×TB)} {ws:List (Nat×Bool×TB)},
  oQ ids new m (ids.length+j) out=some ws->gW (ids.map .whole) new (new+j) (out.map λx=>aV L x.2)=some (ws.map λx=>(x.1,aV Lp x.2.2))
 |j,[],ws,h=>by injection h with h;subst h;rfl
 |j,(s,x)::out,ws,h=>by
  simp only[oQ]at h;split at h;rename_i o y l q e n;injection h with h;subst h;have ih:=pp hL (j:=j+1) n;have g:o=new+j:=(by grind [eQ]);subst g;cases x with
  |dead=>cases e
  |box t x=>injection e with e;grind [EW,gW,fa,WM]
  |mbox t cs=>
   grind [yM,LR,gW,QJ]
  |arr w t rows=>injection e with e;grind [XX,gW]
  cases h
theorem tm{ids:List Nat}{new m:Nat}: ∀{n k:Nat} {out:List (Bool×TB)} {ws:List (Nat×Bool×TB)},oQ ids new m k out=some ws->oQ ids new m (k+n) (out.drop n)=some (ws.drop n)
 |0,k,out,ws,h=>h
 |n+1,k,[],ws,h=>by injection h with h;subst h;rfl
 |n+1,k,(s,x)::out,ws,h=>by
  simp only[oQ]at h;split at h;rename_i b y l j g e;injection h with h;subst h;have:=tm (n:=n) e;grind;cases h
theorem SL{F:Orc}{G:TG}(hG:GOk F G){f:FuncId}{args:List (TV×Bool)}{A:Bool}{n:Nat}{d:Option Nat}{new:Nat}{s:TSt}{kk:TSt->Option R}{r:R}
  (hd:nB s new n=true) (h:EN G f args A n d new s kk=some r):
  ∃xs ws B es z blks v res E fresh,(eW (args.map (·.2)) (args.map λx=>JY (lns s.sto) x.1)).run (JB s)=some (xs,ws)/\
   (dW ws (cF.entsOfL xs []) (cF.entsOfL xs [])).run (JB s)=some B/\(dW ws B B).run (JB s)=some es/\jD (es.map Ent.id)=true/\
   ren.renL (λe=>cY e es 0) xs=some z/\(kF ws (λe=>cY e es 0) es).run (JB s)=some blks/\F f z blks=some res/\
   (if A=true then es.length<=res.2.length/\res.2.length<=es.length+n else res.2.length=es.length+n)/\bk es new res.1=some v/\gW es new new (res.2.drop es.length)=some fresh/\
   (iH ws es new es res.2).run (JB s)=some E/\ ∃s',put d ⟨v,ws++E++fresh⟩ (JB s)=JB s'/\kk s'=some r:=by
 unfold EN at h;obtain⟨xs,s1,ws,h1,q,h⟩:=di (Fzd.refl s) h;rw[oC]at q;split at h;cases h;rename_i i0 V;split at h;cases h;rename_i i1 S;split at h;cases h;rename_i ids M;split at h;rename_i Y;split at h;rename_i ys bl U L;obtain⟨v,out,hF,a1,h⟩:=hG.ok h;split at h;rename_i hlen;split at h;rename_i O g W o;split at h;rename_i N;have e0:cF.entsOfL (xs.map (bL (lns s.sto))) []=i0.map .whole:=RS (lns s.sto) (l:=[]) V;have e1:=AA q S;have e2:=AA q M;obtain⟨ak,Z⟩:=uh L;have hL: ∀b k,eE b ids 0=some k->lns bl k=lns s.sto b:=by intro b k P;obtain⟨_,P⟩:=RW P;rw[Z k b (by simpa using P),q.2.1]
 have e3:=qz hL U;have e4:=s8 hL q rfl L;obtain⟨b1,b2⟩:=qn o;have a6: ∀(j:Nat),nX out j=match out[j]? with
   |some x=>lnB x.2
   |none=>0:=by
  intro j;unfold nX lns;rw[fF];cases out[j]?<;>rfl
 have Q: ∀(k b:Nat),ids[k]?=some b->b<s1.sto.length:=by
  have al: ∀(C:List Nat) (bl:List TB),wV ids s1 C=some bl-> ∀(k b:Nat),C[k]?=some b->b<s1.sto.length:=by
   intro C
   induction C with
   |nil=>simp_all
   |cons c C ih=>
    grind [wV]
  grind
 have a4:s1.sto.length=s.sto.length:=(by have:=congrArg (λst=>st.sto.length) q.2.2.1;grind [JB,zU]);obtain⟨a3,K,a2⟩:=JEv hlen;have a0:=wY hd;have ab: ∀x∈g,∃(j:Nat) (T:Bool) (y:TB),out[j]?=some (T,y)/\eQ ids new out.length j=some x.1/\yM ids new out.length y=some x.2.2/\x.2.1=(T&&decide (j<ids.length)):=by
  intro x hx;obtain⟨j,hj⟩:=fP hx;have w:j<out.length:=by grind
  obtain⟨b,y,q1,q2,I⟩:=b2 j (out[j]'w).1 (out[j]'w).2 (JX w);rw[hj]at I;injection I with I;rw[oM]at q1 I;exact⟨j,_,_,JX w,by simp_all,by simp_all,by rw[I];rfl⟩
 have H: ∀x∈g,x.1<s1.sto.length:=(by grind [eQ,Jy]);have J: ∀x∈g,x.2.1=true->lnB x.2.2=lns s1.sto x.1:=(by grind [oh,eQ]);obtain⟨w1,w2⟩:=JJL (JHJ N) H J;have D: ∀k b,eQ ids new out.length k=some b->lns (nA g s1).sto b=nX out k:=(by grind [eQ,oh]);have e5:=JIv D W;have e6:=qc D (ws0:=ws) (st:=JB s) (j:=0) (es:=ids) (out:=out) (ws:=g) (λi b hb=>by grind) (by omega) K o;have e7:=pp D (j:=0) (out:=out.drop ids.length) (ws:=g.drop ids.length) (by have:=tm (n:=ids.length) o;grind);rw[sV]at e7;refine⟨xs.map (bL (lns s.sto)),ws,i1.map .whole,ids.map .whole,_,_,JY (lns (nA g s1).sto) O,_,_,(g.drop ids.length).map (λx=>(x.1,aV (lns (nA g s1).sto) x.2.2)),h1,?_,e2,Kb Y,e3,e4,hF,?_,e5,?_,e6,bE d O (nA g s1),?_,h⟩;grind;grind;grind [List.map_drop];refine qU ?_ d O;rw[w1,q.2.2.1];simp[eM];cases h;cases h;cases h;cases h;cases h
end
end Go.Am
end
section
namespace Go.Am
inductive TOp where
 |mv (x:TO)
 |mkarr (t:Ty) (x:TO)
 |pick (c a b:TO)
 |newbox (t:Ty)
 |box (t:Ty) (x:TO)
 |build (t:Ty) (parts:List (Nat×Ty×TO))
 |lits (own:Bool) (t:Ty) (n:Nat) (parts:List (Nat×TO))
 |load (agg:Bool) (t:Ty) (x:TO)
 |store (t:Ty) (x v:TO)
 |nilchk (x:TO)
 |bin (op:BinOp) (bt:TBT) (x y:TO)
 |un (op:UnOp) (x:TO)
 |conv (k:CK) (x:TO)
 |mkslice (own:Bool) (t:Ty) (bytes:Nat) (l c:TO)
 |slice (k:TSK) (x:TO) (lo hi mx:Option TO)
 |faddr (off:Nat) (x:TO)
 |field (agg:Bool) (off:Nat) (t:Ty) (x:TO)
 |iaddr (t:Ty) (x i:TO)
 |aaddr (len esz:Nat) (x i:TO)
 |sidx (x i:TO)
 |aidx (agg:Bool) (len:Nat) (t:Ty) (x i:TO)
 |extr (x:TO) (i:Nat)
 |call (f:FuncId) (args:List TO) (k:Nat)
 |callo (f:FuncId) (args:List (TO×Bool)) (k:Nat)
 |callv (g:TO) (args:List TO) (k:Nat)
 |len (str:Bool) (x:TO)
 |app (t:Ty) (bytes:Nat) (x y:TO)
 |appn (t:Ty) (bytes:Nat) (y:TO)
 |mm (mx:Bool) (x y:TO)
 |newboxo (t:Ty) (os:List (Nat×Ty))
 |buildo (t:Ty) (parts:List (Nat×Ty×TO)) (os:List (Nat×Ty))
 |storen (t:Ty) (x:TO)
def zer(t:Ty):List PV:=cel t t.zero
def erp:TOp->AOp| .mv x=>.mv (erO x)| .mkarr t x=>.mkarr t.sz (erO x)| .pick c a b=>.pick (erO c) (erO a) (erO b)| .newbox t=>.newbox (zer t)| .box t x=>.box t.sz (erO x)| .build t parts=>.build (zer t) (erP parts)| .lits own t n parts=>.lits own t.sz n (zer t) (parts.map λx=>(x.1,erO x.2))| .load agg t x=>.load agg t.sz (erO x)| .store t x v=>.store t.sz (erO x) (erO v)| .nilchk x=>.nilchk (erO x)| .bin op bt x y=>.bin op (erT bt) (erO x) (erO y)| .un op x=>.un op (erO x)| .conv k x=>.conv k (erO x)| .mkslice own t bytes l c=>.mkslice own t.sz bytes (zer t) (erO l) (erO c)| .slice k x lo hi mx=>.slice (erK k) (erO x) (lo.map erO) (hi.map erO) (mx.map erO)| .faddr off x=>.faddr off (erO x)| .field agg off t x=>.field agg off t.sz (erO x)| .iaddr t x i=>.iaddr t.sz (erO x) (erO i)| .aaddr len esz x i=>.aaddr len esz (erO x) (erO i)| .sidx x i=>.sidx (erO x) (erO i)| .aidx agg len t x i=>.aidx agg len t.sz (erO x) (erO i)| .extr x i=>.extr (erO x) i| .call f args k=>.call f (args.map erO) k| .callo f args k=>.callo f (args.map (·.2)) (args.map λx=>erO x.1) k| .callv g args k=>.callv (erO g) (args.map erO) k| .len str x=>.len str (erO x)| .app t bytes x y=>.app t.sz bytes (zer t) (erO x) (erO y)| .appn t bytes y=>.appn t.sz bytes (zer t) (erO y)| .mm mx x y=>.mm mx (erO x) (erO y)| .newboxo t os=>.newboxo (zer t) (kP os)| .buildo t parts os=>.buildo (zer t) (erP parts) (kP os)| .storen t x=>.storen t.sz (erO x)
def cS:TOp->Nat| .newbox _| .box _ _| .mkarr _ _| .appn _ _ _=>1| .lits own _ _ _=>if own=true then 1 else 0| .mkslice own _ _ _ _=>if own=true then 1 else 0| .conv (.toBytes own) _=>if own=true then 1 else 0| .call _ _ k| .callv _ _ k| .callo _ _ k=>k| .newboxo _ os=>os.length+1| .buildo _ _ os=>os.length| .storen _ _=>1|_=>0
theorem LU(op:TOp):lV (erp op)=cS op:=by
 cases op<;>try rfl
 rename_i k x;cases k<;>rfl
 all_goals simp[erp,cS,kP]
def vI:List (TO×Bool)->TSt->Option (List (TV×Bool))|[],_=>some []|(o,x)::r,s=>match tev o s,vI r s with|some v,some l=>some ((v,x)::l)|_,_=>none
theorem zW{s:TSt}: ∀{xs:List (TO×Bool)} {l:List (TV×Bool)},vI xs s=some l->
  (evs (xs.map λx=>erO x.1)).run (JB s)=some (l.map λx=>JY (lns s.sto) x.1)/\l.map (·.2)=xs.map (·.2)
 |[],l,h=>by injection h with h;simp_all
 |(o,x)::q,l,h=>by
  simp only[vI]at h;split at h;rename_i v l' e g;injection h with h;subst h;obtain⟨h1,h2⟩:=zW g;exact⟨by simp only[bR,evs,run_bind,bW e,JL,h1,JW],by simp[h2]⟩;cases h
section
variable {R:Type}
def top(G:TG)(op:TOp)(d:Option Nat)(new:Nat)(s:TSt)(k:TSt->Option R):Option R:=
 match op with
 | .mv x=>match tev x s with|some v=>k (bE d v s)|none=>none
 | .mkarr t _=>Ea t d new s k
 | .pick c a b=>match tev c s with|some (.a (.c (.d .b x)))=>m9 x (tev a s) (tev b s) λv=>k (bE d v s)|_=>none
 | .newbox t=>Gl t d new s k
 | .box t x=>match tev x s with|some v=>ke t v d new s k|none=>none
 | .build t parts=>YE t parts d s k
 | .lits own t n parts=>mr own t n parts d new s k
 | .load agg t x=>match tev x s with|some v=>ni agg t v d s k|none=>none
 | .store t x y=>match tev x s,tev y s with|some v,some u=>YC t v u d s k|_,_=>none
 | .nilchk x=>match tev x s with|some v=>lm v λv=>k (bE d v s)|none=>none
 | .bin op bt x y=>match tev x s,tev y s with|some v,some u=>kv op bt v u λv=>k (bE d v s)|_,_=>none
 | .un op x=>match tev x s with|some v=>tUn op v λv=>k (bE d v s)|none=>none
 | .conv c x=>match tev x s with|some v=>nb c v d new s k|none=>none
 | .mkslice own t bytes l c=>match tev l s,tev c s with|some v,some u=>cw own t bytes v u d new s k|_,_=>none
 | .slice e x lo hi mx=>match tev x s,tbn lo s,tbn hi s,tbn mx s with|some v,some a,some b,some c=>XP e v a b c d s k|_,_,_,_=>none
 | .faddr off x=>match tev x s with|some v=>YT off v λv=>k (bE d v s)|none=>none
 | .field agg off t x=>match tev x s with|some v=>YF agg off t v d s k|none=>none
 | .iaddr t x i=>match tev x s,tev i s with|some v,some u=>YD t v u s λv=>k (bE d v s)|_,_=>none
 | .aaddr len esz x i=>match tev x s,tev i s with|some v,some u=>YV len esz v u λv=>k (bE d v s)|_,_=>none
 | .sidx x i=>match tev x s,tev i s with|some v,some u=>nk v u λv=>k (bE d v s)|_,_=>none
 | .aidx agg len t x i=>match tev x s,tev i s with|some v,some u=>mc agg len t v u d s k|_,_=>none
 | .extr x i=>match tev x s with|some v=>nd v i λv=>k (bE d v s)|none=>none
 | .call f args n=>match vI (args.map λx=>(x,false)) s with|some l=>EN G f l false n d new s k|none=>none
 | .callo f args n=>match vI args s with|some l=>EN G f l true n d new s k|none=>none
 | .callv g args n=>match tev g s,vI (args.map λx=>(x,false)) s with|some (.a (.fn f a c)),some l=>EN G f (a.map (λx=>(.a (.c x),false))++l++c.map (λx=>(.a (.c x),false))) false n d new s k|some (.a (.c (.fn f))),some l=>EN G f l false n d new s k|_,_=>none
 | .len str x=>match tev x s with|some v=>lx str v s λv=>k (bE d v s)|none=>none
 | .app t bytes x y=>match tev x s,tev y s with|some v,some u=>jy t bytes v u d s k|_,_=>none
 | .appn t bytes y=>match tev y s with|some u=>mf t bytes u d new s k|none=>none
 | .mm mx x y=>match tev x s,tev y s with|some v,some u=>tMm mx v u λv=>k (bE d v s)|_,_=>none
 | .newboxo t os=>eh t os d new s k
 | .buildo t parts os=>cr t parts os d new s k
 | .storen t x=>match tev x s with|some v=>ZM t v d new s k|none=>none
theorem dm{F:Orc}{f:FuncId}{vs xs g:List AV}{ws:List (Nat×Blk)}{h es:List Ent}{blks:List Blk}{v:AV}{res:Res}{j fresh:List (Nat×Blk)}{n new:Nat}{st:St}
  (h1:(jY vs).run st=some (xs,ws)) (h2:(dW ws (cF.entsOfL xs []) (cF.entsOfL xs [])).run st=some h) (h3:(dW ws h h).run st=some es) (h4:jD (es.map Ent.id)=true)
  (h5:ren.renL (λe=>cY e es 0) xs=some g) (w:(kF ws (λe=>cY e es 0) es).run st=some blks) (q:F f g blks=some res) (r:res.2.length=es.length+n)
  (x:bk es new res.1=some v) (k:gW es new new (res.2.drop es.length)=some fresh) (o:(iH ws es new es res.2).run st=some j):
  (hO F f vs n new).run st=some ⟨v,ws++j++fresh⟩:=by
 simp_all [hO]
theorem JFD{F:Orc}{f:FuncId}{xs g:List AV}{ws:List (Nat×Blk)}{h es:List Ent}{blks:List Blk}{v:AV}{res:Res}{j fresh:List (Nat×Blk)}{n new:Nat}{st:St}
  (h2:(dW ws (cF.entsOfL xs []) (cF.entsOfL xs [])).run st=some h) (h3:(dW ws h h).run st=some es) (h4:jD (es.map Ent.id)=true)
  (h5:ren.renL (λe=>cY e es 0) xs=some g) (w:(kF ws (λe=>cY e es 0) es).run st=some blks) (q:F f g blks=some res) (r:es.length<=res.2.length/\res.2.length<=es.length+n)
  (x:bk es new res.1=some v) (k:gW es new new (res.2.drop es.length)=some fresh) (o:(iH ws es new es res.2).run st=some j):
  (fJ F f (xs,ws) n new).run st=some ⟨v,ws++j++fresh⟩:=by
 simp_all [fJ]
theorem QY(args:List TO):(args.map λx=>(x,false)).map (λx:TO×Bool=>erO x.1)=args.map erO:=by simp_all
theorem JLf{F:Orc}{G:TG}(L:GOk F G){op:TOp}{d:Option Nat}{new:Nat}{s:TSt}{k:TSt->Option R}{r:R}(hd:nB s new (cS op)=true)(h:top G op d new s k=some r):Ok (opR F (erp op) new) d s k r:=by
 have a3: ∀j,j<cS op->new+j<s.sto.length:=λj hj=>Jy (wY hd j hj);unfold top at h;split at h;split at h;rename_i x _ v o;refine fV (v:=v) ?_ h;simp only[erp,opR,run_bind,bW o,JL,JW];cases h;exact JE4 F (by simp_all [cS]) h;split at h;rename_i hc;exact JHK F hc h;cases h;exact JBU F (by have:=wY hd 0 (by simp[cS]);simp_all) h;split at h;rename_i o;exact JIz F (by have:=wY hd 0 (by simp[cS]);simp_all) o h;cases h;exact JEQ F new h;rename_i own t n parts;exact JGs F (λZ=>by simp_all [cS]) h;split at h;rename_i o;obtain⟨e,s',h1,h2,q⟩:=JHI h;exact⟨e,s',by grind [erp,opR,run_bind,bW],h2,q⟩;cases h;split at h;rename_i o w;obtain⟨e,s',h1,h2,q⟩:=JE7 h;exact⟨e,s',by grind [erp,opR,run_bind,bW],h2,q⟩;cases h;split at h;rename_i o;exact JID F o h;cases h;split at h;rename_i o w;obtain⟨e,s',h1,h2,q⟩:=(JJk h).ok;exact⟨e,s',by grind [erp,opR,run_bind,bW],h2,q⟩;cases h;split at h;rename_i o;obtain⟨e,s',h1,h2,q⟩:=(JLN h).ok;exact⟨e,s',by grind [erp,opR,run_bind,bW],h2,q⟩;cases h;split at h;rename_i o;exact JGF F o (λZ=>by simp_all [cS]) h;cases h;split at h;rename_i o w;exact H8 F o w (λZ=>by simp_all [cS]) h;cases h;split at h;rename_i h1 h2 q h4;exact JEI F h1 h2 q h4 h;cases h;split at h;rename_i o;obtain⟨e,s',h1,h2,q⟩:=(JEG h).ok;exact⟨e,s',by grind [erp,opR,run_bind,bW],h2,q⟩;cases h;split at h;rename_i o;obtain⟨e,s',h1,h2,q⟩:=JEp h;exact⟨e,s',by grind [erp,opR,run_bind,bW],h2,q⟩;cases h;split at h;rename_i o w;obtain⟨e,s',h1,h2,q⟩:=JEk h;exact⟨e,s',by grind [erp,opR,run_bind,bW],h2,q⟩;cases h;split at h;rename_i o w;obtain⟨e,s',h1,h2,q⟩:=(JEU h).ok;exact⟨e,s',by grind [erp,opR,run_bind,bW],h2,q⟩;cases h;split at h;rename_i o w;exact JI2 F o w h;cases h;split at h;rename_i o w;exact JH4 F o w h;cases h;split at h;rename_i o;obtain⟨e,s',h1,h2,q⟩:=(JHN h).ok;exact⟨e,s',by grind [erp,opR,run_bind,bW],h2,q⟩;cases h;rename_i f args n;split at h;rename_i l H;obtain⟨C,M⟩:=zW H;rw[QY]at C;obtain⟨xs,ws,I,es,B,blks,v,res,D,fresh,E,W,V,T,S,Q,O,U,N,K,J,s',A,y⟩:=SL L hd h;rw[MU _ _ (λx hx=>by simp_all)]at E;refine⟨_,s',?_,A,y⟩;grind [erp,opR,run_bind,dm,cS];cases h;rename_i f args n;split at h;rename_i l H;obtain⟨C,M⟩:=zW H;obtain⟨xs,ws,I,es,B,blks,v,res,D,fresh,E,W,V,T,S,Q,O,U,N,K,J,s',A,y⟩:=SL L hd h;rw[M]at E;refine⟨_,s',?_,A,y⟩;simp_all [erp,JFD,cS];cases h;rename_i g args n;split at h;rename_i f a c l P H;obtain⟨C,M⟩:=zW H;rw[QY]at C;obtain⟨xs,ws,I,es,B,blks,v,res,D,fresh,E,W,V,T,S,Q,O,U,N,K,J,s',A,y⟩:=SL L hd h;have Y: ∀z:List TC,(z.map (λx=>((TV.a (.c x),false):TV×Bool))).map (λx=>JY (lns s.sto) x.1)=z.map (bB (lns s.sto)):=λz=>by rw[DN];rfl
 rw[MU _ _ (λx hx=>by
  grind),DE,DE,Y,Y]at E
 refine⟨_,s',?_,A,y⟩;simp only[erp,opR,run_bind,bW P,JL,Cy,C];grind [dm,cS];rename_i f l P H;obtain⟨C,M⟩:=zW H;rw[QY]at C;obtain⟨xs,ws,I,es,B,blks,v,res,D,fresh,E,W,V,T,S,Q,O,U,N,K,J,s',A,y⟩:=SL L hd h;rw[MU _ _ (λx hx=>by simp_all)]at E;refine⟨_,s',?_,A,y⟩;simp only[erp,opR,run_bind,bW P,JL,C9,C,oC,jP];grind [dm,cS];cases h;split at h;rename_i o;obtain⟨e,s',h1,h2,q⟩:=(JIx h).ok;exact⟨e,s',by grind [erp,opR,run_bind,bW],h2,q⟩;cases h;split at h;rename_i o w;obtain⟨e,s',h1,h2,q⟩:=JJT h;exact⟨e,s',by grind [erp,opR,run_bind,bW],h2,q⟩;cases h;split at h;rename_i w;exact JGe F w (by simp_all [cS]) h;cases h;split at h;rename_i o w;obtain⟨e,s',h1,h2,q⟩:=(JMd h).ok;exact⟨e,s',by grind [erp,opR,run_bind,bW],h2,q⟩;cases h;exact Ia F hd h;exact JBO F hd h;split at h;rename_i o;exact JBN F (by have:=wY hd 0 (by simp[cS]);simp_all) o h;cases h
structure iS where
 op:TOp
 dst:Option Nat
 g:Option (Nat×Bool)
def eri(i:iS):bQ:=⟨erp i.op,i.dst,i.g⟩
def rbE(g:Nat)(v:TV):List (Nat×TV)->List (Nat×TV)|[]=>[]|(m,u)::r=>if m=g then(m,v)::r else(m,u)::rbE g v r
def rb(g:Nat)(v:TV)(s:TSt):TSt:=⟨rbE g v s.env,s.sto⟩
theorem YK{g:Nat}{v:TV}{s:TSt}(h:tlk g s.env=some v):rb g v s=s:=by
 have e: ∀env:List (Nat×TV),tlk g env=some v->rbE g v env=env:=by
  intro env
  induction env with
  |nil=>intro h;cases h
  |cons x r ih=>
   grind [tlk,rbE]
 simp_all [rb]
def VF(G:TG)(i:iS)(new:Nat)(s:TSt)(k:TSt->Option R):Option R:=
 match i.g with
 |none=>if nB s new (cS i.op)=true then top G i.op i.dst new s k else none
 |some (g,e)=>match tlk g s.env with
  |some (.a (.c (.d .b x)))=>if x=e then
   (if nB s new (cS i.op)=true then top G i.op i.dst new (rb g (vb e) s) k else none)
   else k (bE i.dst uv (rb g (vb !e) s))
  |some (.tup [])=>k (bE i.dst uv s)
  |_=>none
theorem Gu{F:Orc}{G:TG}(B:GOk F G){i:iS}{new:Nat}{s:TSt}{k:TSt->Option R}{r:R}(h:VF G i new s k=some r):Ok (bT F (eri i) new) i.dst s k r:=by
 have A: ∀{s:TSt},nB s new (cS i.op)=true->top G i.op i.dst new s k=some r->Ok (opD F (erp i.op) new) i.dst s k r:=(by intro s hd h;obtain⟨e,s',h1,h2,w⟩:=JLf B hd h;refine⟨e,s',?_,h2,w⟩;grind [opD,run_bind,LU,pj]);unfold VF at h;split at h;grind [bT,eri];rename_i g n z;split at h;rename_i x j;have o:lk g (JB s).env=some (.p (.b x)):=by show lk g (fI _ s.env)=_;rw[zM,j];rfl
 split at h;rename_i q;subst q;rw[YK j]at h;split at h;rename_i hd;obtain⟨e,s',h1,h2,w⟩:=A hd h;refine⟨e,s',?_,h2,w⟩;grind [bT,eri,xA];cases h;rename_i q;have y:x= !n:=by clear o j h;cases x<;>cases n<;>first|rfl|grind
 subst y;rw[YK j]at h;refine fV (v:=uv) ?_ h;simp only[bT,eri,z,xA,o,JL];rw[if_neg q];rfl;rename_i j;have o:lk g (JB s).env=some (.tup []):=by show lk g (fI _ s.env)=_;rw[zM,j];rfl
 refine fV (v:=uv) ?_ h;simp only[bT,eri,z,xA,o,JL,JW];rfl;cases h
def VO(G:TG):List iS->Nat->TSt->(TSt->Option R)->Option R|[],_,s,k=>k s|i::r,new,s,k=>VF G i new s λs=>VO G r (new+cS i.op) s k
theorem Hl{F:Orc}{G:TG}(g:GOk F G): ∀{ins:List iS} {new:Nat} {s:TSt} {k:TSt->Option R} {r:R},VO G ins new s k=some r-> ∃s',fU F (ins.map eri) new (JB s)=some (JB s')/\k s'=some r
 |[],new,s,k,r,h=>⟨s,rfl,h⟩
 |i::q,new,s,k,r,h=>by
  simp only[VO]at h;obtain⟨e,s1,h1,h2,h⟩:=Gu g h;obtain⟨j,o,n⟩:=Hl g h;grind [fU,eri,LU]
def KL:List iS->Nat|[]=>0|i::r=>cS i.op+KL r
theorem dr: ∀ins:List iS,news (ins.map eri)=KL ins
 |[]=>rfl
 |i::r=>by
  simp only[bR,news,KL,dr r];grind [eri,LU]
def OP(n:Nat)(s:TSt):TSt:=if n=0 then s else⟨s.env,s.sto++List.replicate n .dead⟩
theorem Ml(sto:List TB)(n:Nat):lns (sto++List.replicate n .dead)=lns sto:=by
 funext c
 unfold lns;rcases zQ3 c sto.length with h|h;grind;rw[nY h,oI h,List.getElem?_replicate];split<;>rfl
theorem p7(n:Nat)(s:TSt):JB (OP n s)=⟨(JB s).env,room n (JB s).sto⟩:=by
 unfold OP room;split;rfl;unfold JB;rw[Ml];simp only[DE,VE];rfl
end
end Go.Am
end
section
namespace Go.Am
def Rb{α:Type}(S:Nat->Prop)(m:RM α)(st:St):Prop:= ∀b,Loc.blk b∈m.reads st->S b
section
variable {α β:Type} {S:Nat->Prop} {st:St}
theorem cC(a:α):Rb S (.ret a) st:=λb h=>by grind [RM.reads]
theorem eN:Rb S (.fail:RM α) st:=λb h=>by grind [RM.reads]
theorem bV{m:RM α}{f:α->RM β}(h:Rb S m st)(hf: ∀a,m.run st=some a->Rb S (f a) st):Rb S (m.bind f) st:=by
 intro b e;rw[xG]at e;rcases zQ9.1 e with e|e;exact h b e;cases hm:m.run st with
 |none=>simp_all
 |some a=>rw[hm]at e;exact hf a hm b (by simpa using e)
theorem qS{b:Nat}{k:Blk->RM α}(hb:S b)(h: ∀v,st.sto[b]?=some v->Rb S (k v) st):Rb S (.blk b k) st:=by
 intro c hc;simp only[RM.reads,cL]at hc;rcases hc with hc|hc;simp_all;cases hv:st.sto[b]? with
 |none=>simp_all
 |some v=>rw[hv]at hc;exact h v hv c hc
theorem G0{n:Nat}{k:AV->RM α}(h: ∀v,lk n st.env=some v->Rb S (k v) st):Rb S (.slot n k) st:=by
 intro c hc;simp only[RM.reads,cL]at hc;rcases hc with hc|hc;cases hc;cases hv:lk n st.env with
 |none=>simp_all
 |some v=>rw[hv]at hc;exact h v hv c hc
theorem E6(x:Option AV):Rb S (val x) st:=by cases x<;>first|exact eN|exact cC _
theorem nD(x:Opd):Rb S (ev x) st:=by cases x<;>first|exact cC _|exact G0 λv _=>cC v
theorem YY: ∀xs:List Opd,Rb S (evs xs) st|[]=>cC _|x::r=>bV (nD x) λv _=>bV (YY r) λvs _=>cC _
theorem XZ(x:Option Opd):Rb S (evo x) st:=by cases x<;>simp_all [cC,bV,nD]
end
def fQ:AV->List Nat| .ptr b _=>[b]| .slr b _ _=>[b]| .ep b _ _ _=>[b]| .pre b _ _=>[b]|_=>[]
def avR:AV->List Nat| .agg cs=>cs.flatMap fQ|x=>fQ x
section
variable {S:Nat->Prop} {st:St}
theorem JK2{x:AV}(h: ∀b∈fQ x,S b):Rb S (fz.fz1 x) st:=by
 cases x with
 |slr b i n=>
  refine qS (h b (by simp[fQ])) λv _=>?_;grind [cC,eN]
 |p c=>exact cC _
 |_=>exact eN
theorem Eb: ∀{xs:List AV},(∀b∈xs.flatMap fQ,S b)->Rb S (fz.fzL xs) st|[],_=>cC _|x::r,h=>bV (JK2 λb e=>h b (by simp[e])) λa _=>bV (Eb λb e=>h b (by simp_all)) λc _=>cC _
theorem KF{x:AV}(h: ∀b∈avR x,S b):Rb S (fz x) st:=by
 cases x with
 |slr b i n=>
  refine qS (h b (by simp[avR,fQ])) λv _=>?_;grind [cC,eN]
 |p c=>exact cC _
 |data cs=>exact cC _
 |agg cs=>exact Eb h
 |_=>exact eN
theorem JLS{x:AV}{a:List PV×List (Nat×Blk)}(h:(fz.fz1 x).run st=some a): ∀y∈a.2,y.1∈fQ x:=by
 cases x with
 |slr b i n=>
  simp only[fz.fz1,dX]at h;obtain⟨v,_,h⟩:=bJ.1 h;cases v with
  |arr w esz rows=>
   dsimp only at h;split at h;injection h with h;grind [fQ];cases h
  |_=>cases h
 |p c=>injection h with h;subst h;simp
 |_=>cases h
theorem E9: ∀{xs:List AV} {a:List PV×List (Nat×Blk)},(fz.fzL xs).run st=some a-> ∀y∈a.2,y.1∈xs.flatMap fQ
 |[],a,h,y,g=>by injection h with h;grind
 |x::r,a,h,y,g=>by
  simp only[fz.fzL]at h;obtain⟨c,h1,h⟩:=bind_some h;obtain⟨e,h2,h⟩:=bind_some h;injection h with h;subst h;simp only[zQ9]at g;simp only[List.flatMap_cons,zQ9];rcases g with g|g;grind [JLS];exact .inr (E9 h2 y g)
theorem IU{x:AV}{a:List PV×List (Nat×Blk)}(h:(fz x).run st=some a): ∀y∈a.2,y.1∈avR x:=by
 cases x with
 |slr b i n=>
  simp only[fz,dX]at h;obtain⟨v,_,h⟩:=bJ.1 h;cases v with
  |arr w esz rows=>
   dsimp only at h;split at h;injection h with h;grind [avR,fQ];cases h
  |_=>cases h
 |p c=>injection h with h;subst h;simp
 |data cs=>injection h with h;subst h;simp
 |agg cs=>exact E9 h
 |_=>cases h
theorem Gt{esz:Nat}{x:AV}(h: ∀b∈avR x,S b):Rb S (fK esz x) st:=by
 unfold fK;grind [cC,eN,qS,avR,fQ]
theorem JJ6{agg:Bool}{size:Nat}{x:AV}(h: ∀b∈avR x,S b):Rb S (gE agg size x) st:=by
 unfold gE;split
 all_goals grind [E6,eN,qS,avR,fQ]
theorem PU{x:Option AV}{e:Eff}(h:(val x).run st=some e):e.ws=[]:=by
 cases x with
 |none=>cases h
 |some v=>injection h with h;subst h;rfl
theorem JIW{agg:Bool}{size:Nat}{x:AV}{e:Eff}(h:(gE agg size x).run st=some e):e.ws=[]:=by
 unfold gE at h;split at h;split at h<;>first|exact PU h|cases h
 simp only[dX]at h;obtain⟨v,_,h⟩:=bJ.1 h;split at h;split at h<;>first|exact PU h|cases h
 cases h;simp only[dX]at h;obtain⟨v,_,h⟩:=bJ.1 h;split at h;split at h;split at h;split at h<;>first|exact PU h|cases h
 cases h;cases h;cases h;cases h
theorem JHl{size:Nat}{x v:AV}(h: ∀b∈avR x,S b)(hv: ∀b∈avR v,S b):Rb S (hQ size x v) st:=by
 unfold hQ;split;grind [qS,avR,fQ,cC,eN];refine qS (h _ (by simp[avR,fQ])) λy _=>?_;grind [bV,KF,cC,eN];simp[eN]
theorem JHY{size:Nat}{x v:AV}{e:Eff}(h:(hQ size x v).run st=some e): ∀y∈e.ws,y.1∈avR x++avR v:=by
 unfold hQ at h;split at h;simp only[dX]at h;obtain⟨w,_,h⟩:=bJ.1 h;split at h;split at h;split at h;split at h;injection h with h;grind [avR,fQ];cases h;cases h;cases h;cases h;simp only[dX]at h;obtain⟨w,_,h⟩:=bJ.1 h;split at h;split at h;split at h;obtain⟨a,h1,h⟩:=bind_some h;split at h;split at h;injection h with h;subst h;intro y g;grind [IU,avR,fQ];cases h;cases h;cases h;cases h;cases h;cases h
theorem JFG{esz:Nat}{x i:AV}(h: ∀b∈avR x,S b):Rb S (lZ esz x i) st:=by
 unfold lZ;grind [cC,eN,qS,avR,fQ]
theorem JHQ{esz:Nat}{x i:AV}{e:Eff}(h:(lZ esz x i).run st=some e):e.ws=[]:=by
 unfold lZ at h;split at h;split at h;split at h;injection h with h;subst h;rfl;cases h;cases h;simp only[dX]at h;obtain⟨v,_,h⟩:=bJ.1 h;split at h;split at h;injection h with h;subst h;rfl;cases h;cases h;cases h
theorem JLV{esz bytes:Nat}{x y:AV}(h: ∀b∈avR x,S b)(hy: ∀b∈avR y,S b):Rb S (iR esz bytes x y) st:=by
 unfold iR;split
 all_goals grind [qS,avR,fQ,bV,Gt,cC,eN]
theorem JKM{esz bytes:Nat}{x y:AV}{e:Eff}(h:(iR esz bytes x y).run st=some e): ∀z∈e.ws,z.1∈avR x:=by
 unfold iR at h;split at h;simp only[dX]at h;obtain⟨v,_,h⟩:=bJ.1 h;split at h;obtain⟨new,_,h⟩:=bind_some h;split at h;injection h with h;grind [avR,fQ];cases h;cases h;cases h
theorem Gy: ∀{k new:Nat},(∀j,j<k->S (new+j))->Rb S (tF new k) st
 |0,_,_=>cC _
 |k+1,new,h=>qS (h 0 (by omega)) λv _=>by
  cases v with
  |dead=>exact Gy λj e=>by grind
  |_=>exact eN
theorem El: ∀{xs:List Opd},(∀x∈xs,∀v,(ev x).run st=some v-> ∀b∈avR v,S b)->Rb S (fzs xs) st|[],_=>cC _|x::r,h=>bV (nD x) λv e=>bV (KF (h x (by simp) v e)) λa _=>bV (El λy g=>h y (by simp[g])) λc _=>cC _
theorem YP: ∀{xs:List Opd} {a:List (List PV)×List (Nat×Blk)},(∀x∈xs,∀v,(ev x).run st=some v-> ∀b∈avR v,S b)->(fzs xs).run st=some a-> ∀y∈a.2,S y.1
 |[],a,_,h,y,g=>by injection h with h;grind
 |x::r,a,j,h,y,g=>by
  simp only[fzs]at h;obtain⟨v,k,h⟩:=bind_some h;obtain⟨c,h1,h⟩:=bind_some h;obtain⟨e,h2,h⟩:=bind_some h;injection h with h;subst h;simp only[zQ9]at g;rcases g with g|g;exact j x (by simp) v k _ (IU h1 y g);exact YP (λz n=>j z (by simp[n])) h2 y g
theorem F5{x:AV}(h: ∀b∈avR x,S b):Rb S (iX x) st:=by
 cases x with
 |slr b i n=>
  refine bV (KF h) λa _=>?_;grind [cC,eN]
 |agg cs=>exact bV (KF h) λa _=>cC _
 |tup cs=>exact eN
 |_=>exact cC _
theorem Hp{x:AV}{a:AV×List (Nat×Blk)}(h:(iX x).run st=some a): ∀y∈a.2,y.1∈avR x:=by
 cases x with
 |slr b i n=>
  simp only[iX]at h;obtain⟨c,h1,h⟩:=bind_some h;split at h;injection h with h;subst h;exact IU h1;cases h
 |agg cs=>simp only[iX]at h;obtain⟨c,h1,h⟩:=bind_some h;injection h with h;subst h;exact IU h1
 |tup cs=>cases h
 |_=>injection h with h;subst h;simp
theorem ME: ∀{m:List Bool} {xs:List AV},(∀x∈xs,∀b∈avR x,S b)->Rb S (eW m xs) st|_,[],_=>by simp[eW,cC]|[],x::r,h=>bV (F5 (h x (by simp))) λa _=>bV (ME λy e=>h y (by simp[e])) λc _=>cC _|true::m,x::r,h=>bV (ME λy e=>h y (by simp[e])) λc _=>cC _|false::m,x::r,h=>bV (F5 (h x (by simp))) λa _=>bV (ME λy e=>h y (by simp[e])) λc _=>cC _
theorem MG: ∀{m:List Bool} {xs:List AV} {a:List AV×List (Nat×Blk)},(∀x∈xs,∀b∈avR x,S b)->(eW m xs).run st=some a-> ∀y∈a.2,S y.1
 |m,[],a,_,h,y,g=>by unfold eW at h;injection h with h;grind
 |[],x::r,a,j,h,y,g=>by
  simp only[eW]at h;obtain⟨c,h1,h⟩:=bind_some h;obtain⟨e,h2,h⟩:=bind_some h;injection h with h;subst h;simp only[zQ9]at g;rcases g with g|g;exact j x (by simp) _ (Hp h1 y g);exact MG (λz k=>j z (by simp[k])) h2 y g
 |true::m,x::r,a,j,h,y,g=>by simp only[eW]at h;obtain⟨e,h2,h⟩:=bind_some h;injection h with h;subst h;exact MG (λz k=>j z (by simp[k])) h2 y g
 |false::m,x::r,a,j,h,y,g=>by
  simp only[eW]at h;obtain⟨c,h1,h⟩:=bind_some h;obtain⟨e,h2,h⟩:=bind_some h;injection h with h;subst h;simp only[zQ9]at g;rcases g with g|g;exact j x (by simp) _ (Hp h1 y g);exact MG (λz k=>j z (by simp[k])) h2 y g
theorem Fx{ws:List (Nat×Blk)}{b:Nat}(h:S b):Rb S (qD ws b) st:=qS h λv _=>by grind [cC]
theorem cm{ws:List (Nat×Blk)}: ∀{r:List Nat} {acc:List Ent},(∀b∈r,S b)->Rb S (dW ws (r.map .whole) acc) st|[],acc,_=>cC _|b::r,acc,h=>by simp only[bR,dW];refine bV (Fx (h b (by simp))) λx _=>?_;cases x<;>exact cm λc hc=>h c (by simp[hc])
theorem rp{ws:List (Nat×Blk)}{ρ:Ent->Option Nat}: ∀{r:List Nat},(∀b∈r,S b)->Rb S (kF ws ρ (r.map .whole)) st
 |[],_=>cC _
 |b::r,h=>by
  simp only[bR,kF,yW];refine bV (bV (Fx (h b (by simp))) λx _=>?_) λx _=>bV (rp λc hc=>h c (by simp[hc])) λl _=>cC _;grind [cC,eN]
theorem ta{ws:List (Nat×Blk)}{es:List Ent}{new:Nat}: ∀{r:List Nat} {l:List Blk},Rb S (iH ws es new (r.map .whole) l) st
 |[],l=>by cases l<;>exact cC _
 |b::r,[]=>eN
 |b::r,x::l=>by simp only[bR,iH];refine bV ?_ λy _=>bV ta λe _=>cC _;cases x<;>grind [tQ,cC,eN]
theorem te{ws:List (Nat×Blk)}{es:List Ent}{new:Nat}: ∀{r:List Nat} {l:List Blk} {g:List (Nat×Blk)},(iH ws es new (r.map .whole) l).run st=some g-> ∀y∈g,y.1∈r
 |[],l,g,h,y,j=>by
  have:g=[]:=by cases l<;>(injection h with h;exact h.symm)
  simp_all
 |b::r,[],g,h,_,_=>by cases h
 |b::r,x::l,g,h,y,j=>by
  simp only[bR,iH]at h;obtain⟨z,h1,h⟩:=bind_some h;obtain⟨k,h2,h⟩:=bind_some h;injection h with h;subst h;rcases cL.1 j with rfl|j;cases x with
  |box cs=>
   simp only[tQ]at h1;split at h1;injection h1 with h1;subst h1;simp;cases h1
  |arr w e rows=>injection h1 with h1;subst h1;simp
  |dead=>cases h1
  exact qC _ (te h2 y j)
theorem fu{es:List Ent}{new:Nat}: ∀{l:List Blk} {k:Nat} {n:List (Nat×Blk)},gW es new k l=some n-> ∀y∈n,∃j,j<l.length/\y.1=k+j
 |[],k,n,h,y,g=>by injection h with h;simp_all
 | .dead::l,k,n,h,_,_=>by cases h
 | .box cs::l,k,n,h,y,g=>by
  simp only[gW]at h;split at h;rename_i c q _ o;injection h with h;subst h;rcases cL.1 g with rfl|g;simp_all;obtain⟨j,r,e⟩:=fu o y g;exact⟨j+1,by simp;omega,by omega⟩;cases h
 | .arr w e rows::l,k,n,h,y,g=>by
  simp only[gW]at h;split at h;rename_i q o;injection h with h;subst h;rcases cL.1 g with rfl|g;simp_all;obtain⟨j,r,e⟩:=fu o y g;exact⟨j+1,by simp;omega,by omega⟩;cases h
theorem dz(e x:Ent)(l:List Ent)(h:e∈l):e∈wM x l:=by grind [wM]
mutual
theorem JHE: ∀(x:AV) (l:List Ent) (e:Ent),e∈l->e∈cF x l| .ptr b off,l,e,h=>dz e _ l h| .slr b i n,l,e,h=>dz e _ l h| .ep b g i off,l,e,h=>dz e _ l h| .fn f a c,l,e,h=>entsL_sub c _ e (entsL_sub a l e h)| .agg cs,l,e,h=>entsL_sub cs l e h| .tup cs,l,e,h=>entsL_sub cs l e h| .p _,l,e,h=>h| .data _,l,e,h=>h| .cp _ _,l,e,h=>h| .unk,l,e,h=>h| .pre _ _ _,l,e,h=>h
theorem entsL_sub: ∀(xs:List AV) (l:List Ent) (e:Ent),e∈l->e∈cF.entsOfL xs l|[],l,e,h=>h|x::r,l,e,h=>entsL_sub r _ e (JHE x l e h)
end
theorem pf{ws:List (Nat×Blk)}: ∀{r acc l:List Ent},(dW ws r acc).run st=some l-> ∀e∈acc,e∈l:=by
 intro r
 induction r with
 |nil=>intro acc l h e g;injection h with h;simp_all
 |cons x r ih=>
  intro acc l h e g;cases x with
  |whole b=>
   simp only[dW]at h;obtain⟨y,_,h⟩:=bind_some h;cases y with
   |box cs=>exact ih h e (entsL_sub cs acc e g)
   |_=>exact ih h e g
  |elem b j i=>exact ih h e g
theorem rh{F:Orc}{f:FuncId}{xs:List AV}{ws:List (Nat×Blk)}{e0 k ids:List Nat}{n new:Nat}(r: ∀b∈ids,S b)(hw: ∀y∈ws,S y.1)(hn: ∀j,j<n->S (new+j))
  (h0:cF.entsOfL xs []=e0.map .whole) (h1:(dW ws (e0.map .whole) (e0.map .whole)).run st=some (k.map .whole)) (h2:(dW ws (k.map .whole) (k.map .whole)).run st=some (ids.map .whole)):
  Rb S (fJ F f (xs,ws) n new) st/\(∀e,(fJ F f (xs,ws) n new).run st=some e-> ∀y∈e.ws,S y.1):=by
 have s1: ∀b∈k,S b:=λb o=>by have:=pf h2 (.whole b) (oK.2 ⟨b,o,rfl⟩);simp_all
 have s0: ∀b∈e0,S b:=λb o=>by have:=pf h1 (.whole b) (oK.2 ⟨b,o,rfl⟩);simp_all
 constructor
 ·unfold fJ;simp only[h0];refine bV (cm s0) λa g=>?_;rw[h1]at g;injection g with g;subst g
  refine bV (cm s1) λa g=>?_;rw[h2]at g;injection g with g;subst g;split
  ·split
   all_goals grind [eN,bV,rp,ta,cC]
  simp[eN]
 intro e h y x;unfold fJ at h;simp only[h0]at h;obtain⟨a,g,h⟩:=bind_some h;rw[h1]at g;injection g with g;subst g;obtain⟨a,g,h⟩:=bind_some h;rw[h2]at g;injection g with g;subst g;split at h;split at h;cases h;obtain⟨bl,_,h⟩:=bind_some h;split at h;cases h;split at h;rename_i hlen;split at h;rename_i v fresh _ w;obtain⟨q,o,h⟩:=bind_some h;injection h with h;grind [te,fu];cases h;cases h;cases h
end
def tcR:TC->List Nat| .ptr b _=>[b]| .slr b=>[b]| .slo b _=>[b]| .ep b _ _=>[b]| .epo b _ _ _=>[b]| .pre b _=>[b]| .pro b _ _=>[b]| .suf b _=>[b]| .suo b _ _=>[b]|_=>[]
def tvR:TV->List Nat| .a (.c x)=>tcR x| .a (.m _ cs)=>cs.flatMap tcR|_=>[]
theorem JLp(L:Nat->Nat)(x:TC):fQ (bB L x)=tcR x:=by cases x<;>rfl
theorem lW(L:Nat->Nat)(v:TV):avR (JY L v)=tvR v:=by
 cases v with
 |a x=>
  cases x with
  |c x=>cases x<;>rfl
  |dt t x=>rfl
  |m t cs=>show(cs.map (bB L)).flatMap fQ=cs.flatMap tcR;simp[List.flatMap_map,JLp]
  |fn f a c=>rfl
 |tup vs=>rfl
def rng(new:Nat):Nat->List Nat|0=>[]|k+1=>new::rng (new+1) k
theorem zS: ∀{k new j:Nat},j<k->new+j∈rng new k
 |0,_,_,h=>by omega
 |k+1,new,j,h=>by
  cases j with
  |zero=>simp[rng]
  |succ j=>simp only[rng,cL];right;rw[show new+(j+1)=new+1+j by omega];exact zS (by omega)
def iA{α β:Type}(m:Option α)(f:α->Option β):Option β:=match m with|some x=>f x|none=>none
theorem iI{α β:Type}{m:Option α}{f:α->Option β}{b:β}(h:iA m f=some b): ∃a,m=some a/\f a=some b:=by
 cases m with
 |none=>cases h
 |some a=>exact⟨a,rfl,h⟩
def kz(l:List (TV×Bool))(s:TSt):Option (List Nat):=IT l s λxs s1=>iA (EX xs []) λe=>iA (wG s1 e e) λi1=>wG s1 i1 i1
def tcU(l:List (TV×Bool))(n new:Nat)(s:TSt):Option (List Nat×List Nat):=iA (kz l s) λids=>some (rng new n++(l.flatMap λx=>tvR x.1)++ids,rng new n++(l.flatMap λx=>tvR x.1)++ids)
def tpR(s:TSt):List (Nat×TO)->Option (List Nat)|[]=>some []|(_,o)::r=>iA (tev o s) λv=>iA (tpR s r) λl=>some (tvR v++l)
def uw(op:TOp)(new:Nat)(s:TSt):Option (List Nat×List Nat):=
 match op with
 | .load _ _ x=>iA (tev x s) λv=>some (tvR v,[])
 | .newbox _=>some ([new],[new])
 | .store _ x y=>iA (tev x s) λv=>iA (tev y s) λu=>some (tvR v++tvR u,tvR v++tvR u)
 | .iaddr _ x _=>iA (tev x s) λv=>some (tvR v,[])
 | .lits own t n ps=>iA (tpR s ps) λl=>some (rng new (cS (.lits own t n ps))++l,rng new (cS (.lits own t n ps))++l)
 | .appn _ _ y=>iA (tev y s) λv=>some (new::tvR v,[new])
 | .app _ _ x y=>iA (tev x s) λv=>iA (tev y s) λu=>some (tvR v++tvR u,tvR v)
 | .slice _ x _ _ _=>iA (tev x s) λv=>some (tvR v,tvR v)
 | .call _ args n=>iA (vI (args.map λx=>(x,false)) s) λl=>tcU l n new s
 | .callo _ args n=>iA (vI args s) λl=>tcU l n new s
 |_=>none
theorem qR{F:Orc}{op:TOp}{new:Nat}{st:St}{S:Nat->Prop}(hd: ∀j,j<cS op->S (new+j))(h:Rb S (opR F (erp op) new) st):Rb S (opD F (erp op) new) st:=by
 grind [opD,LU,bV,Gy]
theorem qY{F:Orc}{op:AOp}{new:Nat}{st:St}{e:Eff}(h:(opD F op new).run st=some e):(opR F op new).run st=some e:=by unfold opD at h;obtain⟨_,_,h⟩:=bind_some h;exact h
def UW(F:Orc)(op:AOp)(new:Nat)(st:St)(U W:List Nat):Prop:=Rb (· ∈U) (opD F op new) st/\ ∀e,(opD F op new).run st=some e-> ∀y∈e.ws,y.1∈W
theorem mA{x:TO}{s:TSt}{v:TV}(h:tev x s=some v){a:AV}(ha:(ev (erO x)).run (JB s)=some a):a=JY (lns s.sto) v:=by
 grind [bW]
theorem Fq{l:List (TV×Bool)}{s:TSt}{ids:List Nat}(h:kz l s=some ids): ∃(xs:List AV) (ws:List (Nat×Blk)) (e i1:List Nat),(eW (l.map (·.2)) (l.map λx=>JY (lns s.sto) x.1)).run (JB s)=some (xs,ws)/\
  cF.entsOfL xs []=e.map .whole/\(dW ws (e.map .whole) (e.map .whole)).run (JB s)=some (i1.map .whole)/\(dW ws (i1.map .whole) (i1.map .whole)).run (JB s)=some (ids.map .whole):=by
 unfold kz at h;obtain⟨xs,s1,ws,h1,g,h⟩:=di (Fzd.refl s) h;rw[oC]at g;obtain⟨e,h2,h⟩:=iI h;obtain⟨i1,k,j⟩:=iI h;exact⟨_,ws,e,i1,h1,RS (lns s.sto) (l:=[]) h2,AA g k,AA g j⟩
theorem JHo{F:Orc}{f:FuncId}{vs:List AV}{n new:Nat}{st:St}{S:Nat->Prop}{a:List AV×List (Nat×Blk)}(ha:(jY vs).run st=some a)(hr:Rb S (jY vs) st)
  (h: ∀(_:Unit),Rb S (fJ F f a n new) st):Rb S (hO F f vs n new) st:=by
 unfold hO;refine bV hr λo j=>?_;rw[ha]at j;injection j with j;subst j;have h:=h ();unfold fJ at h;intro b g;refine h b ?_
 revert g
 simp only[xG];intro g;rcases zQ9.1 g with g|g;grind;refine zQ9.2 (.inr ?_)
 revert g
 cases(dW a.2 (cF.entsOfL a.1 []) (cF.entsOfL a.1 [])).run st with
 |none=>grind
 |some k=>
  simp only[cT,Option.getD_some,xG];intro g;rcases zQ9.1 g with g|g;grind;refine zQ9.2 (.inr ?_)
  revert g
  cases(dW a.2 k k).run st with
  |none=>grind
  |some es=>
   simp only[cT,Option.getD_some];split;split;grind;simp only[xG];intro g;rcases zQ9.1 g with g|g;grind;refine zQ9.2 (.inr ?_)
   revert g
   cases(kF a.2 (λe=>cY e es 0) es).run st<;>grind [RM.reads]
   grind
theorem JMK(F:Orc){op:TOp}{new:Nat}{s:TSt}{U W:List Nat}(h:uw op new s=some (U,W)):UW F (erp op) new (JB s) U W:=by
 unfold uw at h;split at h;rename_i agg t x;obtain⟨v,w,h⟩:=iI h;injection h with h;injection h with h1 h2;subst h1 h2;refine⟨qR (op:=.load agg t x) (λj A=>by grind [cS]) (bV (nD _) λa r=>?_),λe g y C=>?_⟩;rw[mA w r];grind [JJ6,lW];have g:=qY g;simp only[erp,opR]at g;obtain⟨a,r,g⟩:=bind_some g;grind [JIW];rename_i t;injection h with h;injection h with h1 h2;subst h1 h2;refine⟨qR (op:=.newbox t) (λj A=>by grind [cS]) (cC _),λe g y C=>?_⟩;have g:=qY g;injection g with g;grind;rename_i t x y;obtain⟨v,w,h⟩:=iI h;obtain⟨u,G,h⟩:=iI h;injection h with h;injection h with h1 h2;subst h1 h2;refine⟨qR (op:=.store t x y) (λj A=>by grind [cS]) (bV (nD _) λa r=>bV (nD _) λc hc=>?_),λe g z I=>?_⟩;rw[mA w r,mA G hc];grind [JHl,lW];have g:=qY g;simp only[erp,opR]at g;obtain⟨a,r,g⟩:=bind_some g;obtain⟨c,hc,g⟩:=bind_some g;have:=JHY g z I;rwa[mA w r,mA G hc,lW,lW]at this;rename_i t x i;obtain⟨v,w,h⟩:=iI h;injection h with h;injection h with h1 h2;subst h1 h2;refine⟨qR (op:=.iaddr t x i) (λj A=>by grind [cS]) (bV (nD _) λa r=>bV (nD _) λc hc=>?_),λe g y C=>?_⟩;rw[mA w r];grind [JFG,lW];have g:=qY g;simp only[erp,opR]at g;obtain⟨a,r,g⟩:=bind_some g;obtain⟨c,hc,g⟩:=bind_some g;grind [JHQ];rename_i own t n ps;obtain⟨l,B,h⟩:=iI h;injection h with h;injection h with h1 h2;subst h1 h2;have P: ∀x∈ps.map (λx=>erO x.2),∀v,(ev x).run (JB s)=some v-> ∀b∈avR v,b∈rng new (cS (.lits own t n ps))++l:=by
  have a0: ∀(ps:List (Nat×TO)) (l:List Nat),tpR s ps=some l-> ∀x∈ps.map (λx=>erO x.2),∀v,(ev x).run (JB s)=some v-> ∀b∈avR v,b∈l:=by
   intro ps
   induction ps with
   |nil=>simp_all
   |cons p ps ih=>
    intro l B x K v w b D;obtain⟨i,o⟩:=p;simp only[tpR]at B;obtain⟨u,G,B⟩:=iI B;obtain⟨q,hq,B⟩:=iI B;injection B with B;subst B;simp only[bR,cL]at K;rcases K with rfl|K;rw[mA G w,lW]at D;simp[D];grind
  grind
 have J:(ps.map λx=>(x.1,erO x.2)).map (·.2)=ps.map λx=>erO x.2:=by simp
 refine⟨qR (op:=.lits own t n ps) (λj A=>zQ9.2 (.inl (zS A))) ?_,λe g y C=>?_⟩;grind [erp,opR,bV,El,cC,eN];have g:=qY g;simp only[erp,opR,J]at g;obtain⟨a,r,g⟩:=bind_some g;split at g;split at g;rename_i Z;injection g with g;subst g;simp only[zQ9,qG]at C;rcases C with C|rfl;exact YP P r y C;exact zQ9.2 (.inl (by have:=zS (k:=cS (.lits own t n ps)) (new:=new) (j:=0) (by simp[cS,Z]);grind));injection g with g;subst g;exact YP P r y C;cases g;rename_i t bytes y;obtain⟨v,w,h⟩:=iI h;injection h with h;injection h with h1 h2;subst h1 h2;refine⟨qR (op:=.appn t bytes y) (λj A=>by grind [cS]) (bV (nD _) λa r=>?_),λe g z I=>?_⟩;rw[mA w r];grind [bV,Gt,lW,cC,eN];have g:=qY g;simp only[erp,opR]at g;obtain⟨a,r,g⟩:=bind_some g;obtain⟨rows,_,g⟩:=bind_some g;split at g;injection g with g;grind;cases g;rename_i t bytes x y;obtain⟨v,w,h⟩:=iI h;obtain⟨u,G,h⟩:=iI h;injection h with h;injection h with h1 h2;subst h1 h2;refine⟨qR (op:=.app t bytes x y) (λj A=>by grind [cS]) (bV (nD _) λa r=>bV (nD _) λc hc=>?_),λe g z I=>?_⟩;rw[mA w r,mA G hc];grind [JLV,lW];have g:=qY g;simp only[erp,opR]at g;obtain⟨a,r,g⟩:=bind_some g;obtain⟨c,hc,g⟩:=bind_some g;have:=JKM g z I;rwa[mA w r,lW]at this;rename_i R x lo hi mx;obtain⟨v,w,h⟩:=iI h;injection h with h;injection h with h1 h2;subst h1 h2;refine⟨qR (op:=.slice R x lo hi mx) (λj A=>by grind [cS]) (bV (nD _) λa r=>bV (XZ _) λ_ _=>bV (XZ _) λ_ _=>bV (XZ _) λ_ _=>?_),λe g z I=>?_⟩;have e:=mA w r;grind [bV,KF,lW,cC,eN,E6];have g:=qY g;simp only[erp,opR]at g;obtain⟨a,r,g⟩:=bind_some g;obtain⟨_,_,g⟩:=bind_some g;obtain⟨_,_,g⟩:=bind_some g;obtain⟨_,_,g⟩:=bind_some g;have e0:=mA w r;split at g;obtain⟨y,C,g⟩:=bind_some g;split at g;split at g;injection g with g;grind [IU,lW];cases g;cases g;grind [PU];rename_i f args n;obtain⟨l,B,h⟩:=iI h;unfold tcU at h;obtain⟨ids,hi,h⟩:=iI h;injection h with h;injection h with h1 h2;subst h1 h2;obtain⟨xs,ws,V,i1,E,O,N,M⟩:=Fq hi;obtain⟨J,Q⟩:=zW B;rw[QY]at J;rw[MU _ _ (λx K=>by simp_all)]at E;have L: ∀x∈l.map (λx=>JY (lns s.sto) x.1),∀b∈avR x,b∈rng new n++(l.flatMap λx=>tvR x.1)++ids:=(by grind [lW]);have a1:Rb (· ∈rng new n++(l.flatMap λx=>tvR x.1)++ids) (jY (l.map λx=>JY (lns s.sto) x.1)) (JB s):=by rw[<-SI];grind [ME]
 have H: ∀y∈ws,y.1∈rng new n++(l.flatMap λx=>tvR x.1)++ids:=by rw[<-SI]at E;exact MG (S:=(· ∈rng new n++(l.flatMap λx=>tvR x.1)++ids)) L E
 obtain⟨T,Y⟩:=rh (F:=F) (f:=f) (S:=(· ∈rng new n++(l.flatMap λx=>tvR x.1)++ids)) (n:=n) (new:=new) (λb D=>by simp[D]) H
  (λj A=>by grind [zS]) O N M
 refine⟨qR (op:=.call f args n) (λj A=>by simp only[zQ9];exact .inl (.inl (zS A))) (bV (YY _) λa r=>?_),λe g y C=>?_⟩;grind [JHo];have g:=qY g;simp only[erp,opR]at g;obtain⟨a,r,g⟩:=bind_some g;grind [Hi];rename_i f args n;obtain⟨l,B,h⟩:=iI h;unfold tcU at h;obtain⟨ids,hi,h⟩:=iI h;injection h with h;injection h with h1 h2;subst h1 h2;obtain⟨xs,ws,V,i1,E,O,N,M⟩:=Fq hi;obtain⟨J,Q⟩:=zW B;have L: ∀x∈l.map (λx=>JY (lns s.sto) x.1),∀b∈avR x,b∈rng new n++(l.flatMap λx=>tvR x.1)++ids:=(by grind [lW]);rw[Q]at E;have H: ∀y∈ws,y.1∈rng new n++(l.flatMap λx=>tvR x.1)++ids:=MG (S:=(· ∈rng new n++(l.flatMap λx=>tvR x.1)++ids)) L E;obtain⟨T,Y⟩:=rh (F:=F) (f:=f) (S:=(· ∈rng new n++(l.flatMap λx=>tvR x.1)++ids)) (n:=n) (new:=new) (λb D=>by simp[D]) H
  (λj A=>by grind [zS]) O N M
 refine⟨qR (op:=.callo f args n) (λj A=>by simp only[zQ9];exact .inl (.inl (zS A))) (bV (YY _) λa r=>?_),λe g y C=>?_⟩;grind [bV,ME];have g:=qY g;simp only[erp,opR]at g;obtain⟨a,r,g⟩:=bind_some g;rw[J]at r;injection r with r;subst r;obtain⟨a,r,g⟩:=bind_some g;grind;cases h
abbrev nZ:=Option (List Nat×List Nat)
section
variable {R:Type}
def Bq(i:iS)(s:TSt):Bool:=match i.g with|none=>false|some (g,e)=>if i.dst=some g then false else match tlk g s.env with|some (.a (.c (.d .b x)))=>if x=e then false else true|some (.tup [])=>true|_=>false
def uwI(i:iS)(new:Nat)(s s':TSt):nZ:=if Bq i s'=true then some ([],[])else uw i.op new s
def PC(G:TG):List iS->Nat->TSt->List nZ->(TSt->List nZ->Option R)->Option R|[],_,s,l,k=>k s l|i::r,new,s,l,k=>VF G i new s λs'=>PC G r (new+cS i.op) s' (l++[uwI i new s s']) k
def tE:nZ->(List Nat×List Nat)->Prop|none,_=>True|some (U,W),x=>(∀b∈x.1,b∈U)/\ ∀b∈x.2,b∈W
def OI(l:List nZ):List (Nat×Nat)->Bool
 |[]=>true
 |(i,j)::r=>(match l[i]?,l[j]? with
  |some (some a),some (some b)=>fZ a.2 b.1&&fZ a.2 b.2&&fZ a.1 b.2
  |_,_=>false)&&OI l r
theorem MP{b:Nat}: ∀{l:List Loc},b∈jG l->Loc.blk b∈l
 | .blk c::r,h=>by
  simp only[jG,cL]at h;rcases h with rfl|h;simp;simp[MP h]
 | .slot n::r,h=>by simp only[jG]at h;simp[MP h]
theorem tE.snoc{l:List nZ}{l0:Log}{x:nZ}{y:List Nat×List Nat}(hl:l.length=l0.length)(ho: ∀(j:Nat) a b,l[j]?=some a->l0[j]?=some b->tE a b)(hx:tE x y)(j:Nat)(a:nZ)(b:List Nat×List Nat)(ha:(l++[x])[j]?=some a)(hb:(l0++[y])[j]?=some b):tE a b:=by
 grind
theorem JJD{F:Orc}{i:iS}{new:Nat}{s s':TSt}{e:Eff}(h:(bT F (eri i) new).run (JB s)=some e)(hp:put i.dst e (JB s)=JB s'):tE (uwI i new s s') (jG ((bT F (eri i) new).reads (JB s)),e.ws.map (·.1)):=by
 unfold uwI;split;rename_i k;unfold Bq at k;split at k;cases k;rename_i g n D;split at k;cases k;rename_i hd;have z:lk g (JB s').env=lk g (JB s).env:=(by rw[<-hp];unfold put;grind [lk]);have q: ∀v,tlk g s'.env=some v->lk g (JB s).env=some (JY (lns s'.sto) v):=λv B=>by
  rw[<-z];show lk g (fI _ s'.env)=_;grind [zM]
 split at k;rename_i x r;split at k;cases k;rename_i E;have o:=q _ r;rw[e_b]at o;have hi:bT F (eri i) new=.slot g fun
  | .p (.b x)=>if x=n then opD F (eri i).op new else .ret ⟨gG,[]⟩
  | .tup []=>.ret ⟨gG,[]⟩
  |_=>.fail:=by grind [bT,eri]
 rw[hi]at h⊢;refine⟨λb j=>?_,λb j=>?_⟩;have:=MP j;grind [RM.reads];grind [xA,JW];rename_i r;have o:=q _ r;have o:lk g (JB s).env=some (.tup []):=o;have hi:bT F (eri i) new=.slot g fun
  | .p (.b x)=>if x=n then opD F (eri i).op new else .ret ⟨gG,[]⟩
  | .tup []=>.ret ⟨gG,[]⟩
  |_=>.fail:=by grind [bT,eri]
 rw[hi]at h⊢;refine⟨λb j=>?_,λb j=>?_⟩;have:=MP j;grind [RM.reads];grind [xA,JW];cases k
 ·cases hu:uw i.op new s with
  |none=>trivial
  |some w=>
   obtain⟨U,W⟩:=w;obtain⟨h1,h2⟩:=JMK F hu;have C:Rb (· ∈U) (bT F (eri i) new) (JB s):=by
    unfold bT;split;exact h1
    ·refine G0 λv B=>?_;split
     split;exact h1;simp[cC]
     all_goals simp[cC,eN]
   refine⟨λb j=>C b (MP j),λb j=>?_⟩;obtain⟨y,A,rfl⟩:=oK.1 j;unfold bT at h;split at h;exact h2 e h y A;simp only[xA]at h;obtain⟨v,B,h⟩:=bJ.1 h;split at h;split at h;exact h2 e h y A;injection h with h;grind;injection h with h;grind;cases h
theorem pk{F:Orc}{G:TG}(v:GOk F G): ∀{ins:List iS} {new:Nat} {s:TSt} {l:List nZ} {l0:Log} {k:TSt->List nZ->Option R} {r:R},l.length=l0.length->(∀(j:Nat) a b,l[j]?=some a->l0[j]?=some b->tE a b)->
  PC G ins new s l k=some r-> ∃s' l' g,jE F (ins.map eri) new (JB s) l0=some (JB s',l')/\k s' g=some r/\g.length=l'.length/\ ∀(j:Nat) a b,g[j]?=some a->l'[j]?=some b->tE a b
 |[],new,s,l,l0,k,r,o,n,h=>⟨s,l0,l,rfl,h,o,n⟩
 |i::q,new,s,l,l0,k,r,o,n,h=>by
  simp only[PC]at h;obtain⟨e,s1,h1,h2,h⟩:=Gu v h;obtain⟨w,l',g,A,y,z,x⟩:=pk v (l0:=l0++[(jG ((bT F (eri i) new).reads (JB s)),e.ws.map (·.1))]) (by grind) (tE.snoc o n (JJD h1 h2)) h;refine⟨w,l',g,?_,y,z,x⟩;grind [jE,eri,LU]
theorem dq{a b e g:List Nat}(h:fZ e g=true)(ha: ∀x∈a,x∈e)(hb: ∀x∈b,x∈g):fZ a b=true:=by
 grind [fZ]
theorem pa{l:List nZ}{l':Log}(hl:l.length=l'.length)(ho: ∀(j:Nat) a b,l[j]?=some a->l'[j]?=some b->tE a b): ∀{ps:List (Nat×Nat)},OI l ps=true->FP l' ps=true
 |[],_=>rfl
 |(i,j)::r,h=>by
  simp only[OI,aT]at h;obtain⟨h1,h2⟩:=h;simp only[FP,aT];refine⟨?_,pa hl ho h2⟩;split at h1;rename_i a b n o;have hi:i<l'.length:=by grind
  have k:j<l'.length:=by grind
  have e:=ho i _ _ n (JX hi);have g:=ho j _ _ o (JX k);rw[JX hi,JX k];simp only[aT]at h1⊢;exact⟨⟨dq h1.1.1 e.2 g.1,dq h1.1.2 e.2 g.2⟩,dq h1.2 e.1 g.2⟩;cases h1
def lf(G:TG)(pairs:List (Nat×Nat))(ins:List iS)(s:TSt)(k:TSt->Option R):Option R:=
 match pairs with
 |[]=>VO G ins s.sto.length (OP (KL ins) s) k
 |p::ps=>PC G ins s.sto.length (OP (KL ins) s) [] λs' l=>if OI l (p::ps)=true then k s' else none
theorem JJK{F:Orc}{G:TG}(e:GOk F G){pairs:List (Nat×Nat)}{ins:List iS}{s:TSt}{k:TSt->Option R}{r:R}(h:lf G pairs ins s k=some r): ∃s',region F pairs (ins.map eri) (JB s)=some (JB s')/\k s'=some r:=by
 have hlen:(JB s).sto.length=s.sto.length:=by simp[JB]
 unfold lf at h;split at h;grind [Hl,region,dr,p7];obtain⟨s',l',n,h1,h2,v,q⟩:=pk e (l0:=[]) rfl (λj a b g o=>by simp at g) h;grind [region,dr,p7,pa]
end
end Go.Am
end
section
namespace Go.Am
def vU(m:Nat)(ids:List Nat)(s:TSt):TC->Option TC
 | .ptr b p=>if b<m then some (.ptr b p)else match eE b ids m with|some k=>some (.ptr k p)|none=>none
 | .slr b=>if b<m then some (.slr b)else match eE b ids m with|some k=>some (.slr k)|none=>match s.sto[b]? with|some (.arr _ t rows)=>some (.d (.l t) rows)|_=>none
 | .slo b n=>if b<m then some (.slo b n)else match eE b ids m with|some k=>some (.slo k n)|none=>none
 | .ep b i p=>if b<m then some (.ep b i p)else match eE b ids m with|some k=>some (.ep k i p)|none=>none
 | .epo b e i p=>if b<m then some (.epo b e i p)else match eE b ids m with|some k=>some (.epo k e i p)|none=>none
 | .pre _ _=>none
 | .pro _ _ _=>none
 | .suf _ _=>none
 | .suo _ _ _=>none
 |x=>some x
def zD(m:Nat)(ids:List Nat)(s:TSt):List TC->Option (List TC)|[]=>some []|x::r=>match vU m ids s x,zD m ids s r with|some y,some l=>some (y::l)|_,_=>none
def EG(m:Nat)(ids:List Nat)(s:TSt):TA->Option TA
 | .c x=>match vU m ids s x with|some y=>some (.c y)|none=>none
 | .dt t x=>some (.dt t x)
 | .m t cs=>match zD m ids s cs with
  |some l=>match asm t l with|some x=>some (.dt t x)|none=>if l.any VD=true then some (.m t l)else none
  |none=>none
 | .fn f a c=>match zD m ids s a,zD m ids s c with|some a,some c=>some (.fn f a c)|_,_=>none
def KT(m:Nat)(ids:List Nat)(s:TSt):List TA->Option (List TA)|[]=>some []|x::r=>match EG m ids s x,KT m ids s r with|some y,some l=>some (y::l)|_,_=>none
def mj(m:Nat)(ids:List Nat)(s:TSt):TV->Option TV
 | .a x=>match EG m ids s x with|some y=>some (.a y)|none=>none
 | .tup vs=>match KT m ids s vs with|some l=>some (.tup l)|none=>none
def KJ(m:Nat)(ids:List Nat)(s:TSt):TB->Option TB
 | .mbox t cs=>match zD m ids s cs with|some l=>some (mkb t l)|none=>none
 |x=>some x
def wK(m:Nat)(ids:List Nat)(s:TSt):List TB->Option (List TB)|[]=>some []|x::r=>match KJ m ids s x,wK m ids s r with|some y,some l=>some (y::l)|_,_=>none
def OU(m:Nat)(s:TSt):List (Nat×TV)->Option (List (Nat×TV))|[]=>some []|(k,x)::r=>match mj m [] s x,OU m s r with|some y,some l=>some ((k,y)::l)|_,_=>none
def oW:List Nat->List (Nat×TV)->List (Nat×TV)|[],_=>[]|k::r,env=>match tlk k env with|some v=>(k,v)::oW r env|none=>oW r env
theorem ML(L:Nat->Nat)(env:List (Nat×TV)): ∀live:List Nat,restr live (fI L env)=fI L (oW live env)
 |[]=>rfl
 |k::r=>by
  simp only[restr,oW,zM];cases tlk k env with
  |none=>exact ML L env r
  |some v=>
   have ih:=ML L env r;grind [fI]
section
variable {m:Nat} {ids:List Nat} {s:TSt} {L':Nat->Nat} (h1: ∀b,b<m->L' b=lns s.sto b) (h2: ∀b k,eE b ids m=some k->L' k=lns s.sto b)
include h1 h2
theorem py{x y:TC}(h:vU m ids s x=some y):fin m ids (JB s).sto (bB (lns s.sto) x)=some (bB L' y):=by
 cases x with
 |ptr b p=>
  grind [vU,bB,fin]
 |slr b=>
  simp only[vU]at h;simp only[bB,fin];split at h;grind
  ·rename_i g;rw[if_neg g];split at h
   all_goals grind [eB,XX,mC,cel,hdP]
 |slo b n=>
  grind [vU,bB,fin]
 |ep b i p=>
  grind [vU,bB,fin]
 |epo b e i p=>
  grind [vU,bB,fin]
 |_=>first|(cases h;done)|(injection h with h;subst h;rfl)
theorem QW: ∀{xs e:List TC},zD m ids s xs=some e->fin.finL m ids (JB s).sto (xs.map (bB (lns s.sto)))=some (e.map (bB L'))
 |[],e,h=>by injection h with h;subst h;rfl
 |x::r,e,h=>by
  simp only[zD]at h;split at h;rename_i y l j g;injection h with h;subst h;simp only[bR,fin.finL,py h1 h2 j,QW g];cases h
theorem o8{x y:TA}(h:EG m ids s x=some y):fin m ids (JB s).sto (bL (lns s.sto) x)=some (bL L' y):=by
 cases x with
 |c x=>
  simp only[EG]at h;split at h;rename_i y j;injection h with h;subst h;exact py h1 h2 j;cases h
 |dt t x=>injection h with h;subst h;rfl
 |m t cs=>
  simp only[EG]at h;split at h;rename_i l g;have e:=QW h1 h2 g;grind [bL,fin,KZ,MD,ZB];cases h
 |fn f a c=>
  grind [EG,bL,fin,QW]
theorem fk: ∀{xs e:List TA},KT m ids s xs=some e->fin.finL m ids (JB s).sto (xs.map (bL (lns s.sto)))=some (e.map (bL L'))
 |[],e,h=>by injection h with h;subst h;rfl
 |x::r,e,h=>by
  simp only[KT]at h;split at h;rename_i y l j g;injection h with h;subst h;simp only[bR,fin.finL,o8 h1 h2 j,fk g];cases h
theorem JH7{x y:TV}(h:mj m ids s x=some y):fin m ids (JB s).sto (JY (lns s.sto) x)=some (JY L' y):=by cases x<;>grind [mj,o8,JY,fin,fk]
theorem JFZ{x y:TB}(h:KJ m ids s x=some y):fT m ids (JB s).sto (aV (lns s.sto) x)=some (aV L' y):=by
 cases x with
 |mbox t cs=>
  grind [KJ,LR,fT,QW,QO]
 |box t x=>injection h with h;grind [EW,fT,sf]
 |_=>injection h with h;subst h;rfl
theorem RV: ∀{xs e:List TB},wK m ids s xs=some e->qI m ids (JB s).sto (xs.map (aV (lns s.sto)))=some (e.map (aV L'))
 |[],e,h=>by injection h with h;subst h;rfl
 |x::r,e,h=>by
  simp only[wK]at h;split at h;rename_i y l j g;injection h with h;subst h;simp only[bR,qI,JFZ h1 h2 j,RV g];cases h
end
theorem JF0{m:Nat}{ids:List Nat}{s:TSt}{x y:TB}(h:KJ m ids s x=some y):lnB y=lnB x:=by
 cases x with
 |mbox t cs=>
  simp only[KJ]at h;split at h;injection h with h;subst h;exact QH _ _;cases h
 |_=>injection h with h;subst h;rfl
theorem SH{m:Nat}{ids:List Nat}{s:TSt}: ∀{xs e:List TB},wK m ids s xs=some e->e.length=xs.length/\ ∀(k:Nat),lns e k=lns xs k
 |[],e,h=>by injection h with h;simp_all
 |x::r,e,h=>by
  simp only[wK]at h;split at h;rename_i y l j g;injection h with h;subst h;obtain⟨n,o⟩:=SH g;refine⟨by simp[n],λk=>?_⟩;cases k with
  |zero=>exact JF0 j
  |succ k=>exact o k
  cases h
theorem og{m:Nat}{s:TSt}{L':Nat->Nat}(h1: ∀b,b<m->L' b=lns s.sto b): ∀{env e:List (Nat×TV)},OU m s env=some e->vM m (JB s).sto (fI (lns s.sto) env)=some (fI L' e)
 |[],e,h=>by injection h with h;subst h;rfl
 |(k,x)::r,e,h=>by
  simp only[OU]at h;split at h;rename_i y l n j;injection h with h;subst h;simp only[fI,bR,vM];rw[JH7 (ids:=[]) h1 (λb k g=>by cases g) n];have ih:=og h1 j;grind [fI];cases h
def qV(n:Nat)(live:List Nat)(s:TSt):Option TSt:=
 if s.sto.length=n then some ⟨oW live s.env,s.sto⟩
 else match OU n s (oW live s.env),wK n [] s (s.sto.take n)with|some e,some l=>some ⟨e,l⟩|_,_=>none
theorem FV{n:Nat}{live:List Nat}{s s':TSt}(h:qV n live s=some s'):clean n live (JB s)=some (JB s'):=by
 unfold qV at h;have hlen:(JB s).sto.length=s.sto.length:=by simp[JB]
 split at h;grind [clean,JB,ML];rename_i o;split at h;rename_i e l q g;injection h with h;subst h;obtain⟨v,y⟩:=SH g;have hL: ∀b,b<n->lns l b=lns s.sto b:=λb r=>by
  grind [lns]
 unfold clean;rw[hlen,if_neg o];have x:=og hL q;have w:=RV (ids:=[]) hL (λb k j=>by cases j) g;grind [JB,ML,List.map_take];cases h
inductive yP where|tmp (t:Nat)|cell (t:Nat) (agg:Bool) (ty:Ty)
def erR:yP->vN| .tmp t=>.tmp t| .cell t agg ty=>.cell t agg ty.sz
def nh(agg:Bool)(ty:Ty)(v:TV)(s:TSt):Option TA:=
 if agg=true\/ty.sz=1 then
  match v with
  | .a (.c (.ptr b []))=>match s.sto[b]? with
   |some (.box t0 x)=>if h:t0=ty then(if agg=true then some (.dt ty (h▸x))else some (.c (.d ty (h▸x))))else none
   |some (.mbox _ cs)=>if cs.length=ty.sz then
    match mka agg ty cs with
    |some (.a x)=>some x
    |_=>none
    else none
   |_=>none
  |_=>none
 else none
theorem JFW{agg:Bool}{ty:Ty}{v:TV}{s:TSt}{x:TA}(h:nh agg ty v s=some x): ∃e,(gE agg ty.sz (JY (lns s.sto) v)).run (JB s)=some e/\e.val=bL (lns s.sto) x:=by
 unfold nh at h;split at h;rename_i r;split at h;rename_i b;split at h;rename_i t0 y g;split at h;rename_i k;subst k;refine⟨⟨bL (lns s.sto) x,[]⟩,?_,rfl⟩;have hc:kG agg ((cel t0 y).map .p)=nO agg (cel t0 y):=by
  unfold kG nO;split;rw[MD];cases hcel:cel t0 y with
  |nil=>rfl
  |cons a l=>cases l<;>rfl
 have j:sub (cel t0 y) 0 t0.sz=some (cel t0 y):=ZH (dY _ _);have q:=ES (lns s.sto) r y;simp only[jV,spo,gE,dX,eB,g,cT,JL,EW,FT,j,hc,q,val,JW];unfold mkv;split at h;rename_i h1;injection h with h;subst h;rw[if_pos h1];rfl;rename_i h1;injection h with h;subst h;rw[if_neg h1];rfl;cases h;rename_i cs g;split at h;rename_i o;split at h;rename_i y n;injection h with h;subst h;have j:sub cs 0 ty.sz=some cs:=ZH o;refine⟨⟨bL (lns s.sto) y,[]⟩,?_,rfl⟩;simp only[jV,spo,gE,dX,eB,g,cT,JL,LR,FT,j,EZ (lns s.sto) n,val,JW];rfl;cases h;cases h;cases h;cases h;cases h
def DM:List yP->TSt->Option (List TA)
 |[],_=>some []
 | .tmp t::r,s=>match tlk t s.env,DM r s with|some (.a x),some l=>some (x::l)|_,_=>none
 | .cell t agg ty::r,s=>match tlk t s.env with
  |some v=>match nh agg ty v s,DM r s with|some x,some l=>some (x::l)|_,_=>none
  |none=>none
theorem Hc(s:TSt)(t:Nat):(RM.slot t RM.ret).run (JB s)=(tlk t s.env).map (JY (lns s.sto)):=by rw[xA];show(lk t (fI _ s.env)).bind _=_;simp[zM]
theorem ZK{s:TSt}: ∀{k:List yP} {l:List TA},DM k s=some l->(mV (k.map erR)).run (JB s)=some (l.map (bL (lns s.sto)))
 |[],l,h=>by injection h with h;subst h;rfl
 | .tmp t::r,l,h=>by
  simp only[DM]at h;split at h;rename_i x l' j g;injection h with h;subst h;simp only[bR,erR,mV,run_bind,Hc,j,cT,JL,ZK g,JW];rfl;cases h
 | .cell t agg ty::r,l,h=>by
  simp only[DM]at h;split at h;rename_i v n;split at h;rename_i x l' j g;injection h with h;subst h;obtain⟨e,o,q⟩:=JFW j;simp only[bR,erR,mV,run_bind,Hc,n,cT,JL,o,ZK g,JW,q];cases h;cases h
def KA(s:TSt):List Nat->List Nat->Option (List Nat)
 |[],acc=>some acc
 |b::r,acc=>match s.sto[b]? with
  |some (.mbox _ cs)=>match vT cs acc with|some acc=>KA s r acc|none=>none
  |some _=>KA s r acc
  |none=>none
theorem RD{s:TSt}: ∀{r acc l:List Nat},KA s r acc=some l->qJ (JB s).sto (r.map .whole) (acc.map .whole)=l.map .whole
 |[],acc,l,h=>by injection h with h;subst h;rfl
 |b::r,acc,l,h=>by
  simp only[KA]at h;split at h;rename_i cs e;split at h;rename_i g j;simp only[bR,qJ,eB,e,cT,LR,MH (lns s.sto) j];exact RD h;cases h;rename_i x k e;simp only[bR,qJ,eB,e,cT];cases x with
  |mbox t cs=>simp_all
  |box t x=>simp only[EW];rw[rn];exact RD h
  |_=>exact RD h
  cases h
def kX(m:Nat)(fresh:Bool)(s:TSt):List Nat->List Nat
 |[]=>[]
 |b::r=>if b<m then kX m fresh s r else
  match s.sto[b]? with
  |some (.box _ _)=>b::kX m fresh s r
  |some (.mbox _ _)=>b::kX m fresh s r
  |some (.arr _ _ _)=>if fresh=true then b::kX m fresh s r else kX m fresh s r
  |_=>kX m fresh s r
theorem th{m:Nat}{fresh:Bool}{s:TSt}: ∀r:List Nat,jH m fresh (JB s).sto (r.map .whole)=kX m fresh s r
 |[]=>rfl
 |b::r=>by
  simp only[bR,jH,kX,eB];rw[th r];split;rfl;cases s.sto[b]? with
  |none=>rfl
  |some x=>cases x<;>rfl
def PE(s:TSt):List Nat->Option (List TB)|[]=>some []|b::r=>match s.sto[b]?,PE s r with|some x,some l=>some (x::l)|_,_=>none
theorem ol{s:TSt}: ∀{ids:List Nat} {l:List TB},PE s ids=some l->vV (JB s).sto ids=some (l.map (aV (lns s.sto)))/\l.length=ids.length/\ ∀(j b:Nat),ids[j]?=some b->lns l j=lns s.sto b
 |[],l,h=>by injection h with h;simp_all
 |b::r,l,h=>by
  simp only[PE]at h;split at h;rename_i x l' o e;injection h with h;subst h;obtain⟨g,n,k⟩:=ol e;grind [vV,eB,lns];cases h
def HK:List TA->TV|[x]=>.a x|l=>.tup l
theorem Gw(L:Nat->Nat)(l:List TA):one (l.map (bL L))=JY L (HK l):=by
 match l with
 |[]=>rfl
 |[x]=>rfl
 |x::y::r=>rfl
section
variable {R:Type}
def LS(res:List yP)(fresh:Bool)(m:Nat)(s:TSt)(E:TV->List TB->Option R):Option R:=
 match DM res s with
 |none=>none
 |some vs=>
  if s.sto.length=m then E (HK vs) s.sto
  else match EX vs []with
   |none=>none
   |some e=>match KA s e e with
    |none=>none
    |some i1=>if jD (kX m fresh s i1)=true/\m<=s.sto.length then
     match KT m (kX m fresh s i1) s vs,wK m (kX m fresh s i1) s (s.sto.take m),PE s (kX m fresh s i1)with
     |some ws,some l,some q=>match wK m (kX m fresh s i1) s q with|some q'=>E (HK ws) (l++q')|none=>none
     |_,_,_=>none
     else none
theorem JDA{f:AFn}{res:List yP}{fresh:Bool}{m:Nat}{s:TSt}{E:TV->List TB->Option R}{r:R}(n:f.res=res.map erR)(J:f.fresh=fresh)(h:LS res fresh m s E=some r):
  ∃v out,gV f m (JB s)=some (JY (lns out) v,out.map (aV (lns out)))/\E v out=some r:=by
 unfold LS at h;have hlen:(JB s).sto.length=s.sto.length:=by simp[JB]
 split at h;cases h;rename_i vs hvs;have C:=ZK hvs;split at h;rename_i z;refine⟨HK vs,s.sto,?_,h⟩;unfold gV;rw[n,C];dsimp only;rw[hlen,if_pos z,Gw];rfl;rename_i z;split at h;cases h;rename_i B x;split at h;cases h;rename_i i1 o;split at h;rename_i j;obtain⟨L,Z⟩:=j;generalize g:kX m fresh s i1=ids at*;split at h;rename_i ws l q w y F;split at h;rename_i q' e;refine⟨HK ws,l++q',?_,h⟩;obtain⟨U,G⟩:=SH y;obtain⟨S,O,M⟩:=ol F;obtain⟨P,T⟩:=SH e;have I:l.length=m:=by simp_all
 have h1: ∀b,b<m->lns (l++q') b=lns s.sto b:=λb W=>by
  have:=G b;grind [lns]
 have h2: ∀b k,eE b ids m=some k->lns (l++q') k=lns s.sto b:=λb k D=>by
  obtain⟨K,H⟩:=RW D;grind [lns]
 have e1:=fk h1 h2 w;have Y:=RV h1 h2 y;have e3:=RV h1 h2 e;have V:cF.entsOfL (vs.map (bL (lns s.sto))) []=B.map .whole:=RS (lns s.sto) (l:=[]) x;have N:=RD o;have A:=th (m:=m) (fresh:=fresh) (s:=s) i1;rw[g]at A;have Q:(JB s).sto.take m=(s.sto.take m).map (aV (lns s.sto)):=by simp[JB]
 grind [gV,Gw];cases h;cases h;cases h
end
end Go.Am
end
section
namespace Go.Am
inductive ShC where
 |d (t:Ty)
 |sc (t:Ty)
 |np
 |nf
 |un
 |ptr (b:Nat) (p:List Sp)
 |cp (t:Ty) (p:List Sp)
 |slr (b:Nat)
 |fn (f:FuncId)
 deriving DecidableEq
inductive ShA where
 |c (x:ShC)
 |dt (t:Ty)
 |m (t:Ty) (cs:List ShC)
 |fn (f:FuncId) (a c:List ShC)
 deriving DecidableEq
inductive ShV where
 |a (x:ShA)
 |tup (vs:List ShA)
 deriving DecidableEq
inductive ShB where
 |dead
 |box (t:Ty)
 |mbox (t:Ty) (cs:List ShC)
 |arr (w:Bool) (t:Ty)
 deriving DecidableEq
structure ShS where
 env:List (Nat×ShV)
 sto:List ShB
 deriving DecidableEq
abbrev Lf:=(t:Ty)×t.D
def shC:TC->Option (ShC×List Lf)| .d t x=>some (.d t,[⟨t,x⟩])| .sc t rows=>some (.sc t,[⟨.l t,rows⟩])| .np=>some (.np,[])| .nf=>some (.nf,[])| .un=>some (.un,[])| .ptr b p=>if(sQ p).isSome=true then some (.ptr b p,[])else none| .cp t x p=>if(sQ p).isSome=true then some (.cp t p,[⟨t,x⟩])else none| .slr b=>some (.slr b,[])| .fn f=>some (.fn f,[])|_=>none
def lf1(t:Ty)(l:List Lf):Option (t.D×List Lf):=
 match l with
 |⟨t',x⟩::r=>if h:t'=t then some (h▸x,r)else none
 |[]=>none
def mkC:ShC->List Lf->Option (TC×List Lf)
 | .d t,l=>match lf1 t l with|some (x,r)=>some (.d t x,r)|none=>none
 | .sc t,l=>match lf1 (.l t) l with|some (x,r)=>some (.sc t x,r)|none=>none
 | .np,l=>some (.np,l)
 | .nf,l=>some (.nf,l)
 | .un,l=>some (.un,l)
 | .ptr b p,l=>some (.ptr b p,l)
 | .cp t p,l=>match lf1 t l with|some (x,r)=>some (.cp t x p,r)|none=>none
 | .slr b,l=>some (.slr b,l)
 | .fn f,l=>some (.fn f,l)
theorem wJ(t:Ty)(x:t.D)(r:List Lf):lf1 t (⟨t,x⟩::r)=some (x,r):=by simp[lf1]
theorem KX{x:TC}{sh:ShC}{e:List Lf}(h:shC x=some (sh,e))(rest:List Lf):mkC sh (e++rest)=some (x,rest):=by
 cases x<;>simp only[shC]at h<;>first
  |(split at h
    simp only[Option.some.injEq,Prod.mk.injEq]at h;obtain⟨rfl,rfl⟩:=h;simp only[vR,oC,mkC,wJ];cases h)
  |(simp only[Option.some.injEq,Prod.mk.injEq]at h
    obtain⟨rfl,rfl⟩:=h;simp only[vR,oC,mkC,wJ])
  |cases h
def shL{α σ:Type}(f:α->Option (σ×List Lf)):List α->Option (List σ×List Lf)|[]=>some ([],[])|x::r=>match f x,shL f r with|some (s,l),some (q,k)=>some (s::q,l++k)|_,_=>none
def mkL{α σ:Type}(g:σ->List Lf->Option (α×List Lf)):List σ->List Lf->Option (List α×List Lf)
 |[],l=>some ([],l)
 |s::r,l=>match g s l with
  |some (x,l)=>match mkL g r l with|some (q,l)=>some (x::q,l)|none=>none
  |none=>none
theorem oU{α σ:Type}{f:α->Option (σ×List Lf)}{g:σ->List Lf->Option (α×List Lf)}(n: ∀{x:α} {s:σ} {e:List Lf},f x=some (s,e)-> ∀rest,g s (e++rest)=some (x,rest)):
  ∀{xs:List α} {j:List σ} {e:List Lf},shL f xs=some (j,e)-> ∀rest,mkL g j (e++rest)=some (xs,rest)
 |[],j,e,h,rest=>by injection h with h;injection h with h1 h2;subst h1 h2;rfl
 |x::r,j,e,h,rest=>by
  simp only[shL]at h;split at h;rename_i s l q k h1 h2;injection h with h;injection h with h3 h4;subst h3 h4;simp only[mkL,lL,n h1,oU n h2];cases h
def shA:TA->Option (ShA×List Lf)
 | .c x=>match shC x with|some (s,l)=>some (.c s,l)|none=>none
 | .dt t x=>some (.dt t,[⟨t,x⟩])
 | .m t cs=>match shL shC cs with|some (s,l)=>some (.m t s,l)|none=>none
 | .fn f a c=>match shL shC a,shL shC c with|some (s,l),some (q,k)=>some (.fn f s q,l++k)|_,_=>none
def mkA:ShA->List Lf->Option (TA×List Lf)
 | .c s,l=>match mkC s l with|some (x,l)=>some (.c x,l)|none=>none
 | .dt t,l=>match lf1 t l with|some (x,l)=>some (.dt t x,l)|none=>none
 | .m t s,l=>match mkL mkC s l with|some (x,l)=>some (.m t x,l)|none=>none
 | .fn f a c,l=>match mkL mkC a l with
  |some (x,l)=>match mkL mkC c l with|some (y,l)=>some (.fn f x y,l)|none=>none
  |none=>none
theorem YX{x:TA}{sh:ShA}{e:List Lf}(h:shA x=some (sh,e))(rest:List Lf):mkA sh (e++rest)=some (x,rest):=by
 cases x with
 |c x=>
  simp only[shA]at h;split at h;rename_i s l h1;injection h with h;injection h with h2 h3;subst h2 h3;simp only[mkA,KX h1];cases h
 |dt t x=>injection h with h;grind [mkA,wJ]
 |m t cs=>
  simp only[shA]at h;split at h;rename_i s l h1;injection h with h;injection h with h2 h3;subst h2 h3;simp only[mkA,oU KX h1];cases h
 |fn f a c=>
  simp only[shA]at h;split at h;rename_i s l q k h1 h2;injection h with h;injection h with h3 h4;subst h3 h4;simp only[mkA,lL,oU KX h1,oU KX h2];cases h
def shV:TV->Option (ShV×List Lf)
 | .a x=>match shA x with|some (s,l)=>some (.a s,l)|none=>none
 | .tup vs=>match shL shA vs with|some (s,l)=>some (.tup s,l)|none=>none
def mkV:ShV->List Lf->Option (TV×List Lf)
 | .a s,l=>match mkA s l with|some (x,l)=>some (.a x,l)|none=>none
 | .tup s,l=>match mkL mkA s l with|some (x,l)=>some (.tup x,l)|none=>none
theorem Er{x:TV}{sh:ShV}{e:List Lf}(h:shV x=some (sh,e))(rest:List Lf):mkV sh (e++rest)=some (x,rest):=by
 cases x with
 |a x=>
  simp only[shV]at h;split at h;rename_i s l h1;injection h with h;injection h with h2 h3;subst h2 h3;simp only[mkV,YX h1];cases h
 |tup vs=>
  simp only[shV]at h;split at h;rename_i s l h1;injection h with h;injection h with h2 h3;subst h2 h3;simp only[mkV,oU YX h1];cases h
def shB:TB->Option (ShB×List Lf)
 | .dead=>some (.dead,[])
 | .box t x=>some (.box t,[⟨t,x⟩])
 | .mbox t cs=>match shL shC cs with|some (s,l)=>some (.mbox t s,l)|none=>none
 | .arr w t rows=>some (.arr w t,[⟨.l t,rows⟩])
def mkB:ShB->List Lf->Option (TB×List Lf)
 | .dead,l=>some (.dead,l)
 | .box t,l=>match lf1 t l with|some (x,l)=>some (.box t x,l)|none=>none
 | .mbox t s,l=>match mkL mkC s l with|some (x,l)=>some (.mbox t x,l)|none=>none
 | .arr w t,l=>match lf1 (.l t) l with|some (x,l)=>some (.arr w t x,l)|none=>none
theorem YG{x:TB}{sh:ShB}{e:List Lf}(h:shB x=some (sh,e))(rest:List Lf):mkB sh (e++rest)=some (x,rest):=by
 cases x with
 |dead=>injection h with h;injection h with h2 h3;subst h2 h3;rfl
 |box t x=>injection h with h;grind [mkB,wJ]
 |mbox t cs=>
  simp only[shB]at h;split at h;rename_i s l h1;injection h with h;injection h with h2 h3;subst h2 h3;simp only[mkB,oU KX h1];cases h
 |arr w t rows=>injection h with h;grind [mkB,wJ]
def shE(x:Nat×TV):Option ((Nat×ShV)×List Lf):=match shV x.2 with|some (s,l)=>some ((x.1,s),l)|none=>none
def mkE(x:Nat×ShV)(l:List Lf):Option ((Nat×TV)×List Lf):=match mkV x.2 l with|some (v,l)=>some ((x.1,v),l)|none=>none
theorem JKl{x:Nat×TV}{sh:Nat×ShV}{e:List Lf}(h:shE x=some (sh,e))(rest:List Lf):mkE sh (e++rest)=some (x,rest):=by
 unfold shE at h;split at h;rename_i s l h1;injection h with h;injection h with h2 h3;subst h2 h3;simp only[mkE,Er h1];cases h
def shS(s:TSt):Option (ShS×List Lf):=match shL shE s.env,shL shB s.sto with|some (a,l),some (c,k)=>some (⟨a,c⟩,l++k)|_,_=>none
def vP(s:ShS)(l:List Lf):Option TSt:=match mkL mkE s.env l with
 |some (a,l)=>match mkL mkB s.sto l with|some (c,[])=>some ⟨a,c⟩|_=>none
 |none=>none
theorem Hq{x:TSt}{sh:ShS}{g:List Lf}(h:shS x=some (sh,g)):vP sh g=some x:=by
 unfold shS at h;split at h;rename_i a l c k h1 h2;injection h with h;injection h with h3 h4;subst h3 h4;have e:=oU YG h2 [];rw[jP]at e;simp only[vP,oU JKl h1,e];cases h
def tyL:List Ty->Ty|[]=>.u|[t]=>t|t::t'::r=>.pr t (tyL (t'::r))
def vO:(e:List Lf)->(tyL (e.map (·.1))).D|[]=>()|[x]=>x.2|x::y::r=>(x.2,vO (y::r))
def nF:(ts:List Ty)->(tyL ts).D->List Lf|[],_=>[]|[t],x=>[⟨t,x⟩]|t::t'::r,x=>⟨t,x.1⟩::nF (t'::r) x.2
theorem ey: ∀e:List Lf,nF (e.map (·.1)) (vO e)=e
 |[]=>rfl
 |[x]=>rfl
 |x::y::r=>by
  have:=ey (y::r);grind [nF,vO]
def asL(ts:List Ty)(e:List Lf):Option (tyL ts).D:=if h:e.map (·.1)=ts then some (h▸vO e)else none
theorem YJ{ts:List Ty}{e:List Lf}{x:(tyL ts).D}(h:asL ts e=some x):nF ts x=e:=by
 grind [asL,ey]
def DD(sh:ShS)(ts:List Ty)(s:TSt):Option (tyL ts).D:=match shS s with|some (e,g)=>if e=sh then asL ts g else none|none=>none
theorem Ff{sh:ShS}{ts:List Ty}{s:TSt}{x:(tyL ts).D}(h:DD sh ts s=some x):vP sh (nF ts x)=some s:=by
 grind [DD,YJ,Hq]
inductive TCo where|skip|bad|reg (draw:Bool) (pairs:List (Nat×Nat)) (ins:List iS)|seq (a b:TCo)|cond (c:TO) (a b:TCo)|block (id:Nat) (c:TCo)|loop (live:List Nat) (c:TCo)|scope (c:TCo)|exit (id:Nat)|ret|keep (live:List Nat) (c:TCo)|tidy (live:List Nat) (c:TCo)|jn (sh:ShS) (ts:List Ty) (a b:TCo)
def erc:TCo->bU| .skip=>.skip| .bad=>.bad| .reg d p ins=>.reg d p (ins.map eri)| .seq a b=>.seq (erc a) (erc b)| .cond c a b=>.cond (erO c) (erc a) (erc b)| .block id c=>.block id (erc c)| .loop live c=>.loop live (erc c)| .scope c=>.scope (erc c)| .exit id=>.exit id| .ret=>.ret| .keep live c=>.keep live (erc c)| .tidy live c=>.tidy live (erc c)| .jn sh _ a b=>.seq (erc a) (.keep (sh.env.map (·.1)) (erc b))
structure TK(R:Type) where
 n:TSt->Option R
 x:Nat->TSt->Option R
 r:TSt->Option R
def TK.at'{R:Type}(K:TK R):AX->TSt->Option R| .normal=>K.n| .exit i=>K.x i| .ret=>K.r
def rbO(c:TO)(v:Bool)(s:TSt):TSt:=match c with| .t n=>rb n (vb v) s| .c _=>s
def jnO{σ R:Type}(m:Option (σ⊕R))(f:σ->Option R):Option R:=match m with|some (.inl x)=>f x|some (.inr r)=>some r|none=>none
def inl?{σ R:Type}(m:Option σ):Option (σ⊕R):=match m with|some x=>some (.inl x)|none=>none
def onO{α R:Type}(m:Option α)(k:α->Option R):Option R:=match m with|some x=>k x|none=>none
theorem rH{α R:Type}{m:Option α}{k:α->Option R}{r:R}(h:onO m k=some r): ∃x,m=some x/\k x=some r:=by
 cases m with
 |none=>cases h
 |some x=>exact⟨x,rfl,h⟩
def UT{R:Type}(clean:TSt->Option TSt)(body:(TSt->Option R)->TSt->Option R):Nat->TSt->Option R|0,_=>none|k+1,s=>body (λs'=>onO (clean s') (UT clean body k)) s
def orO{σ R:Type}(m:Option σ)(f:Unit->Option R):Option (σ⊕R):=match m with|some x=>some (.inl x)|none=>(f ()).map .inr
noncomputable def trc(G:TG):TCo->(R:Type)->TK R->TSt->Option R
 | .skip,_,K,s=>K.n s
 | .bad,_,_,_=>none
 | .reg _ p ins,_,K,s=>lf G p ins s K.n
 | .seq a b,R,K,s=>trc G a R ⟨λs=>trc G b R K s,K.x,K.r⟩ s
 | .cond c a b,R,K,s=>match tev c s with|some (.a (.c (.d .b x)))=>if x=true then trc G a R K (rbO c true s)else trc G b R K (rbO c false s)|_=>none
 | .block id c,R,K,s=>trc G c R ⟨K.n,λi s=>if i=id then K.n s else K.x i s,K.r⟩ s
 | .loop live c,R,K,s=>onO (shS ⟨oW live s.env,s.sto⟩) fun(sh,e)=>
   J6 (λx:(tyL (e.map (·.1))).D=>onO (vP sh (nF (e.map (·.1)) x)) λs1=>
    trc G c ((tyL (e.map (·.1))).D⊕R) ⟨λs'=>onO (qV s.sto.length live s') λs'=>orO (DD sh (e.map (·.1)) s') λ_=>UT (qV s.sto.length live) (λagain s=>trc G c R ⟨again,K.x,K.r⟩ s) 3 s',λi s'=>(K.x i s').map .inr,λs'=>(K.r s').map .inr⟩ s1) (vO e)
 | .scope c,R,K,s=>trc G c R K s
 | .exit id,_,K,s=>K.x id s
 | .ret,_,K,s=>K.r s
 | .keep live c,R,K,s=>trc G c R K ⟨oW live s.env,s.sto⟩
 | .tidy live c,R,K,s=>trc G c R ⟨λs'=>onO (qV s.sto.length live s') K.n,λi s'=>onO (qV s.sto.length live s') (K.x i),λs'=>onO (qV s.sto.length live s') K.r⟩ s
 | .jn sh ts a b,R,K,s=>jnO (trc G a ((tyL ts).D⊕R) ⟨λs'=>inl? (DD sh ts ⟨oW (sh.env.map (·.1)) s'.env,s'.sto⟩),λi s'=>(K.x i s').map .inr,λs'=>(K.r s').map .inr⟩ s)
   λx=>onO (vP sh (nF ts x)) λs1=>trc G b R K s1
theorem dp(live:List Nat)(s:TSt):JB ⟨oW live s.env,s.sto⟩=⟨restr live (JB s).env,(JB s).sto⟩:=by simp[JB,ML]
theorem Dx{c:TO}{x:Bool}{s:TSt}(h:tev c s=some (vb x)):rbO c x s=s:=by
 cases c with
 |t n=>exact YK h
 |c v=>rfl
theorem JGV{σ R:Type}{m:Option σ}{o:σ⊕R}(h:inl? m=some o): ∃x,m=some x/\o=.inl x:=by
 cases m with
 |none=>cases h
 |some x=>injection h with h;simp_all
theorem kW{T:cZ}{G:TG}(q:GOk (AF T) G): ∀{c:TCo} {R:Type} {K:TK R} {s:TSt} {r:R},trc G c R K s=some r-> ∃o s',X T (erc c) (JB s)=some (o,JB s')/\K.at' o s'=some r
 | .skip,R,K,s,r,h=>⟨.normal,s,by simp[erc],h⟩
 | .bad,R,K,s,r,h=>by cases h
 | .reg d p ins,R,K,s,r,h=>by obtain⟨s',h1,h2⟩:=JJK q h;exact⟨.normal,s',by simp_all [erc,Dk],h2⟩
 | .seq a b,R,K,s,r,h=>by
  obtain⟨o,s1,h1,h2⟩:=kW q (c:=a) h;rw[erc,Dt,h1];cases o with
  |normal=>obtain⟨o,n,j,g⟩:=kW q (c:=b) h2;exact⟨o,n,j,g⟩
  |exit i=>exact⟨.exit i,s1,rfl,h2⟩
  |ret=>exact⟨.ret,s1,rfl,h2⟩
 | .cond c a b,R,K,s,r,h=>by
  unfold trc at h;split at h;rename_i x v;have e:evv (erO c) (JB s).env=some (.p (.b x)):=by rw[<-PL (erO c) (JB s),bW v];rfl
  rw[erc,JK4,e,Di];split at h;rename_i A;subst A;rw[Dx v]at h;simp only[if_true];exact kW q (c:=a) h;rename_i A;have:x=false:=by simpa using A
  subst this;rw[Dx v]at h;simp only[eI,if_false];exact kW q (c:=b) h;cases h
 | .block id c,R,K,s,r,h=>by
  obtain⟨o,s1,h1,h2⟩:=kW q (c:=c) h;rw[erc,JIC,h1];cases o with
  |normal=>exact⟨.normal,s1,rfl,h2⟩
  |exit i=>
   simp only[pe];simp only[TK.at']at h2;split at h2;rename_i hi;rw[if_pos hi];exact⟨.normal,s1,rfl,h2⟩;rename_i hi;rw[if_neg hi];exact⟨.exit i,s1,rfl,h2⟩
  |ret=>exact⟨.ret,s1,rfl,h2⟩
 | .loop live c,R,K,s,r,h=>by
  unfold trc at h;obtain⟨⟨sh,w⟩,M,h⟩:=rH h;dsimp only at h;have E: ∀(k:Nat) {n:TSt} {r:R},UT (qV s.sto.length live) (λagain s=>trc G c R ⟨again,K.x,K.r⟩ s) k n=some r->
    ∃o s',X T (.lp s.sto.length live (erc c)) (JB n)=some (o,JB s')/\K.at' o s'=some r:=by
   intro k
   induction k with
   |zero=>intro n r h;cases h
   |succ k ih=>
    intro n r h;obtain⟨o,B,h1,h2⟩:=kW q (c:=c) h;rw[lg,h1];cases o with
    |normal=>
     obtain⟨N,hc,h2⟩:=rH h2;grind [MN,FV]
    |exit i=>exact⟨.exit i,B,rfl,h2⟩
    |ret=>exact⟨.ret,B,rfl,h2⟩
  have C: ∀{x:(tyL (w.map (·.1))).D} {r:R},J6 (λx:(tyL (w.map (·.1))).D=>onO (vP sh (nF (w.map (·.1)) x)) λs1=>
    trc G c ((tyL (w.map (·.1))).D⊕R) ⟨λs'=>onO (qV s.sto.length live s') λs'=>orO (DD sh (w.map (·.1)) s') λ_=>UT (qV s.sto.length live) (λagain s=>trc G c R ⟨again,K.x,K.r⟩ s) 3 s',λi s'=>(K.x i s').map .inr,λs'=>(K.r s').map .inr⟩ s1) x=some r->
    ∃st,vP sh (nF (w.map (·.1)) x)=some st/\ ∃o s',X T (.lp s.sto.length live (erc c)) (JB st)=some (o,JB s')/\K.at' o s'=some r:=by
   intro x r L;refine fb (P:=fun(x:(tyL (w.map (·.1))).D) (r:R)=> ∃st,vP sh (nF (w.map (·.1)) x)=some st/\ ∃o s',X T (.lp s.sto.length live (erc c)) (JB st)=some (o,JB s')/\K.at' o s'=some r) ?_ ?_ L;intro x r v;obtain⟨st,z,v⟩:=rH v;obtain⟨o,s1,h1,h2⟩:=kW q (c:=c) v;refine⟨st,z,?_⟩;rw[lg,h1];cases o with
   |normal=>
    obtain⟨n,hc,h2⟩:=rH h2;unfold orO at h2;grind [Option.map_eq_some_iff,MN,FV]
   |exit i=>obtain⟨r',j,g⟩:=gA.1 h2;injection g with g;subst g;exact⟨.exit i,s1,rfl,j⟩
   |ret=>obtain⟨r',j,g⟩:=gA.1 h2;injection g with g;subst g;exact⟨.ret,s1,rfl,j⟩
   rintro x y r v ⟨st',I,o,B,J,H⟩;obtain⟨st,z,v⟩:=rH v;obtain⟨F,s1,h1,h2⟩:=kW q (c:=c) v;refine⟨st,z,?_⟩;rw[lg,h1];cases F with
   |normal=>
    obtain⟨n,hc,h2⟩:=rH h2;unfold orO at h2;grind [Ff,MN,FV,Option.map_eq_some_iff]
   |exit i=>obtain⟨r',_,g⟩:=gA.1 h2;cases g
   |ret=>obtain⟨r',_,g⟩:=gA.1 h2;cases g
  obtain⟨st,z,o,s',h1,h2⟩:=C h;rw[ey,Hq M]at z;grind [erc,JB,JLk,dp]
 | .scope c,R,K,s,r,h=>by
  obtain⟨o,s1,h1,h2⟩:=kW q (c:=c) h;grind [erc,JIZ]
 | .exit id,R,K,s,r,h=>⟨.exit id,s,by simp[erc],h⟩
 | .ret,R,K,s,r,h=>⟨.ret,s,by rw[erc,JMW],h⟩
 | .keep live c,R,K,s,r,h=>by
  obtain⟨o,s1,h1,h2⟩:=kW q (c:=c) h;grind [erc,D1,dp]
 | .tidy live c,R,K,s,r,h=>by
  obtain⟨o,s1,h1,h2⟩:=kW q (c:=c) h;rw[erc,JKD,h1,Ls,show(JB s).sto.length=s.sto.length by simp[JB]];cases o with
  |normal=>obtain⟨n,j,g⟩:=rH h2;rw[FV j];exact⟨.normal,n,rfl,g⟩
  |exit i=>obtain⟨n,j,g⟩:=rH h2;rw[FV j];exact⟨.exit i,n,rfl,g⟩
  |ret=>obtain⟨n,j,g⟩:=rH h2;rw[FV j];exact⟨.ret,n,rfl,g⟩
 | .jn sh ts a b,R,K,s,r,h=>by
  unfold trc at h;rw[erc,Dt];cases ho:trc G a ((tyL ts).D⊕R) ⟨λs'=>inl? (DD sh ts ⟨oW (sh.env.map (·.1)) s'.env,s'.sto⟩),λi s'=>(K.x i s').map .inr,λs'=>(K.r s').map .inr⟩ s with
  |none=>rw[ho]at h;cases h
  |some res=>
   rw[ho]at h;obtain⟨o,s1,h1,h2⟩:=kW q (c:=a) ho;rw[h1];cases o with
   |normal=>
    obtain⟨x,v,rfl⟩:=JGV h2;obtain⟨n,j,g⟩:=rH h;rw[Ff v]at j;injection j with j;subst j;obtain⟨o,B,J,H⟩:=kW q (c:=b) g;grind [MN,D1,dp]
   |exit i=>obtain⟨r',j,g⟩:=gA.1 h2;subst g;injection h with h;subst h;exact⟨.exit i,s1,rfl,j⟩
   |ret=>obtain⟨r',j,g⟩:=gA.1 h2;subst g;injection h with h;subst h;exact⟨.ret,s1,rfl,j⟩
end Go.Am
end
section
namespace Go.Am
structure TFn where
 np:Nat
 nt:Nat
 body:TCo
 res:List yP
 fresh:Bool
def aM(f:TFn):AFn:=⟨f.np,f.nt,erc f.body,f.res.map erR,f.fresh⟩
def KR:Nat->List TA->List (Nat×TV)|_,[]=>[]|k,x::r=>(k,.a x)::KR (k+1) r
theorem pn(L:Nat->Nat): ∀(k:Nat) (xs:List TA),iT k (xs.map (bL L))=fI L (KR k xs)|_,[]=>rfl|k,x::r=>by have:=pn L (k+1) r;simp only[bR,iT,KR,fI,this];rfl
noncomputable def lO(G:TG)(f:TFn){R:Type}(xs:List TA)(bl:List TB)(E:TV->List TB->Option R):Option R:=if xs.length=f.np then trc G f.body R ⟨λs=>LS f.res f.fresh bl.length s E,λ_ _=>none,λs=>LS f.res f.fresh bl.length s E⟩ ⟨KR 0 xs,bl⟩else none
theorem G4{T:cZ}{G:TG}(e:GOk (AF T) G){g:FuncId}{f:TFn}(hf:T g=some (.fn (aM f))){R:Type}{xs:List TA}{bl:List TB}{E:TV->List TB->Option R}{r:R}(h:lO G f xs bl E=some r):
  ∃v out,AF T g (xs.map (bL (lns bl))) (bl.map (aV (lns bl)))=some (JY (lns out) v,out.map (aV (lns out)))/\E v out=some r:=by
 unfold lO at h;split at h;rename_i y;obtain⟨o,s',h1,h2⟩:=kW e h;have j:JB ⟨KR 0 xs,bl⟩=⟨iT 0 (xs.map (bL (lns bl))),bl.map (aV (lns bl))⟩:=by simp[JB,pn]
 rw[j]at h1;have fin:LS f.res f.fresh bl.length s' E=some r-> ∃v out,gV (aM f) bl.length (JB s')=some (JY (lns out) v,out.map (aV (lns out)))/\E v out=some r:=
  λh=>JDA rfl rfl h
 have z: ∀q,gV (aM f) bl.length (JB s')=some q->(o=.normal\/o=.ret)->AF T g (xs.map (bL (lns bl))) (bl.map (aV (lns bl)))=some q:=by intro q k w;rw[JNc T hf,if_pos (by rw[fE];exact y),show(aM f).body=erc f.body from rfl,h1,fE];rcases w with rfl|rfl<;>exact k
 cases o with
 |normal=>
  obtain⟨v,out,x,n⟩:=fin h2;grind
 |exit i=>cases h2
 |ret=>
  obtain⟨v,out,x,n⟩:=fin h2;grind
 cases h
structure TE where
 f:FuncId
 go: ∀{R:Type},List TA->List TB->(TV->List (Bool×TB)->Option R)->Option R
 fit:List TA->List TB->Bool
structure EOk(F:Orc)(e:TE):Prop where
 ok: ∀{R:Type} {xs:List TA} {bl:List TB} {kk:TV->List (Bool×TB)->Option R} {r:R},e.go xs bl kk=some r->
  ∃v out,F e.f (xs.map (bL (lns bl))) (bl.map (aV (lns bl)))=some (JY (nX out) v,out.map λx=>aV (nX out) x.2)/\
   (∀(k:Nat) x,out[k]?=some (true,x)->k<bl.length->lnB x=lns bl k)/\kk v out=some r
def goE{R:Type}(f:FuncId)(xs:List TA)(bl:List TB)(kk:TV->List (Bool×TB)->Option R):List TE->Option R|[]=>none|e::r=>if f=e.f/\e.fit xs bl=true then e.go xs bl kk else goE f xs bl kk r
def TG.of(l:List TE):TG:=⟨λf xs bl kk=>goE f xs bl kk l⟩
def tC(F:Orc):List TE->Prop|[]=>True|e::r=>EOk F e/\tC F r
theorem D7{F:Orc}{R:Type}{f:FuncId}{xs:List TA}{bl:List TB}{kk:TV->List (Bool×TB)->Option R}{r:R}: ∀{l:List TE},tC F l->goE f xs bl kk l=some r->
  ∃v out,F f (xs.map (bL (lns bl))) (bl.map (aV (lns bl)))=some (JY (nX out) v,out.map λx=>aV (nX out) x.2)/\
   (∀(k:Nat) x,out[k]?=some (true,x)->k<bl.length->lnB x=lns bl k)/\kk v out=some r
 |[],_,h=>by cases h
 |e::l,g,h=>by
  simp only[goE]at h;split at h;rename_i j;obtain⟨rfl,_⟩:=j;exact g.1.ok h;exact D7 g.2 h
theorem D9{F:Orc}{l:List TE}(h:tC F l):GOk F (TG.of l):=⟨λe=>D7 h e⟩
structure Sig where
 args:List ShA
 blks:List ShB
 ti:List Ty
 res:ShV
 out:List ShB
 same:List Bool
 to:List Ty
def gN(g:Sig)(x:(tyL g.ti).D):Option (List TA×List TB):=match mkL mkA g.args (nF g.ti x)with
 |some (xs,l)=>match mkL mkB g.blks l with|some (bl,[])=>some (xs,bl)|_=>none
 |none=>none
def sW(g:Sig)(xs:List TA)(bl:List TB):Option (tyL g.ti).D:=match shL shA xs,shL shB bl with|some (a,l),some (c,k)=>if a=g.args/\c=g.blks then asL g.ti (l++k)else none|_,_=>none
theorem Hg{g:Sig}{xs:List TA}{bl:List TB}{x:(tyL g.ti).D}(h:sW g xs bl=some x):gN g x=some (xs,bl):=by
 unfold sW at h;split at h;rename_i a l c k h1 h2;split at h;rename_i j;obtain⟨rfl,rfl⟩:=j;have e:=oU YG h2 [];rw[jP]at e;unfold gN;rw[YJ h,oU YX h1 k];simp only[e];cases h;cases h
def EH(g:Sig)(y:(tyL g.to).D):Option (TV×List TB):=match mkV g.res (nF g.to y)with
 |some (v,l)=>match mkL mkB g.out l with|some (out,[])=>some (v,out)|_=>none
 |none=>none
def hM(g:Sig)(v:TV)(out:List TB):Option (tyL g.to).D:=match shV v,shL shB out with|some (a,l),some (c,k)=>if a=g.res/\c=g.out then asL g.to (l++k)else none|_,_=>none
theorem o7{g:Sig}{v:TV}{out:List TB}{y:(tyL g.to).D}(h:hM g v out=some y):EH g y=some (v,out):=by
 unfold hM at h;split at h;rename_i a l c k h1 h2;split at h;rename_i j;obtain⟨rfl,rfl⟩:=j;have e:=oU YG h2 [];rw[jP]at e;unfold EH;rw[YJ h,Er h1 k];simp only[e];cases h;cases h
def flg(same:List Bool)(out:List TB):List (Bool×TB):=match same,out with|b::r,x::l=>(b,x)::flg r l|[],x::l=>(false,x)::flg [] l|_,[]=>[]
theorem wU: ∀(same:List Bool) (out:List TB),(flg same out).map (·.2)=out|[],[]=>rfl|[],x::l=>by simp only[flg,bR,wU [] l]|b::r,[]=>rfl|b::r,x::l=>by simp only[flg,bR,wU r l]
def aF(f:FuncId)(g:Sig)(S:(tyL g.ti).D->Option (tyL g.to).D):TE:=
 ⟨f,λxs bl kk=>match sW g xs bl with
  |some x=>(S x).bind λy=>match EH g y with|some (v,out)=>kk v (flg g.same out)|none=>none
  |none=>none,λxs bl=>(sW g xs bl).isSome⟩
def ky:ShB->Bool| .arr _ _=>false|_=>true
def FC(g:Sig):Bool:=(List.range g.same.length).all λk=>match g.same[k]?,g.blks[k]?,g.out[k]? with|some true,some a,some c=>ky a&&ky c|some true,some _,none=>false|_,_,_=>true
theorem pd{x:TB}{s:ShB}{e:List Lf}(h:shB x=some (s,e))(hb:ky s=true):lnB x=0:=by
 cases x with
 |arr w t rows=>injection h with h;injection h with h1;subst h1;cases hb
 |_=>rfl
theorem XR{α σ:Type}{f:α->Option (σ×List Lf)}: ∀{xs:List α} {e:List σ} {j:List Lf},shL f xs=some (e,j)-> ∀(k:Nat) x,xs[k]?=some x-> ∃s l,e[k]?=some s/\f x=some (s,l)
 |[],_,_,_,k,x,g=>by simp at g
 |y::r,e,j,h,k,x,g=>by
  simp only[shL]at h;split at h;rename_i s l q k' h1 h2;injection h with h;injection h with h3 h4;subst h3 h4;cases k with
  |zero=>simp_all
  |succ k=>exact XR h2 k x (by simpa using g)
  cases h
theorem PW: ∀{same:List Bool} {out:List TB} {k:Nat} {x:TB},(flg same out)[k]?=some (true,x)->same[k]?=some true/\out[k]?=some x
 |[],[],k,x,h=>by simp[flg]at h
 |[],y::l,k,x,h=>by
  cases k with
  |zero=>simp[flg]at h
  |succ k=>simp only[flg,List.getElem?_cons_succ]at h;have:=PW (same:=[]) h;simp at this
 |b::r,[],k,x,h=>by simp[flg]at h
 |b::r,y::l,k,x,h=>by
  cases k with
  |zero=>grind [flg]
  |succ k=>simp only[flg,List.getElem?_cons_succ]at h;simpa using PW h
theorem LO{T:cZ}{f:FuncId}{g:Sig}{S:(tyL g.ti).D->Option (tyL g.to).D}(hs:FC g=true)
  (h: ∀x xs bl y,gN g x=some (xs,bl)->S x=some y-> ∃v out,AF T f (xs.map (bL (lns bl))) (bl.map (aV (lns bl)))=some (JY (lns out) v,out.map (aV (lns out)))/\hM g v out=some y):EOk (AF T) (aF f g S):=by
 refine⟨fun{R xs bl kk r} j=>?_⟩;simp only[aF]at j;split at j;rename_i x n;obtain⟨y,L,j⟩:=bJ.1 j;split at j;rename_i v out o;obtain⟨C,e,h1,h2⟩:=h x xs bl y (Hg n) L;rw[o7 h2]at o;injection o with o;injection o with hv1 hv2;subst hv1 hv2;refine⟨C,flg g.same e,?_,λk z K A=>?_,j⟩;unfold nX;rw[wU];have:(flg g.same e).map (λx=>aV (lns e) x.2)=e.map (aV (lns e)):=by
  conv=>rhs;rw[<-wU g.same e,DN]
  simp[wU]
 rw[this];exact h1;obtain⟨q,w⟩:=PW K;unfold FC at hs;rw[List.all_eq_true]at hs;have hs:=hs k (by grind);unfold sW at n;split at n;rename_i a l c k' V J;split at n;rename_i H;obtain⟨U,P,I,M⟩:=XR J k _ (JX A);unfold hM at h2;split at h2;rename_i Y Z O Q W G;split at h2;rename_i B;obtain⟨sc,N,F,E⟩:=XR G k z w;rw[q,<-H.2,I,<-B.2,F]at hs;simp only[aT]at hs;rw[pd E hs.2];unfold lns;rw[JX A];exact(pd M hs.1).symm;cases h2;cases h2;cases n;cases n;cases j;cases j
theorem na{T:cZ}{f:FuncId}{g:Sig}{fn:TFn}{S:(tyL g.ti).D->Option (tyL g.to).D}{l:List TE}(hf:T f=some (.fn (aM fn)))(hl:tC (AF T) l)(hs:FC g=true)
  (h: ∀x,onO (gN g x) (λy=>lO (TG.of l) fn y.1 y.2 (hM g))=S x):EOk (AF T) (aF f g S):=by
 refine LO hs λx xs bl y k j=>?_;have e:=h x;rw[k,j]at e;exact G4 (D9 hl) hf e
def iU{α β:Type}(S:(α->Option β)->α->Option β):Nat->α->Option β|0=>λ_=>none|n+1=>S (iU S n)
theorem YS{T:cZ}{f:FuncId}{g:Sig}{fn:TFn}{S:((tyL g.ti).D->Option (tyL g.to).D)->(tyL g.ti).D->Option (tyL g.to).D}{l:List TE}(hf:T f=some (.fn (aM fn)))(hl:tC (AF T) l)(hs:FC g=true)
  (h: ∀r x,onO (gN g x) (λy=>lO (TG.of (aF f g r::l)) fn y.1 y.2 (hM g))=S r x): ∀n,EOk (AF T) (aF f g (iU S n))
 |0=>LO hs λx xs bl y j e=>by cases e
 |n+1=>na hf (l:=aF f g (iU S n)::l) (And.intro (YS hf hl hs h n) hl) hs (h (iU S n))
end Go.Am
end
section
namespace Go.Am
end Go.Am
end
section
namespace Go.Am
end Go.Am
end
section
namespace Go.Am
noncomputable section
structure DS where
 i:Nat
 stk:List Nat
 last:Nat
 lv:List (List Nat)
variable {R:Type}
def frc(n:Nat)(k:Nat->R)(z:R):R:=Nat.rec (motive:=λ_=>R) z (λm _=>k m) (Nat.add n 1)
def lkL{α:Type}:List α->Nat->R->(α->R)->R|[],_,z,_=>z|a::_,0,_,k=>k a|_::r,n+1,z,k=>lkL r n z k
structure DT where
 D:Nat
 V:Nat
 tys:List Ty
 tvs:List TV
 bts:List TBT
 ops:List BinOp
 uns:List UnOp
 cks:List CK
def exs(D V:Nat)(z:R)(k:Nat->List Nat->R):Nat->Nat->List Nat->R
 |0,_,_=>z
 |f+1,s,st=>cond (Nat.ble V s)
  (frc (Nat.shiftRight D (Nat.mul 22 (Nat.sub s V))) (λp=>frc (Nat.mod p 2048) (λa=>frc (Nat.mod (Nat.shiftRight p 11) 2048) (λb=>exs D V z k f a (b::st)) z) z) z)
  (k s st)
variable (T:DT) (N:Nat) (z:R)
def sym(s:DS)(k:Nat->DS->R):R:=match s with|⟨i,[],la,lv⟩=>frc (Nat.mod (Nat.shiftRight N (Nat.mul 11 i)) 2048) (λc=>frc (Nat.add i 1) (λj=>exs T.D T.V z (λa st=>k a ⟨j,st,la,lv⟩) 60 c []) z) z|⟨i,c::r,la,lv⟩=>exs T.D T.V z (λa st=>k a ⟨i,st,la,lv⟩) 60 c r
def big(a:Nat)(s:DS)(k:Nat->DS->R):R:=cond (Nat.ble 64 a) (sym T N z s λb s=>frc (Nat.add (Nat.mul (Nat.sub a 64) 64) b) (λn=>k n s) z) (k a s)
def num(s:DS)(k:Nat->DS->R):R:=sym T N z s λa s=>big T N z a s k
def B3{α:Type}(e:DS->(α->DS->R)->R):Nat->DS->(List α->DS->R)->R|0,s,k=>k [] s|n+1,s,k=>e s λx s=>B3 e n s λr s=>k (x::r) s
def lst{α:Type}(e:DS->(α->DS->R)->R)(s:DS)(k:List α->DS->R):R:=num T N z s λn s=>B3 e n s k
def tab{α:Type}(l:List α)(s:DS)(k:α->DS->R):R:=num T N z s λn s=>lkL l n z λv=>k v s
def dB(s:DS)(k:Bool->DS->R):R:=tab T N z [false,true] s k
def dT(s:DS)(k:Ty->DS->R):R:=tab T N z T.tys s k
def dO(s:DS)(k:TO->DS->R):R:=sym T N z s λa s=>cond (Nat.ble 200 a) (frc (Nat.sub s.last (Nat.sub a 200)) (λn=>k (.t n) s) z) (cond (Nat.beq a 199) (tab T N z T.tvs s λv s=>k (.c v) s) (big T N z a s λn s=>k (.t n) s))
def dM(s:DS)(k:Option TO->DS->R):R:=sym T N z s λa s=>cond (Nat.beq a 198) (k none s) (dO T N z s λx s=>k (some x) s)
def dP3(s:DS)(k:(Nat×Ty×TO)->DS->R):R:=num T N z s λn s=>dT T N z s λt s=>dO T N z s λx s=>k (n,t,x) s
def dP2(s:DS)(k:(Nat×TO)->DS->R):R:=num T N z s λn s=>dO T N z s λx s=>k (n,x) s
def dPT(s:DS)(k:(Nat×Ty)->DS->R):R:=num T N z s λn s=>dT T N z s λx s=>k (n,x) s
def dPB(s:DS)(k:(TO×Bool)->DS->R):R:=dO T N z s λx s=>dB T N z s λb s=>k (x,b) s
def dNN(s:DS)(k:(Nat×Nat)->DS->R):R:=num T N z s λn s=>num T N z s λm s=>k (n,m) s
def Cw:List (DS->(TOp->DS->R)->R):=[λs k=>dO T N z s λx s=>k (.mv x) s,λs k=>dB T N z s λb s=>dT T N z s λt s=>dO T N z s λx s=>k (.load b t x) s,λs k=>num T N z s λn s=>dO T N z s λx s=>k (.faddr n x) s,λs k=>tab T N z T.ops s λp s=>tab T N z T.bts s λb s=>dO T N z s λx s=>dO T N z s λy s=>k (.bin p b x y) s,λs k=>dT T N z s λt s=>dO T N z s λx s=>dO T N z s λy s=>k (.store t x y) s,λs k=>num T N z s λf s=>lst T N z (dO T N z) s λa s=>num T N z s λn s=>k (.call f a n) s,λs k=>dO T N z s λx s=>num T N z s λn s=>k (.extr x n) s,λs k=>dO T N z s λc s=>dO T N z s λx s=>dO T N z s λy s=>k (.pick c x y) s,λs k=>dT T N z s λt s=>k (.newbox t) s,λs k=>dT T N z s λt s=>dO T N z s λx s=>k (.box t x) s,λs k=>dT T N z s λt s=>lst T N z (dP3 T N z) s λp s=>k (.build t p) s,λs k=>dT T N z s λt s=>dO T N z s λx s=>dO T N z s λy s=>k (.iaddr t x y) s,λs k=>dB T N z s λb s=>dO T N z s λx s=>k (.len b x) s,λs k=>tab T N z T.uns s λp s=>dO T N z s λx s=>k (.un p x) s,λs k=>dO T N z s λx s=>k (.nilchk x) s,λs k=>dT T N z s λt s=>num T N z s λn s=>dO T N z s λx s=>dO T N z s λy s=>k (.app t n x y) s,λs k=>dB T N z s λb s=>dT T N z s λt s=>num T N z s λn s=>lst T N z (dP2 T N z) s λp s=>k (.lits b t n p) s,λs k=>num T N z s λn s=>cond (Nat.beq n 0) (dO T N z s λx s=>dM T N z s λa s=>dM T N z s λb s=>dM T N z s λc s=>k (.slice .str x a b c) s) (dT T N z s λt s=>dO T N z s λx s=>dM T N z s λa s=>dM T N z s λb s=>dM T N z s λc s=>k (.slice (.sl t) x a b c) s),λs k=>dT T N z s λt s=>lst T N z (dP3 T N z) s λp s=>lst T N z (dPT T N z) s λo s=>k (.buildo t p o) s,λs k=>tab T N z T.cks s λc s=>dO T N z s λx s=>k (.conv c x) s,λs k=>dT T N z s λt s=>dO T N z s λx s=>k (.mkarr t x) s,λs k=>dT T N z s λt s=>num T N z s λn s=>dO T N z s λy s=>k (.appn t n y) s,λs k=>dT T N z s λt s=>lst T N z (dPT T N z) s λo s=>k (.newboxo t o) s,λs k=>num T N z s λn s=>num T N z s λm s=>dO T N z s λx s=>dO T N z s λy s=>k (.aaddr n m x y) s,λs k=>dB T N z s λb s=>dO T N z s λx s=>dO T N z s λy s=>k (.mm b x y) s,λs k=>num T N z s λf s=>lst T N z (dPB T N z) s λa s=>num T N z s λn s=>k (.callo f a n) s,λs k=>dB T N z s λb s=>dT T N z s λt s=>num T N z s λn s=>dO T N z s λx s=>dO T N z s λy s=>k (.mkslice b t n x y) s,λs k=>dT T N z s λt s=>dO T N z s λx s=>k (.storen t x) s,λs k=>dO T N z s λx s=>dO T N z s λy s=>k (.sidx x y) s,λs k=>dO T N z s λx s=>lst T N z (dO T N z) s λa s=>num T N z s λn s=>k (.callv x a n) s,λ_ _=>z,λs k=>dB T N z s λb s=>num T N z s λn s=>dT T N z s λt s=>dO T N z s λx s=>k (.field b n t x) s,λs k=>dB T N z s λb s=>num T N z s λn s=>dT T N z s λt s=>dO T N z s λx s=>dO T N z s λy s=>k (.aidx b n t x y) s,λ_ _=>z,λ_ _=>z,λ_ _=>z,λ_ _=>z,λ_ _=>z,λ_ _=>z]
def dD(s:DS)(k:Option Nat->DS->R):R:=num T N z s λd s=>lkL [0] d (cond (Nat.beq d 1) (frc (Nat.add s.last 1) (λn=>k (some n) ⟨s.i,s.stk,n,s.lv⟩) z) (frc (Nat.sub d 2) (λn=>k (some n) ⟨s.i,s.stk,n,s.lv⟩) z)) λ_=>k none s
def dI(s:DS)(k:iS->DS->R):R:=sym T N z s λa s=>cond (Nat.ble 168 a) (frc (Nat.sub a 168) (λa=>lkL (Cw T N z) a z λh=>h s λp s=>dD T N z s λd s=>num T N z s λn s=>dB T N z s λb s=>k ⟨p,d,some (n,b)⟩ s) z) (frc (Nat.sub a 128) (λa=>lkL (Cw T N z) a z λh=>h s λp s=>dD T N z s λd s=>k ⟨p,d,none⟩ s) z)
def dL(s:DS)(k:List Nat->DS->R):R:=num T N z s λn s=>cond (Nat.beq n 0) (lst T N z (num T N z) s λl s=>k l ⟨s.i,s.stk,s.last,l::s.lv⟩) (frc (Nat.sub n 1) (λn=>lkL s.lv n z λl=>k l s) z)
def dC:Nat->DS->(TCo->DS->R)->R
 |0,_,_=>z
 |f+1,s,k=>sym T N z s λa s=>frc (Nat.sub a 180) (λa=>lkL [
  λs k=>k .skip s,
  λs k=>lst T N z (dI T N z) s λl s=>k (.reg false [] l) s,
  λs k=>dC f s λa s=>dC f s λb s=>k (.seq a b) s,
  λs k=>dO T N z s λc s=>dC f s λa s=>dC f s λb s=>k (.cond c a b) s,
  λs k=>dL T N z s λl s=>dC f s λa s=>k (.keep l a) s,
  λs k=>k .ret s,
  λs k=>num T N z s λn s=>k (.exit n) s,
  λs k=>num T N z s λn s=>dC f s λa s=>k (.block n a) s,
  λs k=>dL T N z s λl s=>dC f s λa s=>k (.loop l a) s,
  λs k=>dL T N z s λl s=>dC f s λa s=>k (.tidy l a) s,
  λs k=>dC f s λa s=>k (.scope a) s,
  λs k=>dB T N z s λb s=>lst T N z (dNN T N z) s λp s=>lst T N z (dI T N z) s λl s=>k (.reg b p l) s,
  λs k=>k .bad s] a z fun(h:DS->(TCo->DS->R)->R)=>h s k) z
def dR(s:DS)(k:yP->DS->R):R:=num T N z s λa s=>cond (Nat.beq a 0) (num T N z s λn s=>k (.tmp n) s) (num T N z s λn s=>dB T N z s λb s=>dT T N z s λt s=>k (.cell n b t) s)
end
noncomputable def dF(T:DT)(N:Nat):TFn:=
 let z:TFn:=⟨0,0,.bad,[],false⟩
 num T N z ⟨0,[],0,[]⟩ λnp s=>num T N z s λnt s=>dC T N z 4000 s λc s=>lst T N z (dR T N z) s λr s=>dB T N z s λb _=>⟨np,nt,c,r,b⟩
abbrev gD(t:Ty):ShA:=.dt t
abbrev gC(t:Ty):ShA:=.c (.d t)
abbrev gI:ShA:=.c (.d (.i .i64))
def shT:ShA->Ty| .dt t=>t| .c (.d t)=>t|_=>.u
def gS(a r:List ShA):Sig:=⟨a,[],a.map shT,match r with
 |[x]=>.a x
 |l=>.tup l,[],[],r.map shT⟩
end Go.Am
end
section
namespace Go.Am
abbrev zI:Ty:=.i .i64
def Tot{ρ:Type}(o:Option ρ)(Q:ρ->Prop):Prop:= ∃r,o=some r/\Q r
section
variable {α β ρ σ τ:Type} {Q:ρ->Prop}
theorem Tot.bind{P:α->Prop}{o:Option α}{f:α->Option ρ}(h:Tot o P)(h2: ∀r,P r->Tot (f r) Q):Tot (o.bind f) Q:=by obtain⟨r,rfl,e⟩:=h;exact h2 r e
theorem Tot.some{r:ρ}(h:Q r):Tot (some r) Q:=⟨r,rfl,h⟩
theorem Tot.mono{P:ρ->Prop}{o:Option ρ}(h:Tot o P)(h2: ∀r,P r->Q r):Tot o Q:=by obtain⟨r,e,g⟩:=h;exact⟨r,e,h2 r g⟩
theorem Tot.map{P:α->Prop}{o:Option α}{f:α->ρ}(h:Tot o P)(h2: ∀r,P r->Q (f r)):Tot (Option.map f o) Q:=by obtain⟨r,rfl,e⟩:=h;exact⟨f r,rfl,h2 r e⟩
theorem Tot.get{o:Option ρ}{r:ρ}(h:Tot o Q)(e:o=Option.some r):Q r:=by obtain⟨r',e',h⟩:=h;simp_all
variable {u v:Option ρ}
theorem Tot.ite{c:Bool}(h1:c=true->Tot u Q)(h2:c=false->Tot v Q):Tot (if c=true then u else v) Q:=by
 grind
theorem Tot.itf{c:Bool}(h1:c=false->Tot u Q)(h2:c=true->Tot v Q):Tot (if c=false then u else v) Q:=by
 grind
theorem Tot.not{c:Bool}(h1:c=false->Tot u Q)(h2:c=true->Tot v Q):Tot (if Jr c=true then u else v) Q:=by
 cases c with
 |true=>exact h2 rfl
 |false=>exact h1 rfl
theorem Tot.nof{c:Bool}(h1:c=true->Tot u Q)(h2:c=false->Tot v Q):Tot (if Jr c=false then u else v) Q:=by
 cases c with
 |true=>exact h1 rfl
 |false=>exact h2 rfl
variable {a c:Int}
theorem iG:aK a c=true↔a<c:=by simp[aK]
theorem uA:aO a c=true↔c<a:=by simp[aO]
theorem eG:aX a c=true↔a<=c:=by simp[aX]
theorem wP:aP a c=true↔c<=a:=by simp[aP]
theorem jI:aJ a c=true↔a=c:=by simp[aJ]
theorem wX:aN a c=true↔ ¬a=c:=by simp[aN]
theorem Tot.by{p:Prop}{x:Bool}(hp:x=true↔p)(h1:p->Tot u Q)(h2: ¬p->Tot v Q):Tot (if x=true then u else v) Q:=.ite (λh=>h1 (hp.1 h)) λh=>h2 λe=>by simp_all
theorem Tot.byf{p:Prop}{x:Bool}(hp:x=true↔p)(h1: ¬p->Tot u Q)(h2:p->Tot v Q):Tot (if x=false then u else v) Q:=.itf (λh=>h1 λe=>by simp_all) λh=>h2 (hp.1 h)
theorem Tot.lt(h1:a<c->Tot u Q)(h2: ¬a<c->Tot v Q):Tot (if aK a c=true then u else v) Q:=.by iG h1 h2
theorem Tot.gt(h1:c<a->Tot u Q)(h2: ¬c<a->Tot v Q):Tot (if aO a c=true then u else v) Q:=.by uA h1 h2
theorem Tot.le(h1:a<=c->Tot u Q)(h2: ¬a<=c->Tot v Q):Tot (if aX a c=true then u else v) Q:=.by eG h1 h2
theorem Tot.ge(h1:c<=a->Tot u Q)(h2: ¬c<=a->Tot v Q):Tot (if aP a c=true then u else v) Q:=.by wP h1 h2
theorem Tot.eq(h1:a=c->Tot u Q)(h2: ¬a=c->Tot v Q):Tot (if aJ a c=true then u else v) Q:=.by jI h1 h2
theorem Tot.ne(h1: ¬a=c->Tot u Q)(h2:a=c->Tot v Q):Tot (if aN a c=true then u else v) Q:=.by wX h1 (λh=>h2 (Decidable.of_not_not h))
theorem Tot.ltf(h1: ¬a<c->Tot u Q)(h2:a<c->Tot v Q):Tot (if aK a c=false then u else v) Q:=.byf iG h1 h2
theorem Tot.gtf(h1: ¬c<a->Tot u Q)(h2:c<a->Tot v Q):Tot (if aO a c=false then u else v) Q:=.byf uA h1 h2
theorem Tot.lef(h1: ¬a<=c->Tot u Q)(h2:a<=c->Tot v Q):Tot (if aX a c=false then u else v) Q:=.byf eG h1 h2
theorem Tot.gef(h1: ¬c<=a->Tot u Q)(h2:c<=a->Tot v Q):Tot (if aP a c=false then u else v) Q:=.byf wP h1 h2
theorem Tot.eqf(h1: ¬a=c->Tot u Q)(h2:a=c->Tot v Q):Tot (if aJ a c=false then u else v) Q:=.byf jI h1 h2
theorem Tot.nef(h1:a=c->Tot u Q)(h2: ¬a=c->Tot v Q):Tot (if aN a c=false then u else v) Q:=.byf wX (λh=>h1 (Decidable.of_not_not h)) h2
end
def Ty.fit(B S:Int):(t:Ty)->t.D->Prop| .b,_=>True| .i k,z=>k.min<=z/\z<=k.max| .s,z=>J0 (α:=UInt8) z<=S| .l t,z=>J0 (α:=t.D) z<=B/\ ∀x∈(z:List t.D),t.fit B S x| .pr a c,x=>a.fit B S x.1/\c.fit B S x.2| .ar n t,v=> ∀(i:Nat) (h:i<n),t.fit B S ((v:Vector t.D n)[i])| .u,_=>True| .f,_=>True
abbrev aB:= @Ty.fit
theorem Ty.fit.up{B S g e:Int}(h1:B<=g)(h2:S<=e): ∀{t:Ty} {x:t.D},t.fit B S x->t.fit g e x| .b,_,_=>trivial| .i _,_,h=>h| .s,_,h=>oJ h h2| .l _,_,h=>⟨oJ h.1 h1,λx j=>(h.2 x j).up h1 h2⟩| .pr _ _,_,h=>⟨h.1.up h1 h2,h.2.up h1 h2⟩| .ar _ _,_,h=>λi hi=>(h i hi).up h1 h2| .u,_,_=>trivial| .f,_,_=>trivial
section
variable {α:Type} {l:List α}
theorem Ja:0<=J0 l:=Int.natCast_nonneg _
theorem QZ:J0 ([]:List α)=0:=rfl
theorem rE{x:α}:J0 [x]=1:=rfl
theorem FU{m:List α}:J0 (l++m)=J0 l+J0 m:=by simp[J0]
end
theorem KU(n:Int):IntKind.i64.wrap n=(n+9223372036854775808)%18446744073709551616-9223372036854775808:=by simp[IntKind.wrap,IntKind.bits,IntKind.signed];omega
theorem pB(k:IntKind)(n:Int):k.min<=k.wrap n/\k.wrap n<=k.max:=by cases k<;>simp[IntKind.wrap,IntKind.min,IntKind.max,IntKind.bits,IntKind.signed]<;>omega
theorem Jg(a b:Int):J2 .i64 a b=(a+b+9223372036854775808)%18446744073709551616-9223372036854775808:=KU _
theorem bD(a b:Int):Jw .i64 a b=(a-b+9223372036854775808)%18446744073709551616-9223372036854775808:=KU _
theorem tL(a b:Int):bX .i64 a b=(a*b+9223372036854775808)%18446744073709551616-9223372036854775808:=KU _
theorem IK(a:Int):aU .i64 a=(a+9223372036854775808)%18446744073709551616-9223372036854775808:=KU _
section
variable {B S:Int} {k:IntKind} {a b:Int}
theorem J3:Ty.fit B S (.i .i64) a↔ -9223372036854775808<=a/\a<=9223372036854775807:=by simp[Ty.fit,IntKind.min,IntKind.signed,IntKind.bits]
theorem nC(k:IntKind)(n:Int)(h:k.min<=n/\n<=k.max:=by decide):Ty.fit B S (.i k) n:=h
theorem Jj:Ty.fit B S (.i k) (J2 k a b):=pB _ _
theorem eY:Ty.fit B S (.i k) (Jw k a b):=pB _ _
theorem JIK:Ty.fit B S (.i k) (bX k a b):=pB _ _
theorem wH:Ty.fit B S (.i k) (aU k a):=pB _ _
theorem cvu(k:IntKind)(a:Int)(h:k.min=0:=by rfl):0<=aU k a:=by have:=(pB k a).1;rw[h]at this;exact this
theorem JKk:Ty.fit B S (.i k) (orI k a b):=pB _ _
theorem FN:Ty.fit B S (.i k) (fG k a b):=pB _ _
theorem Fa:Ty.fit B S (.i k) (VN k a):=pB _ _
theorem JIY(ha:Ty.fit B S (.i k) a)(hb:Ty.fit B S (.i k) b):Ty.fit B S (.i k) (lM a b):=by
 grind [lM]
theorem kY(ha:Ty.fit B S (.i k) a)(hb:Ty.fit B S (.i k) b):Ty.fit B S (.i k) (cO a b):=by
 grind [cO]
theorem kZ{α:Type}{l:List α}{n:Int}(h:J0 l<=n)(hn:n<=9223372036854775807):Ty.fit B S (.i .i64) (J0 l):=by
 have:=Ja (l:=l);grind [J3]
theorem J7{t:Ty}(e:0<=B:=by omega):Ty.fit B S (.l t) ([]:List t.D):=⟨e,λ_ h=>by cases h⟩
theorem bY{t:Ty}{x:t.D}(e:1<=B)(h:t.fit B S x):Ty.fit B S (.l t) ([x]:List t.D):=⟨e,λy g=>by simp_all⟩
theorem dH{t:Ty}{x:t.D}{l:List t.D}(g:J0 (x::l)<=B)(h:t.fit B S x)(hl:Ty.fit B S (.l t) l):Ty.fit B S (.l t) (x::l):=⟨g,λy e=>by
 rcases cL.1 e with rfl|e;exact h;exact hl.2 y e⟩
theorem PM:Ty.fit B S (.i .u8) a↔0<=a/\a<=255:=by simp[Ty.fit,IntKind.min,IntKind.max,IntKind.signed,IntKind.bits]
theorem cA(g:0<=B)(e:0<=S): ∀t:Ty,t.fit B S t.zero
 | .b=>trivial
 | .i k=>by cases k<;>simp[Ty.fit,Ty.zero,IntKind.min,IntKind.max,IntKind.signed,IntKind.bits]
 | .s=>e
 | .l _=>J7 g
 | .pr a c=>⟨cA g e a,cA g e c⟩
 | .ar n t=>λi hi=>by show t.fit B S ((Vector.replicate n t.zero)[i]);rw[Vector.getElem_replicate];exact cA g e t
 | .u=>trivial
 | .f=>trivial
end
theorem JA{B S:Int}{t:Ty}{l:List t.D}(_:Ty.fit B S (.l t) l): @J0 t.D l= @J0 t.D l:=rfl
section
variable {B S:Int} {t:Ty}
theorem Je{l:List t.D}{i:Int}(h:Ty.fit B S (.l t) l)(h0:0<=i:=by omega)(h1:i<J0 l:=by omega):Tot (idx l i) λr=>t.fit B S r/\r∈l:=by
 have e:i.toNat<l.length:=by grind [J0]
 refine⟨l[i.toNat],?_,h.2 _ (iQ e),iQ e⟩;grind [idx]
theorem de{n bytes:Nat}(h:(n:Int)<=34359738368)(hb:bytes<=2048):qH n bytes=true:=by unfold qH;rw[decide_eq_true_eq];have:(2*n+512)*bytes<=(2*34359738368+512)*2048:=Nat.mul_le_mul (by omega) hb;omega
theorem bM{bytes:Nat}{l m:List t.D}{Bl Bm:Int}(k n:Int)(hl:Ty.fit Bl S (.l t) l)(hm:Ty.fit Bm S (.l t) m)(hk:J0 l=k:=by rfl)(hn:J0 m=n:=by rfl)(h1:Bl<=B:=by omega)(h2:Bm<=B:=by omega)(h3:k+n<=B:=by omega)(g:B<=34359738368:=by omega)(hb:bytes<=2048:=by decide):
  Tot (JH bytes l m) λr=>Ty.fit B S (.l t) r/\J0 r=k+n/\r=l++m:=by
 subst hn hk;refine⟨l++m,?_,⟨by grind [FU],λx e=>?_⟩,FU,rfl⟩;grind [JH,de,J0];rcases zQ9.1 e with h|h;exact(hl.2 x h).up h1 (aZ _);exact(hm.2 x h).up h2 (aZ _)
theorem IS{bytes:Nat}{l:List t.D}(hl:Ty.fit B S (.l t) l)(e:B<=34359738368)(hb:bytes<=2048):Tot (cN bytes l) λr=>r=l:=by refine⟨l,?_,rfl⟩;unfold cN;rw[if_pos (de (by have:=hl.1;grind [J0]) hb)]
theorem HV{α:Type}{l:List α}{k:Int}(h0:0<=k)(h1:k<=J0 l):Tot (bH l none (some k)) λr=>r=l.take k.toNat/\J0 r=k:=by
 refine⟨l.take k.toNat,?_,rfl,?_⟩
 all_goals grind [bH,pZ,sY,J0]
theorem LK{α:Type}{l:List α}{k:Int}(h0:0<=k)(h1:k<=J0 l):Tot (bH l (some k) none) λr=>r=l.drop k.toNat/\J0 r=J0 l-k:=by
 refine⟨l.drop k.toNat,?_,rfl,?_⟩
 all_goals grind [bH,pZ,sY,J0]
theorem EY{α:Type}{l:List α}{j k:Int}(h0:0<=j)(h2:j<=k)(h1:k<=J0 l):Tot (bH l (some j) (some k)) λr=>r=(l.drop j.toNat).take (k-j).toNat/\J0 r=k-j:=by
 refine⟨(l.drop j.toNat).take (k-j).toNat,?_,rfl,?_⟩
 all_goals grind [bH,pZ,sY,J0]
theorem JGc{l:List t.D}{n:Nat}(h:Ty.fit B S (.l t) l):Ty.fit B S (.l t) (l.take n):=⟨by
 have:=h.1;grind [J0],λx e=>h.2 x (UJ e)⟩
theorem JGZ{l:List t.D}{n:Nat}(h:Ty.fit B S (.l t) l):Ty.fit B S (.l t) (l.drop n):=⟨by
 have:=h.1;grind [J0],λx e=>h.2 x (zQ7 e)⟩
theorem jS{a b:List UInt8}(h:J0 a+J0 b<=4611686018427387904:=by omega):Tot (dA a b) λr=>J0 r=J0 a+J0 b/\r=a++b:=by
 refine⟨a++b,?_,FU,rfl⟩;grind [dA,J0]
theorem IH{bytes:Nat}{n m:Int}{z:t.D}(hz:t.fit B S z)(h0:0<=n:=by omega)(h1:n<=m:=by omega)(h2:m<=34359738368:=by omega)(hn:n<=B:=by omega)(hb:bytes<=2048:=by decide):Tot (mkS bytes n m z) λr=>Ty.fit B S (.l t) r/\J0 r=n:=by
 refine⟨List.replicate n.toNat z,?_,⟨?_,λx e=>?_⟩,?_⟩;unfold mkS;have:(bytes:Int)*m<=2048*34359738368:=oJ (Int.mul_le_mul_of_nonneg_right (by omega) (by omega)) (Int.mul_le_mul_of_nonneg_left h2 (by omega));grind
 all_goals grind [J0]
theorem JMX{x y:Int}(h: ¬y=0):Tot (vJ x y) λr=>r=x.tmod y:=⟨_,by grind [vJ],rfl⟩
theorem JMq{k:IntKind}{x y:Int}(h:0<=y):Tot (sP k x y) λr=>r=k.wrap (x*2^(min y.toNat k.bits)):=⟨_,by grind [sP],rfl⟩
theorem JNe{k:IntKind}{x y:Int}(h:0<=y):Tot (jR k x y) λr=>r=x.fdiv (2^(min y.toNat k.bits)):=⟨_,by grind [jR],rfl⟩
theorem hJ{n:Nat}{i:Int}(h0:0<=i:=by omega)(h1:i<n:=by omega):Tot (aW n i) λ_=>True:=⟨(),by grind [aW],trivial⟩
theorem tN{l:List t.D}{i:Int}(h:Ty.fit B S (.l t) l)(h0:0<=i:=by omega)(h1:i<J0 l:=by omega):Tot (bF l i.toNat) λr=>t.fit B S r/\r∈l:=by
 have e:i.toNat<l.length:=by grind [J0]
 exact⟨l[i.toNat],by simp[bF],h.2 _ (iQ e),iQ e⟩
theorem nI{n:Nat}{v:Vector t.D n}{i:Nat}(h:Ty.fit B S (.ar n t) v)(h1:i<n:=by omega):Tot (vat v i) λr=>t.fit B S r:=
 ⟨v[i],by simp[vat],h _ h1⟩
theorem pC{l:List t.D}{i:Nat}{x:t.D}(h:Ty.fit B S (.l t) l)(hx:t.fit B S x):Ty.fit B S (.l t) (aY l i x):=⟨by
 have:=h.1;grind [aY,J0],λy e=>by
 rcases lz e with h1|rfl;exact h.2 y h1;exact hx⟩
theorem rD{α:Type}{l:List α}{i:Nat}{x:α}:J0 (aY l i x)=J0 l:=by simp[aY,J0]
theorem QX{n:Nat}{v:Vector t.D n}{i:Nat}{x:t.D}(h:Ty.fit B S (.ar n t) v)(hx:t.fit B S x):Ty.fit B S (.ar n t) (bG v i x):=λj e=>by
 unfold bG;show t.fit B S ((v.setIfInBounds i x)[j]);rw[Vector.getElem_setIfInBounds];split;exact hx;exact h j e
theorem OT{l:List UInt8}{i:Int}(h0:0<=i:=by omega)(h1:i<J0 l:=by omega):Tot (oA l i) λr=>0<=r/\r<=255:=by
 have e:i.toNat<l.length:=by grind [J0]
 refine⟨(l[i.toNat].toNat:Int),?_,by omega,?_⟩;grind [oA];have:=l[i.toNat].toNat_lt;omega
theorem JEe{l:List UInt8}:J0 (aS l)=J0 l:=by simp[aS,J0]
theorem AC{l:List Int}:J0 (toStr l)=J0 l:=by simp[toStr,J0]
end
theorem Ty.fit.u{B S g e:Int}{t:Ty}{x:t.D}(h:t.fit B S x)(h1:B<=g:=by omega)(h2:S<=e:=by omega):t.fit g e x:=h.up h1 h2
theorem Tot.inr{σ ρ:Type}{o:Option ρ}{Q:σ⊕ρ->Prop}(h:Tot o λy=>Q (.inr y)):Tot (Option.map .inr o) Q:=h.map λ_ h=>h
section
variable {B S:Int} {t:Ty}
theorem Tot.clo{ρ:Type}{Q:ρ->Prop}{bytes:Nat}{l:List t.D}{f:List t.D->Option ρ}(hl:Ty.fit B S (.l t) l)(g:B<=34359738368)(hb:bytes<=2048)(h:Tot (f l) Q):Tot ((cN bytes l).bind f) Q:=
 .bind (IS hl g hb) λr e=>by simp_all
theorem J9(h:0<=S:=by omega):Ty.fit B S .s ([]:List UInt8):=h
theorem JLh{l:List UInt8}(n:Int)(h:J0 l=n)(h2:n<=S):Ty.fit B S .s l:=by show J0 l<=S;omega
theorem iC{α:Type}{l:List α}{i:Int}(h0:0<=i:=by omega)(h1:i<J0 l:=by omega):Tot (aW l.length i) λ_=>True:=hJ h0 h1
theorem qQ{l:List t.D}{k:Int}(h:Ty.fit B S (.l t) l)(h0:0<=k:=by omega)(h1:k<=J0 l:=by omega):Tot (bH l none (some k)) λr=>Ty.fit B S (.l t) r/\J0 r=k:=
 (HV h0 h1).mono λ_ ⟨e,h2⟩=>⟨e▸JGc h,h2⟩
theorem rG{l:List t.D}{k:Int}(h:Ty.fit B S (.l t) l)(h0:0<=k:=by omega)(h1:k<=J0 l:=by omega):Tot (bH l (some k) none) λr=>Ty.fit B S (.l t) r/\J0 r=J0 l-k:=
 (LK h0 h1).mono λ_ ⟨e,h2⟩=>⟨e▸JGZ h,h2⟩
theorem zN{l:List UInt8}{k:Int}(h:J0 l<=S)(h0:0<=k:=by omega)(h1:k<=J0 l:=by omega):Tot (bH l none (some k)) λr=>J0 r<=S/\J0 r=k:=
 (HV h0 h1).mono λ_ ⟨_,h2⟩=>⟨by omega,h2⟩
theorem o4{l:List UInt8}{k:Int}(h:J0 l<=S)(h0:0<=k:=by omega)(h1:k<=J0 l:=by omega):Tot (bH l (some k) none) λr=>J0 r<=S/\J0 r=J0 l-k:=
 (LK h0 h1).mono λ_ ⟨_,h2⟩=>⟨by omega,h2⟩
theorem MI{l:List UInt8}{j k:Int}(h:J0 l<=S)(h0:0<=j:=by omega)(h2:j<=k:=by omega)(h1:k<=J0 l:=by omega):Tot (bH l (some j) (some k)) λr=>J0 r<=S/\J0 r=k-j:=
 (EY h0 h2 h1).mono λ_ ⟨_,e⟩=>⟨by omega,e⟩
theorem RK{l:List Int}(h:J0 l<=S):Ty.fit B S .s (toStr l):=by
 show J0 (toStr l)<=S;grind [AC]
theorem Fy(a b:Int):lM a b<=a/\lM a b<=b/\(lM a b=a\/lM a b=b):=by grind [lM]
theorem rB(a b:Int):a<=cO a b/\b<=cO a b/\(cO a b=a\/cO a b=b):=by grind [cO]
theorem Gr{x y:Int}(h:0<=x):x.tmod y<=x:=by
 obtain⟨m,rfl⟩:=Int.eq_ofNat_of_zero_le h;cases y with
 |ofNat n=>show((m%n:Nat):Int)<=m;exact Int.ofNat_le.2 (Nat.mod_le _ _)
 |negSucc n=>show((m%(n+1):Nat):Int)<=m;exact Int.ofNat_le.2 (Nat.mod_le _ _)
theorem JJi{x y:Int}:(0<=x->0<=x.tmod y)/\(0<y->x.tmod y<y)/\(x<=0->x.tmod y<=0)/\(0<=x->x.tmod y<=x)/\(x<=0->x<=x.tmod y):=by
 refine⟨λh=>Int.tmod_nonneg _ h,λh=>Int.tmod_lt_of_pos _ h,λh=>?_,λh=>?_,λh=>?_⟩;have:=Int.tmod_nonneg (a:= -x) y (by omega);simp_all;exact Gr h;have h2:(-x).tmod y<= -x:=Gr (by omega);simp_all
theorem YR{k:IntKind}{x y:Int}(hx:Ty.fit B S (.i k) x)(h: ¬y=0):Tot (vJ x y) λr=>Ty.fit B S (.i k) r/\((0<=x->0<=r)/\(0<y->r<y)):=
 (JMX h).mono λr e=>by
  subst e;obtain⟨h1,h2,o,g,n⟩:=JJi (x:=x) (y:=y);refine⟨?_,h1,h2⟩;have v:k.min<=0/\0<=k.max:=by cases k<;>simp[IntKind.min,IntKind.max,IntKind.bits,IntKind.signed]
  obtain⟨j,q⟩:k.min<=x/\x<=k.max:=hx;show k.min<=x.tmod y/\x.tmod y<=k.max;grind
theorem JLY{k:IntKind}{x y:Int}(h:0<=y):Tot (sP k x y) λr=>Ty.fit B S (.i k) r:=(JMq h).mono λr e=>e▸pB _ _
theorem JIB{k:IntKind}{x:Int}{n:Nat}(hx:Ty.fit B S (.i k) x):Ty.fit B S (.i k) (x.fdiv (2^n)):=by
 have e:(0:Int)<2^n:=Int.pow_pos (by decide);have o:k.min<=0/\0<=k.max:=by cases k<;>simp[IntKind.min,IntKind.max,IntKind.bits,IntKind.signed]
 obtain⟨g,j⟩:k.min<=x/\x<=k.max:=hx;show k.min<=x.fdiv (2^n)/\x.fdiv (2^n)<=k.max;rw[Int.fdiv_eq_ediv_of_nonneg _ (Int.le_of_lt e)];rcases Int.le_total 0 x with h|h;have h1:=Int.ediv_nonneg h (Int.le_of_lt e);have h2:=Int.ediv_le_self (2^n:Int) h;omega;have h1:x/(2^n)<=0:=(by have:=Int.ediv_le_ediv e h;simp_all);have h2:x<=x/(2^n):=by rw[Int.le_ediv_iff_mul_le e];have:x*(2^n)<=x*1:=Int.mul_le_mul_of_nonpos_left h (by omega);omega
 omega
theorem zH{k:IntKind}{x y:Int}(hx:Ty.fit B S (.i k) x)(h:0<=y):Tot (jR k x y) λr=>Ty.fit B S (.i k) r:=(JNe h).mono λr e=>e▸JIB hx
end
theorem Jk{σ τ ρ:Type}{L:σ->Option (σ⊕ρ)}{Q:ρ->Prop}(e:τ->σ)(I:τ->Prop)(m:τ->Int)
  (h: ∀c,I c->Tot (L (e c)) λr=>match r with| .inl z=> ∃c',z=e c'/\I c'/\m c'<m c/\0<=m c| .inr y=>Q y) {z:σ} (c:τ) (hz:z=e c) (g:I c):Tot (J6 L z) Q:=by
 subst hz;have j: ∀(n:Nat) (c:τ),(m c+1).toNat<n->I c->Tot (J6 L (e c)) Q:=by
  intro n
  induction n with
  |zero=>simp_all
  |succ n ih=>
   intro c h1 g;obtain⟨r,h2,k⟩:=h c g;cases r with
   |inl z=>
    grind [hV]
   |inr y=>rw[fA h2];exact⟨y,rfl,k⟩
 exact j _ c (Nat.lt_succ_self _) g
theorem VR(x m:Int)(h0:0<=m:=by decide)(hm:m<4294967296:=by decide):0<=qE .u32 x m/\qE .u32 x m<=m:=by
 have e:qE .u32 x m=IntKind.wrap .u32 (((BitVec.ofInt 32 x&&&BitVec.ofInt 32 m).toNat:Nat):Int):=rfl;have h2:(BitVec.ofInt 32 m).toNat=m.toNat:=by grind
 have g:(BitVec.ofInt 32 x&&&BitVec.ofInt 32 m).toNat<=m.toNat:=(by grind [Nat.and_le_right]);generalize (BitVec.ofInt 32 x&&&BitVec.ofInt 32 m).toNat=z at e g;have h:IntKind.wrap .u32 (z:Int)=(z:Int)%4294967296:=rfl;grind
theorem om{p:Prop}(h:p:=by first|omega|(dsimp only;omega)|(simp only[QZ,rE]<;>omega)):p:=h
abbrev BS(B S b s:Int):Prop:=b<=B/\s<=S
theorem aC{B S:Int}:Ty.fit B S (.i .i64) 0:=nC .i64 0
theorem aH{B S:Int}(n:Int)(h:IntKind.i64.min<=n/\n<=IntKind.i64.max:=by decide):Ty.fit B S (.i .i64) n:=h
abbrev BC(B S b s:Int):Prop:=b<=B/\s<=S/\B<=4611686018427387903
abbrev BH(B S:Int):Prop:=16384<=B/\1073741824<=S
abbrev BG(B S:Int):Prop:=16384<=B/\1073741824<=S/\B<=4611686018427387903
theorem aQ{B S:Int}{t:Ty}{x:t.D}(e:x=t.zero:=by rfl)(h:0<=B:=by omega)(h2:0<=S:=by omega):Ty.fit B S t x:=e▸cA h h2 t
def Ty.nl:Ty->Bool| .l _=>false| .pr a c=>a.nl&&c.nl| .ar _ t=>t.nl|_=>true
theorem Ty.fit.z'{B S:Int}: ∀{t:Ty} {x:t.D},t.nl=true->Ty.fit B S t x->Ty.fit 0 S t x
 | .b,_,_,_=>trivial
 | .i _,_,_,h=>h
 | .s,_,_,h=>h
 | .l _,_,n,_=>by cases n
 | .pr a c,_,n,h=>by have n:(a.nl&&c.nl)=true:=n;rw[aT]at n;exact⟨Ty.fit.z' n.1 h.1,Ty.fit.z' n.2 h.2⟩
 | .ar _ _,_,n,h=>λi hi=>Ty.fit.z' n (h i hi)
 | .u,_,_,_=>trivial
 | .f,_,_,_=>trivial
theorem Ty.fit.z{B S:Int}{t:Ty}{x:t.D}(h:Ty.fit B S t x)(n:t.nl=true:=by rfl):Ty.fit 0 S t x:=Ty.fit.z' n h
theorem omc{p q:Prop}(o:q)(h:q->p:=by intro o;first|omega|(dsimp only;omega)|(simp only[QZ,rE]<;>omega)):p:=h o
theorem oo{p:Prop}(h:p:=by omega):p:=h
end Go.Am
end
section
namespace Go.Am
abbrev sS(a b:Nat):Bool:=Nat.beq a b
def DJ{R:Type}:List Bool->List TB->List TB->Option R->Option R|true::r,a::l,c::m,k=>if sS (lnB c) (lnB a)=true then DJ r l m k else none|false::r,_::l,_::m,k=>DJ r l m k|_,_,_,k=>k
theorem sb{R:Type}{K:Option R}{q:R}: ∀{same:List Bool} {bl out:List TB},DJ same bl out K=some q->K=some q/\ ∀(k:Nat) x,(flg same out)[k]?=some (true,x)->k<bl.length->lnB x=lns bl k
 |[],bl,out,h=>⟨h,λk x h1 _=>by have:=(PW h1).1;simp at this⟩
 |b::r,[],out,h=>⟨by cases b<;>exact h,λk x _ h2=>by simp at h2⟩
 |b::r,a::l,[],h=>⟨by cases b<;>exact h,λk x h1 _=>by grind [flg]⟩
 |b::r,a::l,c::m,h=>by
  have g:DJ r l m K=some q/\(b=true->lnB c=lnB a):=by cases b<;>simp_all [DJ]
  obtain⟨h1,h2⟩:=sb g.1;refine⟨h1,λk x e j=>?_⟩;cases k with
  |zero=>simp only[flg,List.getElem?_cons_zero,Option.some.injEq,Prod.mk.injEq]at e;obtain⟨rfl,rfl⟩:=e;exact g.2 rfl
  |succ k=>simp only[flg,List.getElem?_cons_succ]at e;exact h2 k x e (by simpa using j)
def bZ(f:FuncId)(g:Sig)(S:(tyL g.ti).D->Option (tyL g.to).D):TE:=
 ⟨f,λxs bl kk=>match sW g xs bl with
  |some x=>(S x).bind λy=>match EH g y with|some (v,out)=>DJ g.same bl out (kk v (flg g.same out))|none=>none
  |none=>none,λxs bl=>(sW g xs bl).isSome⟩
theorem ZA{T:cZ}{f:FuncId}{g:Sig}{S:(tyL g.ti).D->Option (tyL g.to).D}
  (h: ∀x xs bl y,gN g x=some (xs,bl)->S x=some y-> ∃v out,AF T f (xs.map (bL (lns bl))) (bl.map (aV (lns bl)))=some (JY (lns out) v,out.map (aV (lns out)))/\hM g v out=some y):EOk (AF T) (bZ f g S):=by
 refine⟨fun{R xs bl kk r} j=>?_⟩;simp only[bZ]at j;split at j;rename_i x w;obtain⟨y,q,j⟩:=bJ.1 j;split at j;rename_i v out k;obtain⟨n,e,h1,h2⟩:=h x xs bl y (Hg w) q;rw[o7 h2]at k;injection k with k;injection k with hv1 hv2;subst hv1 hv2;obtain⟨j,o⟩:=sb j;refine⟨n,flg g.same e,?_,o,j⟩;unfold nX;rw[wU];have:(flg g.same e).map (λx=>aV (lns e) x.2)=e.map (aV (lns e)):=by
  conv=>rhs;rw[<-wU g.same e,DN]
  simp[wU]
 rw[this];exact h1;cases j;cases j
theorem YB{T:cZ}{f:FuncId}{g:Sig}{fn:TFn}{S:(tyL g.ti).D->Option (tyL g.to).D}{l:List TE}(hf:T f=some (.fn (aM fn)))(hl:tC (AF T) l)
  (h: ∀x,onO (gN g x) (λy=>lO (TG.of l) fn y.1 y.2 (hM g))=S x):EOk (AF T) (bZ f g S):=by
 refine ZA λx xs bl y k j=>?_;have e:=h x;rw[k,j]at e;exact G4 (D9 hl) hf e
theorem Fc{T:cZ}{f:FuncId}{g:Sig}{fn:TFn}{S:((tyL g.ti).D->Option (tyL g.to).D)->(tyL g.ti).D->Option (tyL g.to).D}{l:List TE}(hf:T f=some (.fn (aM fn)))(hl:tC (AF T) l)
  (h: ∀r x,onO (gN g x) (λy=>lO (TG.of (bZ f g r::l)) fn y.1 y.2 (hM g))=S r x): ∀n,EOk (AF T) (bZ f g (iU S n))
 |0=>ZA λx xs bl y j e=>by cases e
 |n+1=>YB hf (l:=bZ f g (iU S n)::l) (And.intro (Fc hf hl h n) hl) (h (iU S n))
end Go.Am
end
