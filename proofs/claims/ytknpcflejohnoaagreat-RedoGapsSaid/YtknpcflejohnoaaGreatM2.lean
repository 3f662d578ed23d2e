/-
  Parts of a proof.
-/
import Derived.Orders
import Derived.LoopN
import Derived.Scope
import Derived.Below
import Derived.Test.YtknpcflejohnoaaGreatM1
set_option linter.unusedSimpArgs false
set_option linter.unusedVariables false
section
namespace Go.Am
section
variable {P:Program} {F:Orc} {s:Sn} {a:Act} {env:List (Nat×AV)} {o:Oper} {new:Nat} {e:Eff}
theorem r4{q:List Blk}(hi:Inv s)(A:Frz q s.σ){x:AV}{y:AV×List (Nat×Blk)}{v:Value}(h:(jJ x).run ⟨env,q⟩=some y)(hr:JK s x v):
  ∃g',Inv ⟨upd y.2 s.σ,g',s.w⟩/\bE s ⟨upd y.2 s.σ,g',s.w⟩/\Frz s.σ (upd y.2 s.σ)/\JK ⟨upd y.2 s.σ,g',s.w⟩ y.1 v:=by
 have same: ∀{z:AV},(RM.ret (z,[]):RM (AV×List (Nat×Blk))).run ⟨env,q⟩=some y->JK s z v-> ∃g',Inv ⟨upd y.2 s.σ,g',s.w⟩/\bE s ⟨upd y.2 s.σ,g',s.w⟩/\Frz s.σ (upd y.2 s.σ)/\JK ⟨upd y.2 s.σ,g',s.w⟩ y.1 v:=(by intro z j hr;simp only[RM.run]at j;injection j with j;subst j;exact⟨s.g,hi,.refl s,.refl _,hr⟩);cases x with
 |slr b i n=>
  simp only[jJ]at h;obtain⟨B,h1,h⟩:=bind_some h;obtain⟨g',k,r,o,c,H,D⟩:=ML hi A h1 hr;rw[H]at h;simp only[RM.run]at h;injection h with h;subst h;exact⟨g',k,r,o,.p _ _ D⟩
 |agg cs=>
  simp only[jJ]at h;obtain⟨B,h1,h⟩:=bind_some h;simp only[RM.run]at h;injection h with h;subst h;obtain⟨g',k,r,o,E,C⟩:=YL hi A h1 hr;cases hr with
  |agg _ vs h1 h0 h2=>exact⟨g',k,r,o,.data _ _ E λi x v F G=>C i x v F G⟩
 |tup=>grind [jJ,RM.run]
 |p c=>exact same h hr
 |data cs=>exact same h hr
 |ptr b off=>exact same h hr
 |cp cs off=>exact same h hr
 |ep b e i off=>exact same h hr
 |fn f first caps=>exact same h hr
 |unk=>exact same h hr
theorem tv{q:List Blk}: ∀{xs:List AV} {s:Sn} {y:List AV×List (Nat×Blk)} {vs:List Value},Inv s->Frz q s.σ->(kT xs).run ⟨env,q⟩=some y->xs.length=vs.length->
  (∀(i:Nat) x v,xs[i]?=some x->vs[i]?=some v->JK s x v)->
  ∃g',Inv ⟨upd y.2 s.σ,g',s.w⟩/\bE s ⟨upd y.2 s.σ,g',s.w⟩/\Frz s.σ (upd y.2 s.σ)/\y.1.length=vs.length/\
   ∀(i:Nat) x v,y.1[i]?=some x->vs[i]?=some v->JK ⟨upd y.2 s.σ,g',s.w⟩ x v
 |[],s,y,vs,hi,j,h,e,k=>by
  simp only[kT,RM.run]at h;injection h with h;subst h;exact⟨s.g,hi,.refl s,.refl _,by simpa using e,λi c v G=>by simp at G⟩
 |x::xs,s,y,[],hi,j,h,e,k=>by simp at e
 |x::xs,s,y,v::vs,hi,j,h,e,k=>by
  simp only[kT]at h;obtain⟨z,h1,h⟩:=bind_some h;obtain⟨L,h2,h⟩:=bind_some h;simp only[RM.run]at h;injection h with h;subst h;obtain⟨C,i1,o,n,J⟩:=r4 hi j h1 (k 0 x v rfl rfl);obtain⟨B,i2,r,A,F,K⟩:=tv (s:=⟨upd z.2 s.σ,C,s.w⟩) i1 (j.trans n) h2 (by simpa using e) λi x v D E=>(k (i+1) x v (by simpa using D) (by simpa using E)).mono hi o;refine⟨B,by grind [fH],by rw[fH];exact o.trans r,by rw[fH];exact n.trans A,by simp[F],λi c' I hc' H=>?_⟩;grind [JK.mono,upd]
def C8(s1:Sn)(es:List Ent)(new:Nat)(e:Ent)(x:Blk)(y:Nat×Blk):Prop:=
 y.1=e.id/\match e with
 | .whole _=>(∃cs l,x=.box cs/\bk.bkL es new cs=some l/\y.2=.box l)\/(∃w esz rows,x=.arr w esz rows/\y.2=.arr w esz rows)
 | .elem b _ i=> ∃w esz rows g,s1.σ[b]?=some (.arr w esz rows)/\x=.box (g.map .p)/\y.2=.arr w esz (rows.set i g)
theorem JBS{g:List Blk}{ws:List (Nat×Blk)}(k:s.σ=upd ws g){es:List Ent}{en:Ent}{x:Blk}{y:Nat×Blk}(h:(tY ws es new en x).run ⟨env,g⟩=some y):C8 s es new en x y:=by
 unfold tY at h;split at h;rename_i b cs;split at h;rename_i l o;simp only[RM.run]at h;injection h with h;subst h;exact⟨rfl,.inl ⟨cs,l,rfl,o,rfl⟩⟩;cases h;simp only[RM.run]at h;injection h with h;subst h;exact⟨rfl,.inr ⟨_,_,_,rfl,rfl⟩⟩;rename_i b ext i cs;obtain⟨z,h1,h⟩:=bind_some h;have j:=dh h1;rw[<-k]at j;cases z with
 |arr w esz rows=>
  dsimp only at h;split at h;rename_i e n;simp only[RM.run]at h;injection h with h;subst h;exact⟨rfl,w,esz,rows,e,j,by grind [QZ],rfl⟩;cases h
 |_=>cases h
 cases h
theorem vx{j:List Blk}{ws:List (Nat×Blk)}(n:s.σ=upd ws j){es:List Ent}: ∀{e:List Ent} {xs:List Blk} {g:List (Nat×Blk)},(jB ws es new e xs).run ⟨env,j⟩=some g->
  e.length=g.length/\e.length<=xs.length/\ ∀(k:Nat) en x y,e[k]?=some en->xs[k]?=some x->g[k]?=some y->C8 s es new en x y
 |[],xs,g,h=>by grind [jB,RM.run]
 |_::_,[],g,h=>by cases h
 |en::e,x::xs,g,h=>by
  simp only[jB]at h;obtain⟨y,h1,h⟩:=bind_some h;obtain⟨l,h2,h⟩:=bind_some h;simp only[RM.run]at h;injection h with h;subst h;obtain⟨o,q,r⟩:=vx n h2;grind [JBS]
theorem ic{es:List Ent}: ∀{xs:List Blk} {g:Nat} {e:List (Nat×Blk)},iD es new g xs=some e->
  xs.length=e.length/\ ∀(j:Nat) x y,xs[j]?=some x->e[j]?=some y->y.1=g+j/\((∃cs l,x=.box cs/\bk.bkL es new cs=some l/\y.2=.box l)\/(∃w esz rows,x=.arr w esz rows/\y.2=.arr w esz rows))
 |[],g,e,h=>by grind [iD]
 | .dead::_,g,e,h=>by grind [iD]
 | .box cs::xs,g,e,h=>by
  simp only[iD]at h;split at h;rename_i c l q k;injection h with h;subst h;obtain⟨n,o⟩:=ic k;grind;cases h
 | .arr w esz rows::xs,g,e,h=>by
  simp only[iD]at h;split at h;rename_i l k;injection h with h;subst h;obtain⟨n,o⟩:=ic k;grind;cases h
theorem tm(b:Nat)(p q:List (Nat×Blk)):jQ b (p++q)=match jQ b q with
  |some y=>some y
  |none=>jQ b p:=by
 induction p with
 |nil=>grind [jQ]
 |cons x p ih=>
  grind [jQ]
theorem ff{b:Nat}{x:Blk}: ∀{ws:List (Nat×Blk)},(ws.map (·.1)).Nodup-> ∀{k:Nat},ws[k]?=some (b,x)->jQ b ws=some x
 |[],_,k,h=>by simp at h
 |(c,z)::r,hn,k,h=>by
  obtain⟨h1,h2⟩:=List.nodup_cons.1 hn;simp only[jQ];cases k with
  |zero=>
   grind [xL]
  |succ k=>rw[ff h2 (k:=k) (by simpa using h)]
theorem Hc(n k:Nat):((List.range k).map (n+ ·)).Nodup:=by
 grind [List.nodup_range]
theorem tr(hF:jX P F){f:FuncId}{ar:List AV×List (Nat×Blk)}{q:Nat}{vals:Array Value}(H: ∀j,j<q->s.σ[new+j]?=some .dead)
  {g1:Gh} (i1:Inv ⟨upd ar.2 s.σ,g1,s.w⟩) (t1:bE s ⟨upd ar.2 s.σ,g1,s.w⟩) (f1:Frz s.σ (upd ar.2 s.σ)) (l1:ar.1.length=vals.toList.length)
  (r1: ∀(i:Nat) x v,ar.1[i]?=some x->vals.toList[i]?=some v->JK ⟨upd ar.2 s.σ,g1,s.w⟩ x v)
  (h:(gH F f ar q new).run ⟨env,s.σ⟩=some e)
  (ah: ∀fn,P.funcs[f]?=some fn→fn.body.isSome=true→(fn.name== "runtime.NumGoroutine")=false→(execOp a.eval o).run P s.w=.ok (.enter f vals) s.w):bS P o a s e:=by
 unfold gH at h;obtain⟨b6,h2,h⟩:=bind_some h;obtain⟨es,h3,h⟩:=bind_some h;split at h;rename_i ag;split at h;cases h;rename_i N a6;obtain⟨blks,h4,h⟩:=bind_some h;split at h;cases h;rename_i r a8;split at h;rename_i V;obtain⟨k,hlen,hk⟩: ∃k,r.2.length=es.length+k/\k<=q:=⟨r.2.length-es.length,by omega,by omega⟩;have M: ∀j,j<k->s.σ[new+j]?=some .dead:=λj hj=>H j (by omega);clear V;split at h;rename_i v fresh hv K;obtain⟨n,h5,h⟩:=bind_some h;simp only[RM.run]at h;injection h with h;subst h
 let s1:Sn:=⟨upd ar.2 s.σ,g1,s.w⟩
 obtain⟨bl,a5⟩:=vq (s:=s1) rfl h4;have cin:YI s1 es blks:=⟨i1,SE ag,bl,a5⟩;obtain⟨⟨fn,ae,O,S⟩,R⟩:=hF f N blks r a8;obtain⟨q1,q2⟩:=uM a6;have ci:=JKM cin;have hc:=R (iL s1 es blks).g s.w vals ci (by grind) (λi x v hx hv=>by have A:=JA hx;have Y:ar.1[i]?=some (ar.1[i]'(by omega)):=zQ9 _;exact Dh cin (r1 i _ v Y (by simpa using hv)) (q2 i _ x Y hx));intro next Q T;simp only[Oper.wp,ah fn ae O S,Oper.upon];refine hc.mono ?_;rintro e w' ⟨rv,g',rfl,a7,I,a2⟩;simp only;obtain⟨b1,b2,b3⟩:=vx (s:=s1) rfl h5;obtain⟨n1,n2⟩:=ic K;have B: ∀j,j<k->s1.σ[new+j]?=some .dead:=λj hj=>f1.2 _ _ (M j hj) (by simp);have b9:(r.2.drop es.length).length=k:=by simp;omega
 have ac:n.map (·.1)=es.map Ent.id:=(by apply zQ6;intro i;rw[gA,gA];by_cases A:i<es.length;have G:es[i]?=some es[i]:=zQ9 A;have L:n[i]?=some (n[i]'(by omega)):=zQ9 _;have E:r.2[i]?=some (r.2[i]'(by omega)):=zQ9 _;have:=(b3 i _ _ _ G E L).1;grind;grind);have ab: ∀j,j<k->fresh[j]?=some (new+j,(fresh[j]?.map (·.2)).getD .dead):=(by grind);have al:(fresh.map (·.1)).Nodup:=(by have:fresh.map (·.1)=(List.range k).map (new+ ·):=(by apply zQ6;grind);grind [Hc]);have ak: ∀b,b∈fresh.map (·.1)↔new<=b/\b<new+k:=(by intro b;constructor;grind [List.getElem?_of_mem];intro hm;have:=ab (b-new) (by omega);grind);have W:(upd (n++fresh) s1.σ).length=s1.σ.length:=zY _ _;have U: ∀{q:Nat} {en:Ent},es[q]?=some en->en.id<s1.σ.length/\ ¬(new<=en.id/\en.id<new+k):=by
  intro q en C;obtain⟨x,_,Z⟩:=rL cin C;have z: ∃y,s1.σ[en.id]?=some y/\y≠.dead:=by
   cases en with
   |whole b=>
    rcases Z with⟨cs',l,h1,h2,rfl⟩|⟨w,a1,rows',h1,rfl⟩;exact⟨_,h1,by simp⟩;exact⟨_,h1,by simp⟩
   |elem b ext i=>obtain⟨a1,rows',row,h1,h2,h3,rfl⟩:=Z;exact⟨_,h1,by simp⟩
  obtain⟨y,z,hd⟩:=z;refine⟨JA z,λhm=>?_⟩;have:=B (en.id-new) (by omega);rw[show new+(en.id-new)=en.id by omega,z]at this;grind
 have aa: ∀{q:Nat} {en:Ent} {y:Nat×Blk},es[q]?=some en->n[q]?=some y->(upd (n++fresh) s1.σ)[en.id]?=some y.2:=by intro q en y C z;obtain⟨A,b7⟩:=U C;have E:r.2[q]?=some (r.2[q]'(by grind)):=zQ9 _;have af:=(b3 q en _ y C E z).1;rw[wZ _ _ _ A,tm,xL (by grind)];simp only;rw[ff (x:=y.2) (by rw[ac];exact cin.nodup) (k:=q) (by grind)]
 have au: ∀{j:Nat} {y:Nat×Blk},j<k->fresh[j]?=some y->(upd (n++fresh) s1.σ)[new+j]?=some y.2:=(by grind [wZ,tm,ff]);have co:pw s1 es blks new k ⟨r.2,g',w'⟩ (upd (n++fresh) s1.σ):=by
  refine⟨cin,a7,I,hlen,W,B,λq y z=>?_,λb bb b8=>?_⟩;have z:r.2[q]?=some y:=z;unfold pS;cases C:es[q]? with
  |some en=>
   have A:=JA C;have L:n[q]?=some (n[q]'(by omega)):=zQ9 _;obtain⟨af,a0⟩:=b3 q en y _ C z L;have hg:=aa C L;cases en with
   |whole b=>
    rcases a0 with⟨cs,l,G,E,J⟩|⟨w,esz,rows,G,J⟩;exact .inl ⟨cs,l,G,E,by rw[<-J];exact hg⟩;exact .inr ⟨w,esz,rows,G,by rw[<-J];exact hg⟩
   |elem b ext i=>obtain⟨w,esz,rows,a4,G,E,J⟩:=a0;exact⟨w,esz,rows,a4,G,E,by rw[<-J];exact hg⟩
  |none=>
   have ba:es.length<=q:=(by grind);have A:=JA z;have L:fresh[q-es.length]?=some (fresh[q-es.length]'(by omega)):=zQ9 _;grind
  grind [wZ,xL]
 have oi:=JHQ co;have ot:=s5 co;have D:upd (ar.2++n++fresh) s.σ=upd (n++fresh) s1.σ:=by grind [fH]
 refine T rv w' (fT s1 es new k ⟨r.2,g',w'⟩ (upd (n++fresh) s1.σ)).g ?_ ?_ ?_;rw[D];exact oi;rw[D];exact t1.trans ot;rw[D];exact qt co a2 hv;cases h;cases h;cases h
theorem qa{f:FuncId}{args:List AV}{k:Nat}{s:St}(h:(iQ F f args k new).run s=some e): ∃ar,(kT args).run s=some ar/\(gH F f ar k new).run s=some e:=by
 unfold iQ at h;obtain⟨ar,h1,h⟩:=bind_some h;obtain⟨v,h2,h⟩:=bind_some h;obtain⟨es,h3,h⟩:=bind_some h;refine⟨ar,h1,?_⟩;unfold gH;rw[run_bind,h2,JI,run_bind,h3,JI];split at h;rename_i n;rw[if_pos n];split at h;cases h;rename_i o g;obtain⟨blks,q,h⟩:=bind_some h
 try rw[g]
 try dsimp only
 rw[run_bind,q,JI];split at h;cases h;rename_i r j
 try rw[j]
 try dsimp only
 split at h;grind;cases h;cases h
theorem qd(A:jX P F)(hi:Inv s){f:FuncId}{args:List AV}{k:Nat}{vals:Array Value}(g: ∀j,j<k->s.σ[new+j]?=some .dead)
  (h:(iQ F f args k new).run ⟨env,s.σ⟩=some e) (hl:args.length=vals.size) (hr: ∀(i:Nat) x v,args[i]?=some x->vals[i]?=some v->JK s x v)
  (r: ∀fn,P.funcs[f]?=some fn→fn.body.isSome=true→(fn.name== "runtime.NumGoroutine")=false→(execOp a.eval o).run P s.w=.ok (.enter f vals) s.w):bS P o a s e:=by
 obtain⟨ar,h1,h2⟩:=qa h;obtain⟨D,i1,B,z,C,y⟩:=tv (vs:=vals.toList) hi (.refl _) h1 (by simpa using hl) (λi x v n q=>hr i x v n (by simpa using q));grind [tr]
theorem JDp{r:List Blk}: ∀{m:List Bool} {xs:List AV} {s:Sn} {y:List AV×List (Nat×Blk)} {vs:List Value},Inv s->Frz r s.σ->(fR m xs).run ⟨env,r⟩=some y->xs.length=vs.length->
  (∀(i:Nat) x v,xs[i]?=some x->vs[i]?=some v->JK s x v)->
  ∃g',Inv ⟨upd y.2 s.σ,g',s.w⟩/\bE s ⟨upd y.2 s.σ,g',s.w⟩/\Frz s.σ (upd y.2 s.σ)/\y.1.length=vs.length/\
   ∀(i:Nat) x v,y.1[i]?=some x->vs[i]?=some v->JK ⟨upd y.2 s.σ,g',s.w⟩ x v:=by
 intro m xs
 induction xs generalizing m with
 |nil=>
  intro s y vs hi q h j k;have h:(RM.ret ([],[]):RM (List AV×List (Nat×Blk))).run ⟨env,r⟩=some y:=by cases m<;>exact h
  simp only[RM.run]at h;injection h with h;subst h;exact⟨s.g,hi,.refl s,.refl _,by simpa using j,λi c v M=>by simp at M⟩
 |cons x xs ih=>
  intro s y vs hi q h j k;cases vs with
  |nil=>simp at j
  |cons v vs=>
   have z: ∀{A:List Bool},((jJ x).bind λa=>(fR A xs).bind λc=>.ret (a.1::c.1,a.2++c.2)).run ⟨env,r⟩=some y->
     ∃g',Inv ⟨upd y.2 s.σ,g',s.w⟩/\bE s ⟨upd y.2 s.σ,g',s.w⟩/\Frz s.σ (upd y.2 s.σ)/\y.1.length=(v::vs).length/\
      ∀(i:Nat) x o,y.1[i]?=some x->(v::vs)[i]?=some o->JK ⟨upd y.2 s.σ,g',s.w⟩ x o:=by
    intro A h;obtain⟨I,h1,h⟩:=bind_some h;obtain⟨K,h2,h⟩:=bind_some h;simp only[RM.run]at h;injection h with h;subst h;obtain⟨L,i1,H,G,N⟩:=r4 hi q h1 (k 0 x v rfl rfl);obtain⟨C,i2,n,B,F,J⟩:=ih (m:=A) (s:=⟨upd I.2 s.σ,L,s.w⟩) i1 (q.trans G) h2 (by simpa using j) λi x v D E=>(k (i+1) x v (by simpa using D) (by simpa using E)).mono hi H;refine⟨C,by grind [fH],by rw[fH];exact H.trans n,by rw[fH];exact G.trans B,by simp[F],λi c' o hc' e=>?_⟩;grind [JK.mono,upd]
   cases m with
   |nil=>exact z h
   |cons b m=>
    cases b with
    |false=>exact z h
    |true=>
     simp only[fR]at h;obtain⟨K,h2,h⟩:=bind_some h;simp only[RM.run]at h;injection h with h;subst h;obtain⟨C,i2,n,B,F,J⟩:=ih (m:=m) hi q h2 (by simpa using j) λi x v D E=>k (i+1) x v (by simpa using D) (by simpa using E);refine⟨C,i2,n,B,by simp[F],λi c' o hc' e=>?_⟩;cases i with
     |zero=>simp at hc' e;subst hc' e;exact(k 0 x v rfl rfl).mono hi n
     |succ i=>grind
theorem iy{f:FuncId}{args:Array Value}{fn:Func}(h1:P.funcs[f]?=some fn)(h2:fn.body.isSome=true)(h3:(fn.name== "runtime.NumGoroutine")=false)(w:World):
  (callFunc f args).run P w=.ok (.enter f args) w:=by
 have e:fn.name≠ "runtime.NumGoroutine" :=by simpa using h3
 have g:fn.body≠none:=by grind
 simp_all [callFunc]
theorem JIb(y:jX P F)(hi:Inv s)(he:bT s a.tmps env){f args k}(n: ∀j,j<k->s.σ[new+j]?=some .dead)(h:(opR F (.call f args k) new).run ⟨env,s.σ⟩=some e)
  (hc:JX P (.call f args k) o.op=true):bS P o a s e:=by
 simp only[opR]at h;obtain⟨vs,h1,w⟩:=bind_some h;clear h;unfold JX at hc;simp only at hc;split at hc;rename_i c C;split at hc;rename_i g z;simp only[JZ,beq_iff_eq]at hc;obtain⟨rfl,q⟩:=hc;obtain⟨l,r⟩:=FJ he h1 q;refine qd y hi n w (vals:=c.args.map a.eval) (by simpa using l) (λi x v A B=>r i x v A (by simpa using B)) λfn G E D=>?_;simp_all [execOp,resolve,Act.eval,Deferred.ofValue,invoke,iy];cases hc;cases hc
theorem JEQ(A:jX P F)(hi:Inv s)(he:bT s a.tmps env){f keep args k}(n: ∀j,j<k->s.σ[new+j]?=some .dead)(h:(opR F (.callo f keep args k) new).run ⟨env,s.σ⟩=some e)
  (hc:JX P (.callo f keep args k) o.op=true):bS P o a s e:=by
 simp only[opR]at h;obtain⟨vs,h1,w⟩:=bind_some h;obtain⟨ar,h2,h3⟩:=bind_some w;clear h w;unfold JX at hc;simp only at hc;split at hc;rename_i c I;split at hc;rename_i g B;simp only[JZ,beq_iff_eq]at hc;obtain⟨rfl,q⟩:=hc;obtain⟨l,r⟩:=FJ he h1 q;obtain⟨E,i1,C,z,D,y⟩:=JDp (vs:=(c.args.map a.eval).toList) hi (.refl _) h2 (by simpa using l) (λi x v G H=>r i x v G (by simpa using H));refine tr A n (vals:=c.args.map a.eval) i1 C z D y h3 λfn E K J=>?_;simp_all [execOp,resolve,Act.eval,Deferred.ofValue,invoke,iy];cases hc;cases hc
theorem JEM(C:jX P F)(hi:Inv s)(he:bT s a.tmps env){x args k}(g: ∀j,j<k->s.σ[new+j]?=some .dead)(h:(opR F (.callv x args k) new).run ⟨env,s.σ⟩=some e)
  (hc:JX P (.callv x args k) o.op=true):bS P o a s e:=by
 simp only[opR]at h;obtain⟨u,h0,q⟩:=bind_some h;clear h;unfold JX at hc;simp only at hc;split at hc;rename_i c E;split at hc;rename_i y D;simp only[JZ]at hc;obtain⟨B,n⟩:=hc;have A:=bL he h0 B;cases u with
 |fn f first caps=>
  dsimp only at q;obtain⟨vs,h1,w⟩:=bind_some q;obtain⟨l,r⟩:=FJ he h1 n;generalize M:a.eval y=z at A;cases A with
  |fn _ _ _ fs cs J I G H=>
   have l':vs.length=c.args.size:=by simpa using l
   refine qd C hi g w (vals:=fs++c.args.map a.eval++cs) (by simp;omega) (λi x v B O=>?_) λfn N L K=>?_;grind;grind [execOp,resolve,Deferred.ofValue,invoke,iy]
 |_=>cases q
 cases hc;cases hc
end
end Go.Am
end
section
namespace Go.Am
section
variable {P:Program} {F:Orc} {s:Sn} {a:Act} {env:List (Nat×AV)} {o:Oper} {new:Nat} {e:Eff}
theorem ex: ∀(os:List (Nat×Nat)) (n:Nat) {s:Sn},Inv s->(∀j,j<os.length->s.σ[n+j]?=some .dead)->
  ∃g',Inv ⟨upd (hZ os n) s.σ,g',s.w⟩/\bE s ⟨upd (hZ os n) s.σ,g',s.w⟩/\
   (∀j,j<os.length->(∃esz,(upd (hZ os n) s.σ)[n+j]?=some (.arr true esz []))/\g'.μ (n+j)=none)/\
   (∀b,b<n\/n+os.length<=b->(upd (hZ os n) s.σ)[b]?=s.σ[b]?/\g'.μ b=s.g.μ b)
 |[],n,s,hi,_=>⟨s.g,hi,.refl s,λj e=>by simp at e,λb _=>⟨rfl,rfl⟩⟩
 |(off,esz)::r,n,s,hi,hd=>by
  obtain⟨i1,v⟩:=QL hi (hd 0 (by simp)) esz;obtain⟨g',i2,q,h1,h2⟩:=ex r (n+1) (s:=⟨s.σ.set n (.arr true esz []),fP s.g n none,s.w⟩) i1 (λj e=>by
   show(s.σ.set n _)[n+1+j]?=_;rw[sG (by omega)];have:=hd (j+1) (by simp;omega);grind)
  refine⟨g',i2,v.trans q,λj e=>?_,λb x=>?_⟩;cases j with
  |zero=>
   obtain⟨o,k⟩:=h2 n (.inl (by omega));refine⟨⟨esz,?_⟩,?_⟩;grind [upd,hZ];rw[yO,k];exact if_pos rfl
  |succ j=>have:=h1 j (by simpa using e);rw[show n+(j+1)=n+1+j by omega];exact this
  obtain⟨o,k⟩:=h2 b (by grind);have h:n≠b:=by grind
  exact⟨o.trans (sG h),k.trans (if_neg (Ne.symm h))⟩
theorem vm{t:TypeId}{os:List (Nat×Nat)}{v:Value}(hv:zeT P t=some v)(h:OD P t os=true): ∀x∈os,v.cells[x.1]?=some (.slice none 0 0):=by
 grind [OD]
theorem eu{cells:Array Value}: ∀(os:List (Nat×Nat)) (n:Nat) {cs:List AV},(∀x∈os,cells[x.1]?=some (.slice none 0 0))->
  (∀j,j<os.length->(∃esz,s.σ[n+j]?=some (.arr true esz []))/\s.g.μ (n+j)=none)->
  (∀(i:Nat) x,cs[i]?=some x-> ∃u,cells[i]?=some u/\JK s x u/\u.oneCell'=true)->
  ∀(i:Nat) x,(mO os n cs)[i]?=some x-> ∃u,cells[i]?=some u/\JK s x u/\u.oneCell'=true
 |[],_,_,_,_,h=>h
 |(off,esz)::r,n,cs,hz,ha,h=>by
  refine eu r (n+1) (λx e=>hz x (by simp[e])) (λj q=>by
   have:=ha (j+1) (by simpa using q);grind) λi x e=>?_
  by_cases hi:off=i;subst hi;have k:=JA e;rw[List.length_set]at k;rw[DK k]at e;injection e with e;subst e;obtain⟨⟨o,h1⟩,h2⟩:=ha 0 (by simp);rw[yO]at h1 h2;exact⟨.slice none 0 0,hz (off,esz) (by simp),.slr n 0 0 _ true o [] ⟨none,0,rfl,.inl rfl⟩ h1 (zQ0 _) λ_=>.inl ⟨h2,rfl,rfl,rfl⟩,rfl⟩;simp_all
theorem fb: ∀(os:List (Nat×Nat)) (n:Nat) (cs:List AV),(mO os n cs).length=cs.length|[],_,_=>rfl|_::r,n,cs=>(fb r (n+1) _).trans (by simp)
theorem JAw(hi:Inv s){zero os}(n: ∀j,j<os.length+1->s.σ[new+j]?=some .dead)(h:(opR F (.newboxo zero os) new).run ⟨env,s.σ⟩=some e)(hc:JX P (.newboxo zero os) o.op=true):bS P o a s e:=by
 simp only[opR,RM.run]at h;injection h with h;subst h;unfold JX at hc;simp only at hc;split at hc;rename_i t K;simp only[JZ]at hc;obtain⟨D,G⟩:=hc;obtain⟨v,H,M,E⟩:=uP D;obtain⟨y,i1,A,h1,h2⟩:=ex os new hi λj O=>n j (by omega);have r:(upd (hZ os new) s.σ)[new+os.length]?=some .dead:=((h2 _ (.inr (zQ0 _))).1).trans (n _ (by omega))
 let s1:Sn:=⟨upd (hZ os new) s.σ,y,s.w⟩
 obtain⟨B,t'⟩:=QE (s0:=s1) i1 r (blk:=.box (mO os new (zero.map .p))) (c:=v.cells) (e:=t) (fz:=(0,0)) (w':={s.w with heap:=s.w.heap.push (.cells v.cells t)}) rfl rfl rfl
  (λo _ _ h=>by simp at h) (λ_ _ _ h=>by cases h) ⟨by grind [fb],λi x q=>by
   obtain⟨u,N,L,J⟩:=eu (s:=s1) (cells:=v.cells) os new (vm H G) h1 (λi x q=>by
    rw[gA]at q;cases hzi:zero[i]? with
    |none=>simp_all
    |some c=>
     simp[hzi]at q;subst q;have I:=JA hzi;have z:i<v.cells.size:=by omega
     have:=E (w:=s1.w) (C:=s1.g.C) i c v.cells[i] hzi (by simp);exact⟨v.cells[i],by simp,.p _ _ this,this.one⟩) i x q
   simp_all⟩
 have k:upd (hZ os new++[(new+os.length,Blk.box (mO os new (zero.map .p)))]) s.σ=(upd (hZ os new) s.σ).set (new+os.length) (.box (mO os new (zero.map .p))):=by rw[fH];rfl
 refine iF (e:=⟨.ptr (new+os.length) 0,hZ os new++[(new+os.length,.box (mO os new (zero.map .p)))]⟩) (v:=.pointer (some ⟨s.w.heap.size,0,none⟩)) (g':=fP y (new+os.length) (some (s.w.heap.size,0))) ?_
  (by rw[k];exact B) (by rw[k];exact A.trans t') (by rw[k];exact .ptr (new+os.length) 0 _ 0 (if_pos rfl) ⟨_,kJ r⟩)
 simp_all [execOp,Instr.alloc,FP,newVar,newRow];cases hc
theorem JDm(hi:Inv s)(he:bT s a.tmps env)(hn:s.σ[new]?=some .dead){esz x}(h:(opR F (.storen esz x) new).run ⟨env,s.σ⟩=some e)(hc:JX P (.storen esz x) o.op=true):bS P o a s e:=by
 simp only[opR]at h;obtain⟨u,h1,L⟩:=bind_some h;obtain⟨H,h2,h3⟩:=bind_some L;clear h L;simp only[RM.run]at h3;injection h3 with h3;subst h3;obtain⟨J,Q⟩:=QL hi hn esz;unfold JX at hc;simp only at hc;split at hc;rename_i t M ag;simp only[JZ,beq_iff_eq]at hc;obtain⟨hs,hx⟩:=hc;have v:=bL he h1 hx;have N: ∀{r n:Nat} {w':World},a.eval M=.pointer (some ⟨r,n,none⟩)->(storeVar t ⟨r,n,none⟩ (.slice none 0 0)).run P s.w=.ok () w'->(execOp a.eval o).run P s.w=.ok .skip w':=by intro r n w' R a9;have ac:a.eval (.const (.slice none 0 0))=.slice none 0 0:=rfl;simp_all [execOp,Instr.storeAt,Instr.sureAddr]
 unfold iS at h2;split at h2;rename_i b off;simp only[RM.run]at h2;split at h2;rename_i blk G;split at h2;rename_i cs;split at h2;rename_i l hl;split at h2;rename_i a6;split at h2;rename_i cs' C;simp only[RM.run]at h2;injection h2 with h2;subst h2;have G:s.σ[b]?=some (.box cs):=G;have O:new≠b:=λe=>by simp_all
 let s1:Sn:=⟨s.σ.set new (.arr true esz []),fP s.g new none,s.w⟩
 have B:s1.σ[b]?=some (.box cs):=(sG O).trans G;have Z:JK s1 (.slr new 0 0) (.slice none 0 0):=
  .slr new 0 0 _ true esz [] ⟨none,0,rfl,.inl rfl⟩ (kJ hn) (zQ0 _) λ_=>.inl ⟨if_pos rfl,rfl,rfl,rfl⟩
 generalize R:a.eval M=z at v;have v:=JK.mono (s:=s1) hi Q v;cases v with
 |ptr _ _ r n m aa=>
  obtain⟨k1,I,Y⟩:=SR hl Z;obtain⟨S,j2,U,j4⟩:=PW C;obtain⟨r1,o1,c,W,fz,A,D,ad,ab,hf⟩:=J.box b cs B;rw[m]at A;injection A with A;injection A with m1 m2;subst m1 m2;have q:=MY (vs:=(Value.slice none 0 0).cells.toList) (o:=n+off) D (by simp;omega);have hlen:(Value.slice none 0 0).cells.toList.length=l.length:=by simp[k1]
  obtain⟨i',t'⟩:=gi (s0:=s1) J (blk:=.box cs') B q (λk h1 h2=>by
   grind [Wr1]) (.box _ _ S) (λa7 j E=>by
   injection j with j;subst j;obtain⟨c0,e0,af,c',y,T,p3,p4,V,p6⟩:=q.there;rw[D]at y;injection y with y;injection y with q1 q2 q3;subst q1 q2 q3;refine⟨r,n,c',W,fz,m,T,by omega,λi x K=>?_,by simp_all⟩;by_cases ah:off<=i/\i<off+l.length;have H:cs'[off+(i-off)]?=l[i-off]?:=U (i-off) (by omega);rw[show off+(i-off)=i by omega,K]at H;have a8:i-off<(Value.slice none 0 0).cells.size:=by omega
   have e2:=V (i-off) (Value.slice none 0 0).cells[i-off] (by simp);refine⟨(Value.slice none 0 0).cells[i-off],by rw[<-e2];congr 1;omega,E (Y (i-off) x _ H.symm (by simp)),I _ (by simp)⟩;grind)
   (λ_ _ j=>by cases j)
  refine fx (e:=⟨gY,(new,.arr true esz [])::[(b,.box cs')]⟩) (N R (ir (by simp_all) D (by omega) (λk h1 h2=>hf k (by omega) (by omega)) I)) rfl i' (Q.trans t')
 cases h2;cases h2;cases h2;cases h2;cases h2;rename_i b ext i off;have ae:(fz (.slr new 0 0)).run ⟨env,s.σ⟩=none:=(by grind [fz,RM.run]);simp only[RM.run]at h2;split at h2;split at h2;split at h2;split at h2;grind [run_bind];cases h2;cases h2;cases h2;cases h2;cases h2;cases hc
theorem JDK(hi:Inv s)(he:bT s a.tmps env){zero parts os}(G: ∀j,j<os.length->s.σ[new+j]?=some .dead)(h:(opR F (.buildo zero parts os) new).run ⟨env,s.σ⟩=some e)
  (hc:JX P (.buildo zero parts os) o.op=true):bS P o a s e:=by
 simp only[opR]at h;obtain⟨l,h1,q⟩:=bind_some h;clear h;unfold JX at hc;simp only at hc;split at hc;rename_i t ps ab;simp only[JZ]at hc;obtain⟨⟨hz,hn⟩,E⟩:=hc;obtain⟨z,O,ac,R⟩:=uP hz;obtain⟨T,i1,Q,L,ad⟩:=ex os new hi G;split at q;rename_i cs hcs;split at q;rename_i r h3;simp only[RM.run]at q;injection q with q;subst q
 let s1:Sn:=⟨upd (hZ os new) s.σ,T,s.w⟩
 have H: ∀(i:Nat) x,(mO os new (zero.map AV.p))[i]?=some x-> ∃u,z.cells[i]?=some u/\JK s1 x u/\u.oneCell'=true:=
  eu (s:=s1) (cells:=z.cells) os new (vm O hn) L (by
   intro i x K;rw[gA]at K;cases hzi:zero[i]? with
   |none=>simp_all
   |some c=>
    simp[hzi]at K;subst K;have M:=JA hzi;have a0:i<z.cells.size:=by omega
    have:=R (w:=s1.w) (C:=s1.g.C) i c z.cells[i] hzi (by simp);exact⟨z.cells[i],by simp,.p _ _ this,this.one⟩)
 have fin: ∀{place:Nat->Option (Nat×Nat)},sB place parts ps.toList=true->
   ∃n,Instr.fill place z.cells (ps.toList.map λx=>(x.1,a.eval x.2))=some n/\JK s1 r (.agg n):=by
  intro place D;obtain⟨W,k2⟩:=gx he h1 D;obtain⟨n,N,f2,f3⟩:=fo (s:=s1) (cells:=z.cells) hcs W (λk off size cs i v hk I=>by obtain⟨p1,Z,V,Y⟩:=k2 k off size cs i v hk I;exact⟨p1,Z,V,λj y u U J=>(Y j y u U J).mono hi Q⟩) (by grind [fb]) H;refine⟨n,N,?_⟩;have:=PG (s:=s1) (vs:=n.toList) h3 (by simpa using f2) (λv I=>by
    obtain⟨i,A⟩:=mT I;have A:n[i]?=some v:=by simpa using A
    have M:=SF A;obtain⟨u,J,_,h1⟩:=f3 i cs[i] (by simp_all);simp_all)
   (λi y v U I=>by
    grind)
  simp_all
 have ae:(ps.map λx=>(x.1,a.eval x.2)).toList=ps.toList.map λx=>(x.1,a.eval x.2):=by simp
 split at E;rename_i fs J;simp only[JZ]at E;obtain⟨B,D⟩:=E;obtain⟨n,N,hr⟩:=fin D;have aa:(λi=>(fs.map λf=>(f.offset,(szT P f.type).getD 0))[i]?)=FK P fs:=by
  funext i
  simp only[FK,Array.getElem?_map];cases hfi:fs[i]? with
  |none=>rfl
  |some f=>have:=UH.1 B f (Array.mem_of_getElem? hfi);cases hq:szT P f.type<;>simp[hq]at this⊢
 have a4:(fs.mapM λf=>do pure (f.offset,<-sizeOf f.type):Sem (Array (Nat×Nat))).run P s.w=.ok (fs.map λf=>(f.offset,(szT P f.type).getD 0)) s.w:=by
  rw[Array.mapM_eq_mapM_toList];simp only[Sem.run_map,g5 (P:=P) (fs:=fs.toList) (λf S=>UH.1 B f (by simpa using S)),tL]
  congr 1
  grind
 have S:Instr.fill (λi=>(fs.map λf=>(f.offset,(szT P f.type).getD 0))[i]?) z.cells (ps.map λx=>(x.1,a.eval x.2)).toList=some n:=by simp_all
 have hb:(Instr.build t (ps.map λx=>(x.1,a.eval x.2))).run P s.w=.ok (.agg n) s.w:=by simp_all [Instr.build,FP,run_underlying]
 refine iF (e:=⟨r,hZ os new⟩) (v:=.agg n) (g':=T) ?_ i1 Q hr;simp_all [execOp];cases E;cases q;cases q;cases hc
end
end Go.Am
end
section
namespace Go.Am
theorem o6{new:Nat}{env:List (Nat×AV)}{σ:List Blk}: ∀{k new:Nat} {u:Unit},(tR new k).run ⟨env,σ⟩=some u-> ∀j,j<k->σ[new+j]?=some .dead
 |0,_,_,_,j,hj=>by omega
 |k+1,new,u,h,j,hj=>by
  simp only[tR,RM.run]at h;split at h;rename_i x e;cases x with
  |dead=>
   dsimp only at h;cases j with
   |zero=>exact e
   |succ j=>have:=o6 (new:=0) h j (by omega);grind
  |box=>cases h
  |arr=>cases h
  cases h
section
variable {P:Program} {F:Orc} {s:Sn} {a:Act} {env:List (Nat×AV)} {o:Oper} {new:Nat} {e:Eff}
theorem JLG(q:jX P F)(hi:Inv s)(he:bT s a.tmps env){n:AOp}(h:(opD F n new).run ⟨env,s.σ⟩=some e)(hc:JX P n o.op=true):bS P o a s e:=by
 unfold opD at h;obtain⟨u,r,h⟩:=bind_some h;have g:=o6 (new:=0) r;clear r;have j:lR n=1->s.σ[new]?=some .dead:=λh1=>g 0 (by omega);cases n with
 |mv x=>grind [JLi]
 |mkarr esz x=>exact JF8 hi (j rfl) h hc
 |pick=>grind [JHA]
 |newbox=>exact JDL hi (j rfl) h hc
 |box=>exact JJ6 hi he (j rfl) h hc
 |build=>grind [JFd]
 |lits=>grind [JIk,lR]
 |load=>grind [JIq]
 |store=>grind [JFQ]
 |nilchk=>grind [JCX]
 |bin op t x y=>cases t<;>grind [I8,Gd,Gs,Fh,G0,Fk]
 |un=>grind [JL4]
 |conv k x=>
  grind [JBH,lR,JId]
 |mkslice=>grind [JBe,lR]
 |slice=>grind [JF7]
 |faddr=>grind [JFg]
 |field=>grind [JFr]
 |iaddr=>grind [JG3]
 |aaddr=>grind [JGp]
 |sidx=>grind [JHH]
 |aidx=>grind [JIg]
 |extr=>grind [JIm]
 |call=>exact JIb q hi he g h hc
 |callv=>exact JEM q hi he g h hc
 |len=>grind [JJ2]
 |alen=>grind [JIJ]
 |app=>grind [JJg]
 |appz=>grind [JIG]
 |appn=>exact JIi hi he (j rfl) h hc
 |appc=>exact JHu hi he (j rfl) h hc
 |mm=>grind [Z8]
 |mkfn=>grind [JHF]
 |newboxo=>exact JAw hi g h hc
 |buildo=>exact JDK hi he g h hc
 |storen=>exact JDm hi he (j rfl) h hc
 |callo=>exact JEQ q hi he g h hc
end
def zR(P:Program)(N:Nat)(ops:Array Oper)(i:cD)(o:Oper):Bool:=
 JX P i.op o.op&&i.dst==o.dst&&(match i.dst with
  |some d=>decide (d<N)
  |none=>true)&&(match i.g,o.guard with
  |none,none=>true
  |some (g,w),some (j,w')=>w==w'&&(ops[j]?).bind (·.dst)==some g
  |_,_=>false)
def Sim(N:Nat)(E:Sn)(st:St)(a:Act)(w:World):Prop:=a.tmps.size=N/\a.defers=[]/\ ∃g,Inv ⟨st.sto,g,w⟩/\bT ⟨st.sto,g,w⟩ a.tmps st.env/\bE E ⟨st.sto,g,w⟩
theorem bT.put{s:Sn}{tmps:Array Value}{env:List (Nat×AV)}(he:bT s tmps env){d:Nat}(hd:d<tmps.size){x:AV}{v:Value}(hv:JK s x v):
  bT s (tmps.setIfInBounds d v) ((d,x)::env):=by
 intro n y e;simp only[lk]at e;split at e;simp_all;rename_i g;obtain⟨u,h1,h2⟩:=he n y e;grind
theorem Sim.putd{N:Nat}{E:Sn}{st:St}{a:Act}{w w':World}{g g':Gh}{e:Eff}{v:Value}{d:Option Nat}
  (h1:a.tmps.size=N) (h2:a.defers=[]) (hi:Inv ⟨st.sto,g,w⟩) (he:bT ⟨st.sto,g,w⟩ a.tmps st.env) (n:bE E ⟨st.sto,g,w⟩) (hd: ∀x,d=some x->x<N)
  (j:Inv ⟨upd e.ws st.sto,g',w'⟩) (h:bE ⟨st.sto,g,w⟩ ⟨upd e.ws st.sto,g',w'⟩) (hv:JK ⟨upd e.ws st.sto,g',w'⟩ e.val v):
  Sim N E (Am.put d e st) (a.put d v) w':=by
 have k:=he.mono hi h;cases d with
 |none=>exact⟨h1,h2,g',j,k,n.trans h⟩
 |some d=>exact⟨by grind [Act.put],h2,g',j,k.put (by simp_all) hv,n.trans h⟩
section
variable {P:Program} {F:Orc} {N:Nat} {E:Sn} {st:St} {a:Act} {w:World} {ops:Array Oper} {i:cD} {o:Oper} {e:Eff} {new k:Nat} {Q:Exit->Act->World->Prop} {K:Act->World->Prop}
theorem JB1{s:Sn}:JK s gY undef:=.tup _ _ rfl λi x v h=>by simp at h
theorem Do(G:jX P F)(hs:Sim N E st a w)(ho:ops[k]?=some o)(hc:zR P N ops i o=true)(h:(cE F i new).run st=some e)
  (next: ∀n w',Sim N E (Am.put i.dst e st) n w'->K n w'):wpOp P ops Q k K a w:=by
 obtain⟨h1,h2,g,hi,y,D⟩:=hs;simp only[zR,JZ,beq_iff_eq]at hc;obtain⟨⟨⟨hc,I⟩,M⟩,q⟩:=hc;have z: ∀x,i.dst=some x->x<N:=(by grind);have run: ∀{e:Eff},(opD F i.op new).run st=some e->(∀n w',Sim N E (Am.put i.dst e st) n w'->K n w')->o.wp P a w K Q:=(by intro e h next;refine JLG (s:=⟨st.sto,g,w⟩) (env:=st.env) G hi y h hc K Q λv w' g' J L A=>next _ _ ?_;grind [Sim.putd]);have skip:(∀n w',Sim N E (Am.put i.dst ⟨gY,[]⟩ st) n w'->K n w')->K (a.put o.dst undef) w:=by intro next;refine next _ _ ?_;rw[<-I];exact Sim.putd (e:=⟨gY,[]⟩) h1 h2 hi y D z hi (.refl _) JB1
 unfold wpOp;rw[ho];dsimp only;unfold cE at h;cases hig:i.g with
 |none=>
  grind [Region.wanted]
 |some H=>
  obtain⟨O,C⟩:=H;rw[hig]at h q;cases hog:o.guard with
  |none=>simp_all
  |some x=>
   obtain⟨j,B⟩:=x;rw[hog]at q;simp only[JZ,beq_iff_eq]at q;obtain⟨rfl,U⟩:=q;simp only[RM.run]at h;split at h;rename_i v A;obtain⟨u,T,r⟩:=y _ _ A;split at h;rename_i b;cases r with
   |p _ _ r=>
    cases r with
    |b x=>
     have S:yielded ops a.tmps j=some b:=by grind [yielded]
     grind [Region.wanted,RM.run]
   cases r with
   |tup _ vs R _=>
    grind [yielded,Region.wanted,RM.run]
   cases h;cases h
end
theorem qw{σ:List Blk}{n b:Nat}{x:Blk}(h:(σ++List.replicate n Blk.dead)[b]?=some x)(hx:x≠.dead):σ[b]?=some x:=by
 grind
theorem tx{σ:List Blk}{n b:Nat}{x:Blk}(h:σ[b]?=some x):(σ++List.replicate n Blk.dead)[b]?=some x:=by
 grind
theorem PY{σ:List Blk}{g:Gh}{w:World}{n b r o:Nat}:Wr1 ⟨σ++List.replicate n .dead,g,w⟩ b r o↔Wr1 ⟨σ,g,w⟩ b r o:=by
 grind [Wr1]
theorem g7{σ:List Blk}{g:Gh}{w:World}{n:Nat}:bE ⟨σ,g,w⟩ ⟨σ++List.replicate n .dead,g,w⟩ where
 keep:=.refl _ _
 cmono _ _ h:=h
 cnew _ _ h:=.inl h
 wnew _ _ h:=let⟨b,e⟩:=h;.inl ⟨b,PY.1 e⟩
 len:=by simp
 box b cs h:=⟨⟨cs,tx h,rfl⟩,rfl⟩
 arr b wm esz rows h:=⟨wm,rows,tx h,id,zQ0 _,λ_=>rfl⟩
theorem JGQ{σ:List Blk}{g:Gh}{w:World}{n:Nat}(hi:Inv ⟨σ,g,w⟩):Inv ⟨σ++List.replicate n .dead,g,w⟩:=by
 have t:=g7 (σ:=σ) (g:=g) (w:=w) (n:=n);refine⟨λb cs h=>?_,λb wm esz rows h=>?_,λb1 b2 r o h1 h2=>hi.apart b1 b2 r o (PY.1 h1) (PY.1 h2),λr o j=>⟨(hi.const r o j).1,λb B=>(hi.const r o j).2 b (PY.1 B)⟩⟩;obtain⟨r,o,c,e,fz,C,F,D,z,y⟩:=hi.box b cs (qw h (by simp));exact⟨r,o,c,e,fz,C,F,D,λi x E=>let⟨v,k,A,q⟩:=z i x E;⟨v,k,A.mono hi t,q⟩,y⟩;exact hi.arr b wm esz rows (qw h (by simp))
theorem Sim.room{N:Nat}{E:Sn}{st:St}{a:Act}{w:World}(h:Sim N E st a w)(n:Nat):Sim N E ⟨st.env,room n st.sto⟩ a w:=by
 unfold Am.room;split;exact h;obtain⟨h1,h2,g,hi,j,e⟩:=h;exact⟨h1,h2,g,JGQ hi,j.mono hi g7,e.trans g7⟩
theorem Sim.heap{N:Nat}{E:Sn}{st:St}{a:Act}{w w':World}(h:Sim N E st a w)(e:w'.heap=w.heap)(ho:w'.os=w.os)(hp:w'.output=w.output):Sim N E st a w':=by obtain⟨h1,h2,g,hi,n,k⟩:=h;obtain⟨j,t'⟩:=fy hi e ho hp;exact⟨h1,h2,g,j,n.mono hi t',k.trans t'⟩
theorem Sim.congr{N:Nat}{E:Sn}{st st':St}{a:Act}{w:World}(h:Sim N E st a w)(he: ∀m,lk m st'.env=lk m st.env)(hs:st'.sto=st.sto):Sim N E st' a w:=by obtain⟨h1,h2,g,hi,j,e⟩:=h;refine⟨h1,h2,g,?_⟩;rw[hs];exact⟨hi,λn x k=>j n x (by simp_all),e⟩
end Go.Am
end
section
namespace Go.Am
def fI(P:Program)(N:Nat)(ops:Array Oper):List cD->List Oper->Bool|[],[]=>true|i::r,o::q=>zR P N ops i o&&fI P N ops r q|_,_=>false
def SI(x y:cD):Bool:=
 (match x.dst with
 |none=>true
 |some m=>y.dst !=some m&& !(xF y).contains m)&&(match y.dst with
 |none=>true
 |some m=> !(xF x).contains m)
def RH(x y:cD):Bool:=(!yL x.op|| !ID y.op)&&(!yL y.op|| !ID x.op)
def IU:List Nat->List Nat->List Nat|[],acc=>acc|x::r,acc=>match acc.contains x with|true=>IU r acc|false=>IU r (x::acc)
theorem fw{i:Nat}: ∀{l acc:List Nat},i∈IU l acc->i∈l\/i∈acc
 |[],_,h=>.inr h
 |x::r,acc,h=>by
  simp only[IU]at h;split at h;exact(fw h).imp (yQ _) id
  ·rcases fw h with h|h
   all_goals grind
def C1(l:List Nat):List Nat:=IU l []
theorem JEz{i:Nat}{l:List Nat}(h:i∈C1 l):i∈l:=(fw h).resolve_right (by simp)
def Dg(acc:List (List Nat))(o:Oper):List Nat:=C1<|(o.after.toList.filter λe=>Region.binds .any e).flatMap λe=>e.on::(acc[e.on]?).getD []
def mf(acc:List (List Nat)):List Oper->List (List Nat)|[]=>acc|o::r=>mf (acc++[Dg acc o]) r
def ZC(e:List (List Nat))(pairs:List (Nat×Nat))(i j:Nat)(x y:cD):Bool:=
 ((e[j]?).getD []).contains i||(SI x y&&(RH x y||pairs.contains (i,j)))
def MC(e:List (List Nat))(pairs:List (Nat×Nat))(j:Nat)(y:cD):Nat->List cD->Bool|_,[]=>true|i,x::r=>(decide (j<=i)||ZC e pairs i j x y)&&MC e pairs j y (i+1) r
def QA(g:List (List Nat))(pairs:List (Nat×Nat))(e:List cD):Nat->List cD->Bool|_,[]=>true|j,y::r=>MC g pairs j y 0 e&&QA g pairs e (j+1) r
def QP:Nat->List Oper->Bool|_,[]=>true|j,o::r=>(o.after.all λe=> !Region.binds .any e||decide (e.on<j))&&QP (j+1) r
def XT(P:Program)(N:Nat)(draw:Bool)(pairs:List (Nat×Nat))(ins:List cD)(ops:Array Oper):Bool:=
 fI P N ops ins ops.toList&&(!draw||(QP 0 ops.toList&&QA (mf [] ops.toList) pairs ins 0 ins))
section
variable {P:Program} {F:Orc} {N:Nat} {E:Sn} {st st':St} {a:Act} {w:World} {ops:Array Oper} {Q:Exit->Act->World->Prop}
theorem s7: ∀{ins:List cD} {os:List Oper},fI P N ops ins os=true->ins.length=os.length/\ ∀(k:Nat) i,ins[k]?=some i-> ∃o,os[k]?=some o/\zR P N ops i o=true
 |[],[],_=>⟨rfl,by simp⟩
 |i::r,o::q,h=>by
  simp only[fI,JZ]at h;obtain⟨h1,h2⟩:=s7 h.2;grind
 |[],_::_,h=>by grind [fI]
 |_::_,[],h=>by grind [fI]
theorem tz(v:jX P F): ∀{r:List cD} {k new:Nat} {st:St} {a:Act} {w:World},(∀(j:Nat) i,r[j]?=some i-> ∃o,ops[k+j]?=some o/\zR P N ops i o=true)->
  gO F r new st=some st'->Sim N E st a w->(∀n w',Sim N E st' n w'->Q .normal n w')->wpOps P ops Q (List.range' k r.length) a w
 |[],k,new,st,a,w,_,h,q,next=>by simp only[gO]at h;cases h;exact next a w q
 |i::r,k,new,st,a,w,y,h,q,next=>by
  simp only[gO]at h;split at h;rename_i e A;obtain⟨o,x,g⟩:=y 0 i rfl;rw[vQ,List.range'_succ,wpOps_cons];refine Do v q x g A λn w' hs'=>tz v (λj i z=>?_) h hs' next;obtain⟨o,x,g⟩:=y (j+1) i (by simpa using z);grind;cases h
theorem Dk: ∀{ins:List cD} {g:Nat} {st:St},gO F ins g st=some st'->
  ∃(new:Nat->Nat) (S:Nat->St) (eff:Nat->Eff),Run F ins new S eff/\S 0=st/\S ins.length=st'
 |[],g,st,h=>by
  simp only[gO]at h;injection h with h;subst h;exact⟨λ_=>0,λ_=>st,λ_=>⟨gY,[]⟩,⟨by simp⟩,rfl,rfl⟩
 |i::r,g,st,h=>by
  simp only[gO]at h;split at h;rename_i e q;obtain⟨new,S,eff,n,h0,j⟩:=Dk h;refine⟨fun|0=>g|k+1=>new k,fun|0=>st|k+1=>S k,fun|0=>e|k+1=>eff k,⟨λk x o=>?_⟩,rfl,j⟩;cases k with
  |zero=>simp_all
  |succ k=>exact n.step k x (by simpa using o)
  cases h
theorem D3: ∀{ins:List cD} {g:Nat} {st:St} {l l':Log},jW F ins g st l=some (st',l')->
  ∃(new:Nat->Nat) (S:Nat->St) (eff:Nat->Eff),Run F ins new S eff/\S 0=st/\S ins.length=st'/\
   (∀k,k<l.length->l'[k]?=l[k]?)/\ ∀(k:Nat) i,ins[k]?=some i->l'[l.length+k]?=some (jZ ((cE F i (new k)).reads (S k)),(eff k).ws.map (·.1))
 |[],g,st,l,l',h=>by
  simp only[jW]at h;injection h with h;injection h with h1 h2;subst h1 h2;exact⟨λ_=>0,λ_=>st,λ_=>⟨gY,[]⟩,⟨by simp⟩,rfl,rfl,λ_ _=>rfl,by simp⟩
 |i::r,g,st,l,l',h=>by
  simp only[jW]at h;split at h
  ·rename_i e w;obtain⟨new,S,eff,o,h0,n,v,y⟩:=D3 h;refine⟨fun|0=>g|k+1=>new k,fun|0=>st|k+1=>S k,fun|0=>e|k+1=>eff k,⟨λk x j=>?_⟩,rfl,n,λk q=>?_,λk x j=>?_⟩
   cases k with
   |zero=>simp_all
   |succ k=>exact o.step k x (by simpa using j)
   all_goals grind
  cases h
theorem SD{b:Nat}: ∀{l:List Loc},Loc.blk b∈l->b∈jZ l
 | .blk c::r,h=>by
  simp only[jZ,eR]at*;rcases h with h|h;simp_all;exact .inr (SD h)
 | .slot n::r,h=>by simp only[jZ];refine SD ?_;simpa using h
 |[],h=>by simp at h
theorem df{a b:List Nat}(h:gT a b=true){x:Nat}(hx:x∈a):x∉b:=by
 grind [gT]
theorem vd{l:Log}: ∀{ps:List (Nat×Nat)} {i j:Nat},FI l ps=true->(i,j)∈ps->
  ∃x y,l[i]?=some x/\l[j]?=some y/\gT x.2 y.1=true/\gT x.2 y.2=true/\gT x.1 y.2=true
 |[],i,j,_,h=>by simp at h
 |(p,q)::r,i,j,h,hm=>by
  simp only[FI,JZ]at h;obtain⟨h1,h2⟩:=h;rcases eR.1 hm with e|e;grind;exact vd h2 e
def ZV(ops:Array Oper)(D:Nat->Bool)(k:Nat):Prop:= ∀o,ops[k]?=some o-> ∀e∈o.after,Region.binds .any e=true->D e.on=true
def Db(ops:Array Oper)(D:Nat->Bool):Prop:= ∀k,D k=true->ZV ops D k
def ki(ops:Array Oper)(k i:Nat):Prop:= ∀D,Db ops D->ZV ops D k->D i=true
theorem Du: ∀{os:List Oper} {acc:List (List Nat)},(∀(j:Nat) o,os[j]?=some o->ops[acc.length+j]?=some o)->(∀(k:Nat) l i,acc[k]?=some l->i∈l->ki ops k i)->
  ∀(k:Nat) l i,(mf acc os)[k]?=some l->i∈l->ki ops k i
 |[],acc,_,n=>n
 |o::r,acc,y,n=>by
  refine Du (os:=r) (acc:=acc++[Dg acc o]) (λj x A=>?_) λk l i g hi=>?_;have:=y (j+1) x (by simpa using A);grind;rcases LO g with g|⟨B,g⟩;simp_all;have q:k=acc.length:=(by grind);subst q;simp at g;subst g;intro D hD z;replace hi:=JEz hi;simp only[List.mem_flatMap,List.mem_filter]at hi;obtain⟨e,⟨w,v⟩,hi⟩:=hi;have h:=z o (by simpa using y 0 o rfl) e (by simpa using w) v;rcases eR.1 hi with rfl|hi;exact h;cases hac:acc[e.on]? with
  |none=>simp_all
  |some l=>rw[hac]at hi;exact n _ l i hac hi D hD (hD _ h)
theorem wk{g:List (List Nat)}{pairs:List (Nat×Nat)}{j:Nat}{y:cD}: ∀{r:List cD} {e:Nat},MC g pairs j y e r=true-> ∀(k:Nat) x,r[k]?=some x->e+k<j->ZC g pairs (e+k) j x y=true
 |[],e,_,k,x,n,_=>by simp at n
 |z::r,e,h,k,x,n,o=>by
  simp only[MC,JZ,DY,decide_eq_true_eq]at h;cases k with
  |zero=>grind
  |succ k=>
   have:=wk h.2 k x (by simpa using n) (by omega);grind
theorem ux{j:List (List Nat)}{pairs:List (Nat×Nat)}{g:List cD}: ∀{r:List cD} {e:Nat},QA j pairs g e r=true-> ∀(k:Nat) y,r[k]?=some y->MC j pairs (e+k) y 0 g=true
 |[],e,_,k,y,n=>by simp at n
 |z::r,e,h,k,y,n=>by
  simp only[QA,JZ]at h;cases k with
  |zero=>simp_all
  |succ k=>
   have:=ux h.2 k y (by simpa using n);grind
theorem wj: ∀{r:List Oper} {g:Nat},QP g r=true-> ∀(k:Nat) o,r[k]?=some o-> ∀e∈o.after,Region.binds .any e=true->e.on<g+k
 |[],g,_,k,o,j=>by simp at j
 |z::r,g,h,k,o,j=>by
  simp only[QP,JZ]at h;cases k with
  |zero=>
   grind [Array.all_eq_true_iff_forall_mem]
  |succ k=>intro e n q;have:=wj h.2 k o (by simpa using j) e n q;omega
theorem JFF{x y:cD}(h:SI x y=true):(∀m,x.dst=some m->y.dst≠some m/\m∉xF y)/\(∀m,y.dst=some m->m∉xF x):=by
 grind [SI]
variable {ins:List cD} {new:Nat->Nat} {S:Nat->St} {eff:Nat->Eff}
theorem JGy(hr:Run F ins new S eff){i j:Nat}(hi:i<ins.length)(hj:j<ins.length)(h1:SI ins[i] ins[j]=true)
  (h2:RH ins[i] ins[j]=true\/(gT ((eff i).ws.map (·.1)) (jZ ((cE F ins[j] (new j)).reads (S j)))=true/\
   gT ((eff i).ws.map (·.1)) ((eff j).ws.map (·.1))=true/\gT (jZ ((cE F ins[i] (new i)).reads (S i))) ((eff j).ws.map (·.1))=true)):OB F ins new S eff i j:=by
 obtain⟨s1,C⟩:=JFF h1;have q:ins[i]?=some ins[i]:=zQ9 hi;have o:ins[j]?=some ins[j]:=zQ9 hj;obtain⟨z,_⟩:=hr.step i _ q;obtain⟨v,_⟩:=hr.step j _ o;refine⟨λx y m g e r=>?_,λx y m g e r n=>?_,λy b e k=>?_,λx b g k n=>?_⟩;rw[q]at g;cases g;rw[o]at e;cases e;exact⟨(s1 m r).1,λn=>(s1 m r).2 (oy F _ _ _ _ n)⟩;rw[q]at g;cases g;rw[o]at e;cases e;exact C m r (oy F _ _ _ _ n);rw[o]at e;cases e;rcases h2 with h2|⟨w,A,B⟩;simp only[RH,JZ,DY,mR]at h2;rcases h2.1 with h|h;rw[ZA F _ _ h _ _ z]at k;simp at k;refine⟨?_,pt F _ _ h _ _ v b⟩;rw[ZA F _ _ (C9 h) _ _ v];simp;exact⟨df A k,λn=>df w k (SD n)⟩;rw[q]at g;cases g;rcases h2 with h2|⟨w,A,B⟩;simp only[RH,JZ,DY,mR]at h2;rcases h2.2 with h|h;rw[ZA F _ _ h _ _ v]at k;simp at k;exact pt F _ _ h _ _ z b n;grind [df,SD]
def Dl(e:Array Bool):Nat->Bool:=λj=>e.getD j false
theorem D7{e:Array Bool}{i:Nat}(hi:i<e.size):Dl (e.setIfInBounds i true)=λj=>if j=i then true else Dl e j:=by
 funext j
 unfold Dl;by_cases h:j=i
 all_goals simp_all [Ne.symm]
theorem uz{l:Array Bool}{i:Nat}(hi:i<l.size)(h:l.getD i false=false):(l.setIfInBounds i true).count false+1=l.count false:=by
 have e:l[i]=false:=by simp_all
 grind [Array.getElem_mem]
theorem va{l:Array Bool}(h:l.count false=0){i:Nat}(hi:i<l.size):l.getD i false=true:=by
 grind [uz]
theorem Cn{l:Array Bool}: ∀m,m<=l.size->(∀j,j<m->Dl l j=true)\/ ∃k,k<m/\Dl l k=false/\ ∀j,j<k->Dl l j=true
 |0,_=>.inl λj e=>by omega
 |m+1,h=>by
  rcases Cn (l:=l) m (by omega)with h1|⟨k,a,b,c⟩
  all_goals grind
theorem JDO{l:Array Bool}{j:Nat}(hj:j<l.size):l.getD j true=l.getD j false:=by simp[hj]
theorem JKL(hF:jX P F)(hr:Run F ins new S eff)(hlen:ins.length=ops.size)(hc: ∀(k:Nat) i,ins[k]?=some i-> ∃o,ops[k]?=some o/\zR P N ops i o=true)
  (G: ∀(k:Nat) o,ops[k]?=some o-> ∀e∈o.after,Region.binds .any e=true->e.on<k)
  (K: ∀i j,i<j->j<ins.length->ki ops j i\/OB F ins new S eff i j)
  (next: ∀H w',Sim N E (S ins.length) H w'->Q .normal H w'):
  ∀(n:Nat) (g:Array Bool) (st:St) (a:Act) (w:World),g.size=ops.size->Agree ins eff (S 0) (Dl g) st->Sim N E st a w->Db ops (Dl g)->g.count false=n->
   wpAny P .any ops Q n g a w:=by
 intro n
 induction n with
 |zero=>
  intro g st a w L C R r B;refine⟨?_,?_⟩;cases hre:Region.ready .any ops g with
  |nil=>rfl
  |cons j l=>
   exfalso;have h:j∈Region.ready .any ops g:=by rw[hre];simp
   grind [mem_ready,va]
  ·obtain⟨e1,e2⟩:=JDi hr C λj x=>va B (by omega);exact next a w (R.congr (λm=>(e1 m).symm) e2.symm)
 |succ n ih=>
  intro g st a w L C R r B;refine⟨λa2=>?_,λk I=>?_⟩;exfalso;rcases Cn (l:=g) ops.size (by omega)with z|⟨k,I,D,M⟩;have:g.count false=0:=(by rw[Array.count_eq_zero];intro h;obtain⟨i,hi,y⟩:=Array.getElem_of_mem h;have:=z i (by omega);unfold Dl at this;simp[hi,y]at this);omega;have h:k∈Region.ready .any ops g:=(by rw[mem_ready];refine⟨by rw[JDO (by omega)];exact D,ops[k],by simp[I],λe y A=>?_⟩;exact M _ (G k ops[k] (by simp[I]) e y A));simp_all;obtain⟨h1,o,Y,z⟩:=mem_ready.1 I;have a0:k<ops.size:=(pI.1 Y).1;have D:Dl g k=false:=by grind [Dl]
  have T:ins[k]?=some (ins[k]'(by omega)):=zQ9 _;obtain⟨o',W,U⟩:=hc k _ T;have q:ZV ops (Dl g) k:=by intro O v e y A;rw[Y]at v;cases v;exact z e y A
  obtain⟨Z,r2⟩:=JG6 hr C T D (λj x hDj=>by
   rcases K j k x (by omega)with h|h;have:=h _ r q;simp_all;exact h) (λj x V hDj=>by
   rcases K k j x V with h|h;have:=h _ r (r j hDj);simp_all;exact h)
  refine Do hF R W U Z λH w' hs'=>ih _ _ H w' (by simp[L]) ?_ hs' ?_ ?_;grind [D7];rw[D7 (by omega)];intro j x O v e y A;dsimp only at x⊢;have h:Dl g e.on=true->(if e.on=k then true else Dl g e.on)=true:=by simp_all
  by_cases J:j=k;subst J;exact h (q O v e y A);rw[if_neg J]at x;exact h (r j x O v e y A);grind [uz]
theorem JJx(Y:jX P F)(G:P.follows .mixedOrders=true){id:Nat}{draw:Bool}{pairs:List (Nat×Nat)}{ins:List cD}(h:region F pairs ins st=some st')
  (hc:XT P N draw pairs ins ops=true) (hs:Sim N E st a w) (next: ∀T w',Sim N E st' T w'->Q .normal T w'):(Code.region id ops draw).wp P Q a w:=by
 simp only[XT,JZ,DY,mR]at hc;obtain⟨J,B⟩:=hc;obtain⟨hlen,D⟩:=s7 J;have hlen:ins.length=ops.size:=by simp_all
 have D: ∀(k:Nat) i,ins[k]?=some i-> ∃o,ops[k]?=some o/\zR P N ops i o=true:=λk i hi=>by simp_all
 have R:=hs.room (news ins);have I: ∃(new:Nat->Nat) (S:Nat->St) (eff:Nat->Eff),Run F ins new S eff/\S 0=⟨st.env,room (news ins) st.sto⟩/\S ins.length=st'/\
   ∀i j,(i,j)∈pairs-> ∃x y,ins[i]?=some x/\ins[j]?=some y/\gT ((eff i).ws.map (·.1)) (jZ ((cE F y (new j)).reads (S j)))=true/\
   gT ((eff i).ws.map (·.1)) ((eff j).ws.map (·.1))=true/\gT (jZ ((cE F x (new i)).reads (S i))) ((eff j).ws.map (·.1))=true:=by
  unfold region at h;split at h;grind [Dk];split at h;rename_i s' l n;split at h;rename_i L;cases h;obtain⟨new,S,eff,C,h0,M,_,q⟩:=D3 n;refine⟨new,S,eff,C,h0,M,λi j hm=>?_⟩;obtain⟨x,y,W,V,d1,d2,d3⟩:=vd L hm;have O: ∀(k:Nat) z,l[k]?=some z->k<ins.length:=by
   intro k z hk;have:=JA hk;have a6:l.length=ins.length:=by
    clear q C h0 M L W V;have: ∀{r:List cD} {e:Nat} {s0:St} {A v:Log} {s1:St},jW F r e s0 A=some (s1,v)->v.length=A.length+r.length:=by
     intro r
     induction r with
     |nil=>simp[jW]
     |cons i r ih=>
      grind [jW]
    grind
   omega
  have hi:=O i x W;have g:=O j y V;have K:ins[i]?=some ins[i]:=zQ9 hi;have H:ins[j]?=some ins[j]:=zQ9 g;have Z:=q i _ K;have qj:=q j _ H;simp only[List.length_nil,lO]at Z qj;grind;cases h;cases h
 obtain⟨new,S,eff,C,h0,M,L⟩:=I;cases draw with
 |false=>
  refine wp_region ?_;rw[List.range_eq_range',<-hlen];have a7: ∃e,gO F ins e ⟨st.env,room (news ins) st.sto⟩=some st':=by
   unfold region at h;split at h;grind;split at h;rename_i s' l n;split at h;cases h;have: ∀{r:List cD} {e:Nat} {s0:St} {A v:Log} {s1:St},jW F r e s0 A=some (s1,v)->gO F r e s0=some s1:=by
    intro r
    induction r with
    |nil=>intro e s0 A v s1 h;simp only[jW]at h;injection h with h;injection h with h1 h2;subst h1;rfl
    |cons i r ih=>
     grind [jW,gO]
   grind;cases h;cases h
  grind [tz]
 |true=>
  obtain⟨he,hd⟩:=B.resolve_left (by simp);refine wp_region_any G ?_;have U:Sim N E (S 0) a {w with drawn:=w.drawn+1}:=by rw[h0];exact R.heap rfl rfl rfl
  refine JKL Y C hlen D (λk o ho=>?_) (λi j a8 g=>?_) (by simp_all) ops.size _ (S 0) a _ (by simp) ?_ U ?_ ?_;have:=wj he k o (by simpa using ho);simp_all;have K:ins[i]?=some (ins[i]'(by omega)):=zQ9 _;have H:ins[j]?=some ins[j]:=zQ9 g;have h1:=ux hd j _ H;rw[lO]at h1;have h2:=wk h1 i _ K (by omega);rw[lO]at h2;simp only[ZC,DY,JZ]at h2;rcases h2 with h2|⟨h2,h3⟩;grind [Du];grind [JGy];have:Dl (Array.replicate ops.size false)=λ_=>false:=by
   funext j;unfold Dl;simp[Array.getElem?_replicate];split<;>rfl
  rw[this];exact G1;intro j g;unfold Dl at g;simp[Array.getElem?_replicate]at g;grind;simp
end
end Go.Am
end
section
namespace Go.Am
def dJ(P:Program)(N:Nat):cF->Code->Bool
 | .bad,_=>true
 | .skip,c=>match c with| .skip=>true| .label _=>true|_=>false
 | .reg draw pairs ins,c=>match c with| .region _ ops d=>draw==d&&XT P N draw pairs ins ops|_=>false
 | .seq a b,c=>match c with| .seq x y=>dJ P N a x&&dJ P N b y|_=>false
 | .cond o a b,c=>match c with| .cond p x y=>bR o p&&dJ P N a x&&dJ P N b y|_=>false
 | .block id a,c=>match c with| .block e x=>id==e&&dJ P N a x|_=>false
 | .loop _ a,c=>match c with| .loop x=>dJ P N a x|_=>false
 | .lp _ _ _,_=>false
 | .scope a,c=>match c with| .scope x=>dJ P N a x|_=>false
 | .exit id,c=>match c with| .exit e=>id==e|_=>false
 | .ret,c=>match c with| .ret=>true|_=>false
 | .keep _ a,c=>dJ P N a c
 | .tidy _ a,c=>dJ P N a c
 | .br _ pre o a b rest,c=>match c with| .seq (.seq p (.cond q x y)) z=>dJ P N pre p&&bR o q&&dJ P N a x&&dJ P N b y&&dJ P N rest z|_=>false
def rQ:AX->Exit| .normal=>.normal| .exit id=>.exit id| .ret=>.ret
def LT(P:Program)(c:cF)(st:St)(r:Out):Prop:=
 match c with
 | .lp n _ b=> ∃k,∀(N:Nat) (e:Code) (E:Sn) (a:Act) (w:World) (Q:Exit->Act->World->Prop),dJ P N b e=true->E.σ.length<=n->n<=st.sto.length->Sim N E st a w->
   (∀g w',Sim N E r.2 g w'->Q (rQ r.1) g w')->Code.rounds P e Q k a w
 |c=> ∀(N:Nat) (e:Code) (E:Sn) (a:Act) (w:World) (Q:Exit->Act->World->Prop),dJ P N c e=true->Sim N E st a w->
  (∀g w',Sim N E r.2 g w'->Q (rQ r.1) g w')->e.wp P Q a w
theorem LT.get{P:Program}{c:cF}{st:St}{r:Out}(h:LT P c st r){N:Nat}{e:Code}{E:Sn}{a:Act}{w:World}{Q:Exit->Act->World->Prop}(hc:dJ P N c e=true)(hs:Sim N E st a w)
  (next: ∀g w',Sim N E r.2 g w'->Q (rQ r.1) g w'):e.wp P Q a w:=by
 cases c<;>first|exact h N e E a w Q hc hs next|grind [dJ]
theorem QT{env:List (Nat×AV)}{n:Nat}{x:AV}: ∀{live:List Nat},lk n (restr live env)=some x->lk n env=some x
 |[],h=>by grind [restr,lk]
 |k::r,h=>by
  simp only[restr]at h;split at h;rename_i v e;simp only[lk]at h;split at h;simp_all;exact QT h;exact QT h
theorem Eq{m:Nat}{sto:List Blk}{n:Nat}{y:AV}: ∀{env g:List (Nat×AV)},vT m sto env=some g->lk n g=some y-> ∃x,lk n env=some x/\fin m [] sto x=some y
 |[],g,h,hy=>by grind [vT,lk]
 |(k,x)::r,g,h,hy=>by
  simp only[vT]at h;split at h;rename_i z l q j;injection h with h;subst h;simp only[lk]at hy⊢;split at hy;simp_all;rename_i e;obtain⟨o,h1,h2⟩:=Eq j hy;simp_all;cases h
section
variable {P:Program} {N:Nat} {E:Sn} {st st':St} {a:Act} {w:World}
theorem Sim.restr(h:Sim N E st a w)(live:List Nat):Sim N E ⟨restr live st.env,st.sto⟩ a w:=by obtain⟨h1,h2,g,hi,j,e⟩:=h;exact⟨h1,h2,g,hi,λn x k=>j n x (QT k),e⟩
theorem QR{n:Nat}{live:List Nat}(h:Sim N E st a w)(hc:clean n live st=some st')(r:E.σ.length<=n)(hn:n<=st.sto.length):Sim N E st' a w/\st'.sto.length=n:=by
 unfold clean at hc;split at hc;rename_i e;injection hc with hc;subst hc;exact⟨h.restr live,e⟩;split at hc;rename_i ev l o B;injection hc with hc;subst hc;obtain⟨h1,h2,g,hi,D,q⟩:=h;obtain⟨H,I⟩:=SB B;have hlen:l.length=n:=by simp_all
 have j:mg ⟨st.sto,g,w⟩ n [] l:=(by refine⟨hi,hn,List.nodup_nil,λb z=>by simp at z,by simp[hlen],λk x J=>?_⟩;grind [uE]);refine⟨⟨h1,h2,(kW ⟨st.sto,g,w⟩ n [] l).g,E4 j,λk y C=>?_,tf j q r⟩,hlen⟩;obtain⟨x,F,A⟩:=Eq o C;obtain⟨v,G,hrel⟩:=D k x (QT F);exact⟨v,G,ZF j hrel A⟩;cases hc
def oM(P:Program):List vU->List ResultVar->Bool|[],[]=>true| .tmp t::r,.tmp t'::q=>t==t'&&oM P r q| .cell t agg size::r,.cell t' ty::q=>t==t'&&agT P ty==some agg&&szT P ty==some size&&oM P r q|_,_=>false
def UC(tmps:Array Value):ResultVar->Sem Value| .tmp t=>pure (tmps.getD t undef)| .cell a t=>do loadVar t (<-asAddr (tmps.getD a undef))
theorem ZD{s:Sn}{env:List (Nat×AV)}{tmps:Array Value}(hi:Inv s)(he:bT s tmps env): ∀{B:List vU} {C:List ResultVar} {vs:List AV},oM P B C=true->(nU B).run ⟨env,s.σ⟩=some vs->
  ∃j:List Value,(C.mapM (UC tmps)).run P s.w=.ok j s.w/\vs.length=j.length/\ ∀(i:Nat) x v,vs[i]?=some x->j[i]?=some v->JK s x v
 |[],[],vs,_,h=>by simp_all [nU,RM.run]
 | .tmp t::r,.tmp t'::q,vs,g,h=>by
  simp only[oM,JZ,beq_iff_eq]at g;obtain⟨rfl,g⟩:=g;simp only[nU]at h;obtain⟨x,h1,h⟩:=bind_some h;obtain⟨l,h2,h⟩:=bind_some h;simp only[RM.run]at h;injection h with h;subst h;simp only[RM.run]at h1;split at h1;rename_i y A;injection h1 with h1;subst h1;obtain⟨v,L,E⟩:=he _ _ A;obtain⟨j,F,n,G⟩:=ZD hi he g h2;refine⟨v::j,?_,by simp[n],λi x u K J=>?_⟩;simp_all [UC];grind;cases h1
 | .cell t agg size::r,.cell t' ty::q,vs,g,h=>by
  simp only[oM,JZ,beq_iff_eq]at g;obtain⟨⟨⟨rfl,M⟩,D⟩,g⟩:=g;simp only[nU]at h;obtain⟨x,h1,h⟩:=bind_some h;obtain⟨e,h3,h⟩:=bind_some h;obtain⟨l,h2,h⟩:=bind_some h;simp only[RM.run]at h;injection h with h;subst h;simp only[RM.run]at h1;split at h1;rename_i y A;injection h1 with h1;subst h1;obtain⟨v,L,E⟩:=he _ _ A;obtain⟨j,F,n,G⟩:=ZD hi he g h2;obtain⟨H,o,ws,R,N,I,_,O⟩:=tg hi h3 E;obtain⟨Q,S⟩:=wi (P:=P) M D N I;have k: ∃u,(loadVar ty ⟨H,o,none⟩).run P s.w=.ok u s.w/\JK s e.val u:=(by grind);obtain⟨u,J,hrel⟩:=k;refine⟨u::j,?_,by simp[n],λi x z K D=>?_⟩;simp_all [UC,asAddr];grind;cases h1
 |[],_::_,_,g,_=>by grind [oM]
 | .tmp _::_,[],_,g,_=>by grind [oM]
 | .cell _ _ _::_,[],_,g,_=>by grind [oM]
 | .tmp _::_,.cell _ _::_,_,g,_=>by grind [oM]
 | .cell _ _ _::_,.tmp _::_,_,g,_=>by grind [oM]
theorem RO{m:Nat}{fresh:Bool}{sto:List Blk}: ∀{es:List Ent},∀b∈kD m fresh sto es,m<=b
 |[],b,h=>by grind [kD]
 | .elem _ _ _::r,b,h=>RO (es:=r) b (by simpa[kD]using h)
 | .whole c::r,b,h=>by
  simp only[kD]at h;split at h;exact RO (es:=r) b h;rename_i g;have e:b∈c::kD m fresh sto r->m<=b:=(by intro h;rcases eR.1 h with rfl|h;omega;exact RO (es:=r) b h);grind
theorem E2{s:Sn}{vs:List AV}{e:List Value}(hl:vs.length=e.length)(hr: ∀(i:Nat) x v,vs[i]?=some x->e[i]?=some v->JK s x v):
  JK s (one vs) (if h:e.toArray.size=1 then e.toArray[0]else .tuple e.toArray):=by
 by_cases h:e.toArray.size=1;rw[dif_pos h];cases e with
 |nil=>simp at h
 |cons u q=>
  cases vs with
  |nil=>simp at hl
  |cons x p=>
   have j:q=[]:=by simpa using h
   subst j;have g:p=[]:=by simpa using hl
   subst g;exact hr 0 x u rfl rfl
 rw[dif_neg h];have:one vs=.tup vs:=by
  match vs,hl with
  |[],_=>rfl
  |[x],hl=>simp_all
  |_::_::_,_=>rfl
 rw[this];exact .tup _ _ (by simpa using hl) λi x v n k=>hr i x v n (by simpa using k)
theorem tp{e:AFn}{fn:Func}{m:Nat}{r:Res}(hs:Sim N E st a w)(hm:E.σ.length=m)(h:iE e m st=some r)(hc:oM P e.res fn.results.toList=true):
  a.defers=[]/\ ∃v,(results fn a.tmps).run P w=.ok v w/\ ∃g',Inv ⟨r.2,g',w⟩/\bE E ⟨r.2,g',w⟩/\JK ⟨r.2,g',w⟩ r.1 v:=by
 obtain⟨h1,h2,g,hi,L,C⟩:=hs;refine⟨h2,?_⟩;unfold iE at h;cases hvs:(nU e.res).run st with
 |none=>simp_all
 |some vs=>
  rw[hvs]at h;dsimp only at h;obtain⟨y,S,W,I⟩:=ZD (P:=P) (s:=⟨st.sto,g,w⟩) (env:=st.env) hi L hc hvs;have n:(results fn a.tmps).run P w=.ok (if h:y.toArray.size=1 then y.toArray[0]else .tuple y.toArray) w:=by
   have:results fn a.tmps=(do
    let vs<-fn.results.mapM (UC a.tmps)
    pure (if h:vs.size=1 then vs[0]else .tuple vs)):=rfl
   simp_all [Array.mapM_eq_mapM_toList]
  refine⟨_,n,?_⟩;split at h;grind [E2];split at h;rename_i D;have z:=RO (m:=m) (fresh:=e.fresh) (sto:=st.sto) (es:=rH st.sto (cS.entsOfL vs []) (cS.entsOfL vs []));generalize kD m e.fresh st.sto (rH st.sto (cS.entsOfL vs []) (cS.entsOfL vs []))=ids at*;split at h;rename_i ws l q B K J;split at h;rename_i q' F;injection h with h;subst h;obtain⟨Y,O⟩:=uK B;obtain⟨b1,b2⟩:=SB K;obtain⟨c1,V⟩:=vo J;obtain⟨U,T⟩:=SB F;have G:m<=st.sto.length:=by rw[<-hm];exact C.len
  have hlen:l.length=m:=by simp_all
  have o:mg ⟨st.sto,g,w⟩ m ids (l++q'):=(by refine⟨hi,G,SE D,z,by simp;omega,λk x A=>?_⟩;rcases LO A with A|⟨Q,A⟩;grind [uE];grind [gU]);refine⟨_,E4 o,tf o C (by omega),E2 (by omega) λi x v H M=>?_⟩;have R:=JA H;have j:vs[i]?=some (vs[i]'(by omega)):=zQ9 _;exact ZF o (I i _ v j M) (O i _ x j H);cases h;cases h;cases h
def lT(P:Program)(f:FuncId)(e:AFn):Bool:=
 match P.funcs[f]? with
 |none=>false
 |some fn=>match fn.body with
  |none=>false
  |some g=>fn.name != "runtime.NumGoroutine" &&e.nt==e.np+(fn.ntmps-e.np)&&oM P e.res fn.results.toList&&dJ P e.nt e.body g
theorem ZP: ∀{args:List AV} {k n:Nat} {x:AV},lk n (jO k args)=some x->k<=n/\args[n-k]?=some x
 |[],k,n,x,h=>by grind [jO,lk]
 |y::r,k,n,x,h=>by
  simp only[jO,lk]at h;split at h;simp_all;rename_i e;obtain⟨h1,h2⟩:=ZP h;grind
end
section
variable {P:Program} {T:eO}
theorem JFj{f:FuncId}{j:AFn}{args:List AV}{blks:List Blk}{r:Res}(hc:lT P f j=true)(K:args.length=j.np)
  (h: ∀(k:Code) (g:Gh) (w:World) (a:Act) (Q:Exit->Act->World->Prop),dJ P j.nt j.body k=true->Sim j.nt ⟨blks,g,w⟩ ⟨jO 0 args,blks⟩ a w->
   (∀e s o w',(e=.normal\/e=.ret)->iE j blks.length s=some r->Sim j.nt ⟨blks,g,w⟩ s o w'->Q (rQ e) o w')->k.wp P Q a w):J61 P f args blks r:=by
 unfold lT at hc;split at hc;cases hc;rename_i fn A;split at hc;cases hc;rename_i k D;simp only[JZ,beq_iff_eq,bne_iff_ne,ne_eq]at hc;obtain⟨⟨⟨F,J⟩,G⟩,z⟩:=hc;refine⟨⟨fn,A,by simp[D],by simp_all⟩,λg w vals hinv hlen hrel=>?_⟩;refine calls_of_wp A D ?_;have C:Sim j.nt ⟨blks,g,w⟩ ⟨jO 0 args,blks⟩ {tmps:=vals++Array.replicate (fn.ntmps-vals.size) undef,defers:=[]} w:=(by refine⟨by simp;omega,rfl,g,hinv,λn x y=>?_,.refl _⟩;obtain⟨_,y⟩:=ZP y;rw[vV]at y;have I:=JA y;refine⟨vals[n]'(by omega),?_,hrel n x _ y (DW _)⟩;grind);have fin: ∀{s},iE j blks.length s=some r-> ∀o w',Sim j.nt ⟨blks,g,w⟩ s o w'->o.defers=[]/\ ∃v,(results fn o.tmps).run P w'=.ok v w'/\ ∃B g',Ending.returned v=.returned B/\
   Inv ⟨r.2,g',w'⟩/\bE ⟨blks,g,w⟩ ⟨r.2,g',w'⟩/\JK ⟨r.2,g',w'⟩ r.1 B:=by
  grind [tp]
 refine h k g w _ _ z C λe s o w' H q E=>?_;rcases H with rfl|rfl;exact fin q o w' E;exact fin q o w' E
theorem JGt{R:cF->St->Option Out}(ih: ∀c s r,R c s=some r->LT P c s r){f:FuncId}{k:pA}{args:List AV}{blks:List Blk}{r:Res}(hc:lT P f k.af=true)(L:args.length=k.np)
  (h:EO R k args blks=some r):J61 P f args blks r:=by
 refine JFj hc L λq g w a Q n A fin=>?_;simp only[pA.af]at n fin A;cases q<;>simp only[dJ,eL]at n;rename_i T S;simp only[JZ]at n;obtain⟨G,x⟩:=n;unfold EO at h;split at h
 rename_i s0 J;split at h;rename_i s1 C;refine wp_seq ((ih _ _ _ J).get G A λa0 w0 y=>?_);split at x;rename_i cp I cx cy U;simp only[JZ]at x;obtain⟨⟨⟨⟨Z,M⟩,hx⟩,hy⟩,Y⟩:=x;simp only[rQ,Exit.then];refine wp_seq (wp_seq ((ih _ _ _ C).get Z y λF D y=>?_));have a2: ∀{c:cF} {q:Code},dJ P k.nt c q=true->yS k.af blks.length (thn (R c s1) λs=>R k.rest s)=some r->
   q.wp P (Exit.then (U.wp P Q) Q) F D:=by
  intro c q hc j;cases hR:R c s1 with
  |none=>rw[hR]at j;cases j
  |some o=>
   obtain⟨e,H⟩:=o;rw[hR]at j;refine(ih _ _ _ hR).get hc y λz w' hs'=>?_;cases e with
   |normal=>
    simp only[thn]at j;cases hR2:R k.rest H with
    |none=>rw[hR2]at j;cases j
    |some V=>
     obtain⟨W,K⟩:=V;rw[hR2]at j;simp only[rQ,Exit.then];refine(ih _ _ _ hR2).get Y hs' λz w' hs'=>?_;cases W with
     |normal=>exact fin .normal K z w' (.inl rfl) j hs'
     |ret=>exact fin .ret K z w' (.inr rfl) j hs'
     |exit id=>cases j
   |exit id=>cases j
   |ret=>exact fin .ret H z w' (.inr rfl) j hs'
 have B:=y;obtain⟨_,_,g,hi,N,_⟩:=B;simp only[rQ,Exit.then];split at h;rename_i b E;have hrel:=bL (s:=⟨s1.sto,g,D⟩) (env:=s1.env) N E M;generalize O:F.eval I=v at hrel;cases hrel with
 |p _ _ hrel=>cases hrel<;>grind [wp_cond]
 rename_i E;have hrel:=bL (s:=⟨s1.sto,g,D⟩) (env:=s1.env) N E M;generalize O:F.eval I=v at hrel;cases hrel with
 |unk t=>
  refine wp_cond O ?_;unfold KH at h;grind
 cases h;cases x;cases h;cases h
theorem sw{R:cF->St->Option Out}(ih: ∀c s r,R c s=some r->LT P c s r)(G: ∀f j,T f=some (.fn j)->lT P f j=true)
  (M: ∀f g,T f=some (.prim g)-> ∀args blks r,g args blks=some r->J61 P f args blks r) (L: ∀f k,T f=some (.fork k)->lT P f k.af=true):jX P (rJ T R):=by
 intro f args blks r h;unfold rJ at h;cases hTf:T f with
 |none=>simp_all
 |some en=>
  rw[hTf]at h;cases en with
  |prim g=>simp_all
  |fork k=>
   grind [JGt]
  |fn j=>
   dsimp only at h;split at h;rename_i J;have o:=G f j hTf;unfold lT at o;split at o;cases o;rename_i fn A;split at o;cases o;rename_i F D;simp only[JZ,beq_iff_eq,bne_iff_ne,ne_eq]at o;obtain⟨⟨⟨E,K⟩,H⟩,q⟩:=o;refine⟨⟨fn,A,by simp[D],by simp_all⟩,λg w vals hinv hlen hrel=>?_⟩;refine calls_of_wp A D ?_;have z:Sim j.nt ⟨blks,g,w⟩ ⟨jO 0 args,blks⟩ {tmps:=vals++Array.replicate (fn.ntmps-vals.size) undef,defers:=[]} w:=(by refine⟨by simp;omega,rfl,g,hinv,λn x y=>?_,.refl _⟩;obtain⟨_,y⟩:=ZP y;rw[vV]at y;have I:=JA y;refine⟨vals[n]'(by omega),?_,hrel n x _ y (DW _)⟩;grind);have fin: ∀{s},iE j blks.length s=some r-> ∀e w',Sim j.nt ⟨blks,g,w⟩ s e w'->e.defers=[]/\ ∃v,(results fn e.tmps).run P w'=.ok v w'/\ ∃C g',Ending.returned v=.returned C/\
     Inv ⟨r.2,g',w'⟩/\bE ⟨blks,g,w⟩ ⟨r.2,g',w'⟩/\JK ⟨r.2,g',w'⟩ r.1 C:=by
    grind [tp]
   split at h;rename_i s hR;exact(ih _ _ _ hR).get q z λe w' B=>fin h e w' B;rename_i s hR;exact(ih _ _ _ hR).get q z λe w' B=>fin h e w' B;cases h;cases h
theorem JHD(a5:P.follows .mixedOrders=true)(hT: ∀f af,T f=some (.fn af)->lT P f af=true)
  (hP: ∀f g,T f=some (.prim g)-> ∀args blks r,g args blks=some r->J61 P f args blks r) (hK: ∀f k,T f=some (.fork k)->lT P f k.af=true): ∀c s r,X T c s=some r->LT P c s r:=by
 refine Zt T _ ?_;intro R ih c s r h;have hF:jX P (rJ T R):=sw ih hT hP hK;cases c with
 |skip=>
  simp only[step]at h;injection h with h;subst h;intro N j E a w Q q z next;cases j<;>first
   |exact wp_skip (next a w z)
   |exact wp_label (next a w z)
   |grind [dJ]
 |bad=>grind [step]
 |reg d pairs ins=>
  simp only[step]at h;split at h;rename_i s' a3;injection h with h;subst h;intro N j E a w Q q z next;cases j<;>simp only[dJ,eL]at q;simp only[JZ,beq_iff_eq]at q;obtain⟨rfl,q⟩:=q;exact JJx hF a5 a3 q z next
  cases h
 |seq x y=>
  simp only[step]at h;intro N j E a w Q q z next;cases j<;>simp only[dJ,eL]at q;simp only[JZ]at q;refine wp_seq ?_;split at h
  rename_i s' F;refine(ih _ _ _ F).get q.1 z λB w' hs'=>?_;exact(ih _ _ _ h).get q.2 hs' next;rename_i Z;refine(ih _ _ _ h).get q.1 z λB w' hs'=>?_;obtain⟨e,s'⟩:=r;cases e with
  |normal=>simp_all
  |exit id=>exact next B w' hs'
  |ret=>exact next B w' hs'
 |cond c x y=>
  simp only[step]at h;intro N j E a w Q q z next;cases j<;>simp only[dJ,eL]at q;simp only[JZ]at q;obtain⟨⟨a0,F⟩,hy⟩:=q;have hs':=z;obtain⟨_,_,g,hi,D,_⟩:=hs';split at h
  rename_i b I;have hrel:=bL (s:=⟨s.sto,g,w⟩) (env:=s.env) D I a0;generalize K:a.eval _=v at hrel;cases hrel with
  |p _ _ hrel=>
   cases hrel with
   |b=>
    refine wp_cond K ?_;cases b with
    |true=>exact(ih _ _ _ (by simpa using h)).get F z next
    |false=>exact(ih _ _ _ (by simpa using h)).get hy z next
  rename_i I;have hrel:=bL (s:=⟨s.sto,g,w⟩) (env:=s.env) D I a0;generalize K:a.eval _=v at hrel;cases hrel with
  |unk t=>
   refine wp_cond K ?_;unfold same at h;split at h;rename_i r1 r2 e1 e2;split at h;rename_i O;injection h with h;subst h;cases t with
   |true=>exact(ih _ _ _ e1).get F z next
   |false=>rw[O]at next;exact(ih _ _ _ e2).get hy z next
   cases h;cases h
  cases h
 |block id x=>
  simp only[step]at h;intro N j E a w Q q z next;cases j<;>simp only[dJ,eL]at q;simp only[JZ,beq_iff_eq]at q;obtain⟨rfl,q⟩:=q;refine wp_block ?_;split at h
  rename_i k s' F;refine(ih _ _ _ F).get q z λB w' hs'=>?_;grind [rQ,Exit.inBlock];rename_i Z;refine(ih _ _ _ h).get q z λB w' hs'=>?_;obtain⟨e,s'⟩:=r;cases e with
  |normal=>exact next B w' hs'
  |exit id=>simp_all
  |ret=>exact next B w' hs'
 |loop live x=>
  simp only[step]at h;intro N j E a w Q q z next;cases j<;>simp only[dJ,eL]at q;split at h
  rename_i s' C;obtain⟨k,hk⟩:=ih _ _ _ h;have J:E.σ.length<=s.sto.length:=by obtain⟨_,_,g,_,_,A⟩:=z;exact A.len
  obtain⟨hs',hl⟩:=QR z C J (zQ0 _);exact wp_loop_rounds k (hk N _ E a w Q q J (by omega) hs' next);cases h
 |lp n live x=>
  simp only[step]at h;split at h
  ·rename_i s' F;split at h
   ·rename_i aw C;obtain⟨k,hk⟩:=ih _ _ _ h;refine⟨k+1,λN j E a w Q q J hn z next=>?_⟩;rw[rounds_succ];obtain⟨h1,h2,g,hi,D,A⟩:=z;have G:Sim N ⟨s.sto,g,w⟩ s a w:=⟨h1,h2,g,hi,D,.refl _⟩;refine(ih _ _ _ F).get q G λB w' hs'=>?_;obtain⟨V,S,g',L,M,H⟩:=hs';have hlen:s.sto.length<=s'.sto.length:=H.len;have aa:Sim N E s' B w':=⟨V,S,g',L,M,A.trans H⟩;obtain⟨ab,hl⟩:=QR aa C J (by omega);exact hk N j E B w' Q q J (by omega) ab next
   cases h
  ·rename_i Z;refine⟨1,λN j E a w Q q J hn z next=>?_⟩;rw[rounds_succ];refine(ih _ _ _ h).get q z λB w' hs'=>?_;obtain⟨e,s'⟩:=r;cases e with|normal=>simp_all|exit id=>exact next B w' hs'|ret=>exact next B w' hs'
 |scope x=>simp only[step]at h;intro N j E a w Q q z next;cases j<;>simp only[dJ,eL]at q;refine wp_scope_straight ((ih _ _ _ h).get q z λB w' hs'=>?_);have:=next B w' hs';obtain⟨e,s'⟩:=r;cases e<;>exact this
 |exit id=>
  simp only[step]at h;injection h with h;subst h;intro N j E a w Q q z next;cases j<;>simp only[dJ,eL]at q;simp only[beq_iff_eq]at q;subst q;exact wp_exit (next a w z)
 |ret=>
  simp only[step]at h;injection h with h;subst h;intro N j E a w Q q z next;cases j<;>simp only[dJ,eL]at q;exact wp_ret (next a w z)
 |keep live x=>simp only[step]at h;intro N j E a w Q q z next;exact(ih _ _ _ h).get (by grind [dJ]) (z.restr live) next
 |tidy live x=>
  simp only[step,mU]at h;intro N j E a w Q q z next;split at h;rename_i e W O;split at h;rename_i s3 C;injection h with h;subst h;obtain⟨h1,h2,g,hi,D,A⟩:=z;have G:Sim N ⟨s.sto,g,w⟩ s a w:=⟨h1,h2,g,hi,D,.refl _⟩;refine(ih _ _ _ O).get (by grind [dJ]) G λB w' hs'=>next B w' ?_;obtain⟨V,S,g',L,M,H⟩:=hs';exact(QR (st:=W) (st':=s3) ⟨V,S,g',L,M,A.trans H⟩ C A.len H.len).1;cases h;cases h
 |br live pre o x y rest=>
  simp only[step]at h;intro N j E a w Q q z next;unfold dJ at q;split at q;rename_i cp cq cx cy cz;simp only[JZ]at q;obtain⟨⟨⟨⟨hp,ho⟩,F⟩,hy⟩,hz⟩:=q;split at h;rename_i s1 a7;refine wp_seq (wp_seq ((ih _ _ _ a7).get hp z λY U a2=>?_));have ae: ∀{c:cF} {j:Code} {r':Out},dJ P N c j=true->thn (R c s1) (λs=>R rest s)=some r'->
    ∀{E:Sn} {a:Act} {w:World} {Q:Exit->Act->World->Prop},Sim N E s1 a w->(∀B w',Sim N E r'.2 B w'->Q (rQ r'.1) B w')->j.wp P (Exit.then (cz.wp P Q) Q) a w:=by
   intro c j r' q A E a w Q z next;cases hR:R c s1 with
   |none=>rw[hR]at A;cases A
   |some o=>
    obtain⟨e,W⟩:=o;rw[hR]at A;refine(ih _ _ _ hR).get q z λB w' hs'=>?_;cases e with
    |normal=>exact(ih _ _ _ A).get hz hs' next
    |exit id=>injection A with A;subst A;exact next B w' hs'
    |ret=>injection A with A;subst A;exact next B w' hs'
  have ai: ∀{c:cF} {j:Code},dJ P N c j=true->mU s1.sto.length live (thn (R c s1) λs=>R rest s)=some r->j.wp P (Exit.then (cz.wp P Q) Q) Y U:=(by intro c j q A;unfold mU at A;split at A;rename_i e W O;split at A;rename_i s3 C;injection A with A;subst A;obtain⟨h1,h2,g,hi,D,A⟩:=a2;have G:Sim N ⟨s1.sto,g,U⟩ s1 Y U:=⟨h1,h2,g,hi,D,.refl _⟩;refine ae q O G λB w' hs'=>next B w' ?_;obtain⟨V,S,g',L,M,H⟩:=hs';exact(QR (st:=W) (st':=s3) ⟨V,S,g',L,M,A.trans H⟩ C A.len H.len).1;cases A;cases A);have a4:=a2;obtain⟨_,_,g,hi,D,_⟩:=a4;simp only[rQ,Exit.then];split at h;rename_i b I;have hrel:=bL (s:=⟨s1.sto,g,U⟩) (env:=s1.env) D I ho;generalize K:Y.eval cq=v at hrel;cases hrel with
  |p _ _ hrel=>cases hrel<;>grind [wp_cond]
  rename_i I;have hrel:=bL (s:=⟨s1.sto,g,U⟩) (env:=s1.env) D I ho;generalize K:Y.eval cq=v at hrel;cases hrel with
  |unk t=>
   refine wp_cond K ?_;unfold same at h;grind
  cases h;cases h;cases q
theorem Cz(e:P.follows .mixedOrders=true)(j: ∀f o,T f=some (.fn o)->lT P f o=true)
  (h: ∀f g,T f=some (.prim g)-> ∀args blks r,g args blks=some r->J61 P f args blks r) (n: ∀f k,T f=some (.fork k)->lT P f k.af=true):jX P (AF T):=
 sw (JHD e j h n) j h n
end
end Go.Am
end
section
namespace Go.Am
@[congr] theorem JLU{o e:Option Out}{k:St->Option Out}(h:o=e):thn o k=thn e k:=by rw[h]
@[congr] theorem JKP{α β:Type}{o e:RM α}{f:α->RM β}(h:o=e):o.bind f=e.bind f:=by rw[h]
@[congr] theorem JKQ{α β:Type}{o e:Option α}{f:α->Option β}(h:o=e):o.bind f=e.bind f:=by rw[h]
@[simp] theorem MK(s k):thn (some (.normal,s)) k=k s:=rfl
@[simp] theorem JFK(i s k):thn (some (.exit i,s)) k=some (.exit i,s):=rfl
@[simp] theorem JHB(s k):thn (some (.ret,s)) k=some (.ret,s):=rfl
@[simp] theorem JEC(k):thn none k=none:=rfl
def IA(o:Option Out)(k:St->Option Out):Option Out:=
 match o with
 |some (.normal,s)=>k s
 |_=>none
@[congr] theorem JKU{o e:Option Out}{k:St->Option Out}(h:o=e):IA o k=IA e k:=by rw[h]
@[simp] theorem F1(s k):IA (some (.normal,s)) k=k s:=rfl
def blo(id:Nat)(o:Option Out):Option Out:=
 match o with
 |some (.exit k,s)=>if k=id then some (.normal,s)else some (.exit k,s)
 |o=>o
@[simp] theorem JC9(id s):blo id (some (.normal,s))=some (.normal,s):=rfl
@[simp] theorem ro(id i s):blo id (some (.exit i,s))=if i=id then some (.normal,s)else some (.exit i,s):=rfl
@[simp] theorem JIv(id s):blo id (some (.ret,s))=some (.ret,s):=rfl
@[simp] theorem JFm(id):blo id none=none:=rfl
def nrm(o:Option St):Option Out:=match o with|some s=>some (.normal,s)|none=>none
@[simp] theorem JGO(s):nrm (some s)=some (.normal,s):=rfl
@[simp] theorem JG1:nrm none=none:=rfl
def evv(x:Opd)(env:List (Nat×AV)):Option AV:=match x with| .t n=>lk n env| .c v=>some v
@[simp] theorem JMs(n env):evv (.t n) env=lk n env:=rfl
@[simp] theorem JMt(v env):evv (.c v) env=some v:=rfl
theorem PD(x:Opd)(s:St):(ev x).run s=evv x s.env:=by cases x<;>grind [ev,RM.run,evv]
section
variable (T:eO)
@[simp ↓] theorem JMn(s):X T .skip s=some (.normal,s):=by rw[mP];rfl
@[simp ↓] theorem C3(a b s):X T (.seq a b) s=thn (X T a s) λs=>X T b s:=by
 rw[mP];simp only[step];cases X T a s with
 |none=>rfl
 |some o=>obtain⟨e,s'⟩:=o;cases e<;>rfl
theorem Cv(d ps ins s):X T (.reg d ps ins) s=nrm (region (AF T) ps ins s):=by rw[mP];simp only[step];show(match region (AF T) ps ins s with|some s'=>some (AX.normal,s')|none=>none)=_;cases region (AF T) ps ins s<;>rfl
@[simp ↓] theorem JMp(d ins env sto):X T (.reg d [] ins) ⟨env,sto⟩=nrm (gO (AF T) ins sto.length ⟨env,room (news ins) sto⟩):=by rw[Cv];rfl
def cnd(x:Option AV)(a b:Option Out)(c:Unit->Option Out):Option Out:=
 match x with
 |some (.p (.b x))=>if x=true then a else b
 |some .unk=>c ()
 |_=>none
@[congr] theorem JLS{x e:Option AV}{a b:Option Out}{c:Unit->Option Out}(h:x=e):cnd x a b c=cnd e a b c:=by rw[h]
@[simp] theorem Cu(x a b c):cnd (some (.p (.b x))) a b c=if x=true then a else b:=rfl
@[simp] theorem JIC(a b c):cnd (some .unk) a b c=c ():=rfl
@[simp ↓] theorem JIN(x a b s):X T (.cond x a b) s=cnd (evv x s.env) (X T a s) (X T b s) λ_=>same (X T a s) (X T b s):=by
 rw[mP];simp only[step,PD];cases evv x s.env with
 |none=>rfl
 |some v=>
  cases v with
  |p c=>cases c<;>rfl
  |_=>rfl
@[simp ↓] theorem JHo(id c s):X T (.block id c) s=blo id (X T c s):=by
 rw[mP];simp only[step];cases X T c s with
 |none=>rfl
 |some o=>obtain⟨e,s'⟩:=o;cases e<;>rfl
@[simp ↓] theorem JHL(c s):X T (.scope c) s=X T c s:=by rw[mP];rfl
@[simp ↓] theorem JMm(id s):X T (.exit id) s=some (.exit id,s):=by rw[mP];rfl
@[simp ↓] theorem Z0(s):X T .ret s=some (.ret,s):=by rw[mP];rfl
@[simp ↓] theorem Dd(live c s):X T (.keep live c) s=X T c ⟨restr live s.env,s.sto⟩:=by rw[mP];rfl
@[simp ↓] theorem JMv(live pre x a b rest s):X T (.br live pre x a b rest) s=IA (X T pre s) λs1=>
  cnd (evv x s1.env) (thn (X T a s1) λs=>X T rest s) (thn (X T b s1) λs=>X T rest s) λ_=>
   same (mU s1.sto.length live (thn (X T a s1) λs=>X T rest s)) (mU s1.sto.length live (thn (X T b s1) λs=>X T rest s)):=by
 rw[mP];simp only[step,PD];cases X T pre s with
 |none=>rfl
 |some o=>
  obtain⟨e,s1⟩:=o;cases e with
  |normal=>
   dsimp only[IA];cases evv x s1.env with
   |none=>rfl
   |some v=>
    cases v with
    |p c=>cases c<;>rfl
    |_=>rfl
  |exit=>rfl
  |ret=>rfl
@[simp ↓] theorem JJT(live c env sto):X T (.loop live c) ⟨env,sto⟩=X T (.lp sto.length live c) ⟨restr live env,sto⟩:=by
 grind [mP,step,clean]
theorem kz(n live c s):X T (.lp n live c) s=thn (X T c s) λs=>match clean n live s with
  |some s=>X T (.lp n live c) s
  |none=>none:=by
 rw[mP];simp only[step];cases X T c s with
 |none=>rfl
 |some o=>obtain⟨e,s'⟩:=o;cases e<;>rfl
def HO(res:List vU)(fresh:Bool)(m:Nat)(o:Option Out):Option Res:=
 match o with
 |some (.normal,s)=>iE ⟨0,0,.skip,res,fresh⟩ m s
 |some (.ret,s)=>iE ⟨0,0,.skip,res,fresh⟩ m s
 |_=>none
@[congr] theorem JLt{res:List vU}{fresh:Bool}{m:Nat}{o e:Option Out}(h:o=e):HO res fresh m o=HO res fresh m e:=by rw[h]
@[simp] theorem Fs(res fresh m s):HO res fresh m (some (.normal,s))=iE ⟨0,0,.skip,res,fresh⟩ m s:=rfl
@[simp] theorem JGu(res fresh m s):HO res fresh m (some (.ret,s))=iE ⟨0,0,.skip,res,fresh⟩ m s:=rfl
@[simp] theorem JLg(o:Option Res):KH o o=o:=by unfold KH;cases o<;>simp
theorem JLN{f:FuncId}{fn:AFn}(h:T f=some (.fn fn))(args blks):AF T f args blks=if args.length=fn.np then
  HO fn.res fn.fresh blks.length (X T fn.body ⟨jO 0 args,blks⟩)
 else none:=by
 unfold AF rJ;rw[h];rfl
end
variable {F:Orc} {env:List (Nat×AV)} {sto:List Blk} {new:Nat} {r:List cD} {d:Nat}
@[simp] theorem JAQ(s):gO F [] new s=some s:=rfl
theorem Fv(i s):gO F (i::r) new s=((cE F i new).run s).bind λe=>gO F r (new+lR i.op) (put i.dst e s):=by
 grind [gO]
@[simp] theorem JM2:news []=0:=rfl
@[simp ↓] theorem JLT(i):news (i::r)=lR i.op+news r:=rfl
@[simp] theorem JMq:room 0 sto=sto:=rfl
@[simp] theorem JLQ(n):room (n+1) sto=sto++List.replicate (n+1) .dead:=rfl
@[simp] theorem JMr(n):lk n []=none:=rfl
@[simp] theorem JI5(n m v)(r:List (Nat×AV)):lk n ((m,v)::r)=if n=m then some v else lk n r:=rfl
attribute [simp ↓] Fv cE opD tR lR run_bind PD opR
attribute [simp] put val evs evo lC oQ
 nV yH yR unP jP HU fz fz.fzL fz.fz1 fzs AH gX iS sub spl rO OW IQ KT KO mV OH vX qF kZ wY wV dH oA iX mmP cellsOf unp qC kY
 nU one jO gY KY mW
@[simp] theorem JLV(o:Option Out):same o o=o:=by unfold same;cases o<;>simp
@[simp ↓] theorem bI{α:Type}(a:α)(s:St):(RM.ret a).run s=some a:=rfl
@[simp ↓] theorem JMh{α:Type}(s:St):(RM.fail:RM α).run s=none:=rfl
@[simp ↓] theorem xG{α:Type}(n:Nat)(k:AV->RM α)(s:St):(RM.slot n k).run s=(lk n s.env).bind λv=>(k v).run s:=by grind [RM.run]
@[simp ↓] theorem eU{α:Type}(n:Nat)(k:Blk->RM α)(s:St):(RM.blk n k).run s=(s.sto[n]?).bind λv=>(k v).run s:=by grind [RM.run]
@[simp] theorem JHi:upd [] sto=sto:=rfl
@[simp] theorem JFE(b x ws):upd ((b,x)::ws) sto=upd ws (sto.set b x):=rfl
@[simp] theorem JLR:restr [] env=[]:=rfl
@[simp] theorem JCg(k l):restr (k::l) env=match lk k env with
 |some v=>(k,v)::restr l env
 |none=>restr l env:=rfl
end Go.Am
namespace Go.Am
def pX:AV->Bool| .p _| .data _| .cp _ _| .unk=>true|_=>false
@[simp] theorem JM3(c):pX (.p c)=true:=rfl
@[simp] theorem JKR(c):pX (.data c)=true:=rfl
@[simp] theorem JLP(c o):pX (.cp c o)=true:=rfl
theorem vn: ∀{args:List AV} {l:List Ent},args.all pX=true->cS.entsOfL args l=l|[],l,_=>rfl|x::r,l,h=>by simp only[List.all_cons,JZ]at h;obtain⟨h1,h2⟩:=h;simp only[cS.entsOfL];cases x<;>simp[pX]at h1<;>simp only[cS]<;>exact vn h2
theorem te{ρ:Ent->Option Nat}: ∀{args:List AV},args.all pX=true->ren.renL ρ args=some args|[],_=>rfl|x::r,h=>by simp only[List.all_cons,JZ]at h;have:=te (ρ:=ρ) h.2;have h1:=h.1;clear h;cases x<;>simp[pX]at h1<;>simp[ren.renL,ren,this]
theorem JFN{es:List Ent}{new:Nat}{x:AV}(h:pX x=true):bk es new x=some x:=by cases x<;>simp[pX]at h<;>rfl
theorem gu{es:List Ent}{new:Nat}: ∀{xs:List AV},xs.all pX=true->bk.bkL es new xs=some xs|[],_=>rfl|x::r,h=>by simp only[List.all_cons,JZ]at h;simp[bk.bkL,JFN h.1,gu h.2]
@[simp] theorem JMu(es new c):bk es new (.p c)=some (.p c):=rfl
@[simp] theorem JMl(es new c):bk es new (.data c)=some (.data c):=rfl
@[simp] theorem JMo(es new l):bk es new (.tup l)=(bk.bkL es new l).map .tup:=by grind [bk]
@[simp] theorem JMk(es new):bk.bkL es new []=some []:=rfl
@[simp] theorem JM8(es new x l):bk.bkL es new (x::l)=(bk es new x).bind λy=>(bk.bkL es new l).map λl=>y::l:=by simp only[bk.bkL];cases bk es new x<;>simp;cases bk.bkL es new l<;>rfl
@[simp] theorem JKS(n live):mU n live none=none:=rfl
@[simp] theorem H0(n live e s):mU n live (some (e,s))=(clean n live s).map λs=>(e,s):=by
 grind [mU]
attribute [simp ↓] JI Option.bind_none MK JFK JHB JEC F1 JGO JG1 Cu JIC JC9 ro JIv JFm Fs JGu JAQ JI5 JCg JHi JFE
attribute [simp] clean vT rG gN fin fin.finL iE kD rH cS cS.entsOfL wW jT wO eX unp
end Go.Am
end
section
namespace Go.Am
inductive Fr where|sq (b:cF)|bl (id:Nat)|td (n:Nat) (live:List Nat)|lo (n:Nat) (live:List Nat) (c:cF)
noncomputable def again(T:eO)(n:Nat)(live:List Nat)(c:cF)(o:Option St):Option Out:=match o with|some s=>X T (.lp n live c) s|none=>none
section
variable (T:eO) (f:AFn) (m:Nat) (k:List Fr)
theorem JJk(live c s):X T (.tidy live c) s=mU s.sto.length live (X T c s):=by rw[mP];rfl
end
open Classical in
noncomputable def Jd{σ ρ:Type}(f:σ->Option (σ⊕ρ))(s:σ):Option ρ:=
 let e:Nat->σ->Option ρ:=λn=>n.rec (λ_=>none) λ_ ih s=>match f s with|some (.inl s')=>ih s'|some (.inr r)=>some r|none=>none
 if h: ∃n r,e n s=some r then e (Classical.choose h) s else none
def cN{σ ρ:Type}(f:σ->Option (σ⊕ρ)):Nat->σ->Option ρ|0,_=>none|n+1,s=>match f s with|some (.inl s')=>cN f n s'|some (.inr r)=>some r|none=>none
section
variable {σ ρ:Type} {f:σ->Option (σ⊕ρ)}
theorem ZQ(n:Nat): ∀s:σ,(Nat.rec (motive:=λ_=>σ->Option ρ) (λ_=>none) (λ_ ih s=>match f s with
  |some (.inl s')=>ih s'
  |some (.inr r)=>some r
  |none=>none) n) s=cN f n s:=by
 induction n with
 |zero=>intro s;rfl
 |succ n ih=>grind [cN]
theorem gb: ∀{n:Nat} {s:σ} {r:ρ} (m:Nat),cN f n s=some r->cN f (n+m) s=some r
 |0,_,_,_,h=>by cases h
 |n+1,s,r,m,h=>by
  rw[show n+1+m=(n+m)+1 by omega];simp only[cN]at h⊢;split at h;exact gb m h
  all_goals simp_all
theorem JEY{n m:Nat}{s:σ}{r r':ρ}(h:cN f n s=some r)(e:cN f m s=some r'):r=r':=by
 have a:=gb m h;have b:=gb n e;grind
theorem gP{s:σ}{r:ρ}:Jd f s=some r↔ ∃n,cN f n s=some r:=by
 unfold Jd;dsimp only;constructor;intro h;split at h;exact⟨_,by rw[<-ZQ];exact h⟩;cases h;rintro⟨n,h⟩;have e: ∃n r,(Nat.rec (motive:=λ_=>σ->Option ρ) (λ_=>none) (λ_ ih s=>match f s with
  |some (.inl s')=>ih s'
  |some (.inr r)=>some r
  |none=>none) n) s=some r:=⟨n,r,by grind [ZQ]⟩
 rw[dif_pos e];obtain⟨r',g⟩:=Classical.choose_spec e;rw[g];rw[ZQ]at g;grind [JEY]
theorem FY{s:σ}{r:ρ}(h:f s=some (.inr r)):Jd f s=some r:=gP.2 ⟨1,by grind [cN]⟩
theorem gz{s s':σ}(h:f s=some (.inl s')):Jd f s=Jd f s':=by
 have g: ∀r,Jd f s=some r↔Jd f s'=some r:=by
  intro r;rw[gP,gP];constructor;rintro⟨n,e⟩;cases n<;>grind [cN]
  rintro⟨n,e⟩;exact⟨n+1,by grind [cN]⟩
 cases hs:Jd f s with
 |some r=>grind
 |none=>cases hs':Jd f s'<;>grind
theorem fv{P:σ->ρ->Prop}(h1: ∀s r,f s=some (.inr r)->P s r)(h2: ∀s s' r,f s=some (.inl s')->P s' r->P s r){s:σ}{r:ρ}(h:Jd f s=some r):P s r:=by
 obtain⟨n,e⟩:=gP.1 h;clear h
 induction n generalizing s with
 |zero=>cases e
 |succ n ih=>
  grind [cN]
end
end Go.Am
end
section
namespace Go.Am
section
variable {α:Type}
def idx(l:List α)(n:Int):Option α:=if 0<=n then l[n.toNat]? else none
def bA(k:Nat)(n:Int):Option Unit:=if 0<=n/\n<k then some ()else none
def JM(bytes:Nat)(l l':List α):Option (List α):=if oA (l.length+l'.length) bytes=true then some (l++l')else none
def dA(bytes:Nat)(l:List α):Option (List α):=if oA l.length bytes=true then some l else none
def Bo(bytes:Nat)(l l':List α):Option (List α):=if 0<l'.length/\oA (l.length+l'.length) bytes=true then some (l++l')else none
def mkS(bytes:Nat)(n m:Int)(z:α):Option (List α):=if 0<=n/\n<=m/\bytes*m<=281474976710656/\m<=281474976710656 then some (List.replicate n.toNat z)else none
def rF(x:Option Int)(top e:Nat):Option Nat:=match x with|none=>some e|some n=>if 0<=n/\n<=top then some n.toNat else none
def pH(n:Nat)(lo hi:Option Int):Option (Nat×Nat):=match rF hi n n with|none=>none|some h=>match rF lo h 0 with|none=>none|some l=>some (l,h)
def bG(l:List α)(lo hi:Option Int):Option (List α):=match pH l.length lo hi with|some c=>some ((l.drop c.1).take (c.2-c.1))|none=>none
def Ch(k:IntKind)(x y:Int):Option Int:=if y=0 then none else some (k.wrap (x.tdiv y))
def pD(x y:Int):Option Int:=if y=0 then none else some (x.tmod y)
def tI(k:IntKind)(x y:Int):Option Int:=if y<0 then none else some (k.wrap (x*2^(min y.toNat k.bits)))
def mS(k:IntKind)(x y:Int):Option Int:=if y<0 then none else some (x.fdiv (2^(min y.toNat k.bits)))
def qX(k:IntKind)(x y:Int):Int:=k.wrap (BitVec.ofInt k.bits x&&&BitVec.ofInt k.bits y).toNat
def orI(k:IntKind)(x y:Int):Int:=k.wrap (BitVec.ofInt k.bits x|||BitVec.ofInt k.bits y).toNat
def gB(k:IntKind)(x y:Int):Int:=k.wrap (BitVec.ofInt k.bits x^^^BitVec.ofInt k.bits y).toNat
def VO(k:IntKind)(n:Int):Int:=k.wrap (BitVec.ofInt k.bits (if k.signed then -1 else k.max)^^^BitVec.ofInt k.bits n).toNat
def eK(a b:List UInt8):Option (List UInt8):=if a.length+b.length<=4611686018427387904 then some (a++b)else none
def oZ(l:List UInt8)(n:Int):Option Int:=if 0<=n then(match l[n.toNat]? with|some u=>some (u.toNat:Int)|none=>none)else none
def qY{k:Nat}(v:Vector α k)(n:Int):Option α:=if 0<=n/\n<k then v[n.toNat]? else none
def toStr(l:List Int):List UInt8:=l.map λn=>UInt8.ofNat n.toNat
def aS(l:List UInt8):List Int:=l.map λu=>(u.toNat:Int)
def kQ(x y:Int):Int:=if y<x then y else x
def dG(x y:Int):Int:=if y>x then y else x
end
@[reducible] def cat(a b:List PV):List PV:=a++b
def r_i(k:IntKind)(n:Int):List PV:=[.i k n]
def r_b(x:Bool):List PV:=[.b x]
def r_s(l:List UInt8):List PV:=[.s l]
def Zm{α:Type}(esz:Nat)(r:α->List PV)(l:List α):List PV:=[.sl esz (l.map r)]
def pK{α:Type}{n:Nat}(r:α->List PV)(v:Vector α n):List PV:=(v.toList.map r).flatten
section
variable {α:Type}
theorem AC(cs:List α)(off size:Nat):sub cs off size=if off+size<=cs.length then some ((cs.drop off).take size)else none:=by
 grind [sub]
theorem FE(cs:List α)(off:Nat)(vs:List α):spl cs off vs=if off+vs.length<=cs.length then some (cs.take off++vs++cs.drop (off+vs.length))else none:=by simp_all
theorem YW{cs:List α}{n:Nat}(h:cs.length=n):sub cs 0 n=some cs:=by simp_all
theorem qo{cs vs:List α}(h:cs.length=vs.length):spl cs 0 vs=some vs:=by simp_all
theorem JEr{a b c:List α}{off size:Nat}(h1:a.length=off)(h2:b.length=size):sub (a++(b++c)) off size=some b:=by
 grind [AC]
theorem JCw{b c:List α}{size:Nat}(h2:b.length=size):sub (b++c) 0 size=some b:=JEr (a:=[]) rfl h2
theorem JDj{a b c v:List α}{off:Nat}(h1:a.length=off)(h2:b.length=v.length):spl (a++(b++c)) off v=some (a++(v++c)):=by
 grind [FE]
theorem JCL{b c v:List α}(h2:b.length=v.length):spl (b++c) 0 v=some (v++c):=JDj (a:=[]) rfl h2
theorem po{cs e r:List α}{a m k n:Nat}(h1:sub cs a m=some e)(h2:sub e k n=some r):sub cs (a+k) n=some r:=by
 grind [AC,List.drop_take,List.drop_drop]
theorem pv{cs g e v cs':List α}{a m k:Nat}(h1:sub cs a m=some g)(h2:spl g k v=some e)(h3:spl cs a e=some cs'):spl cs (a+k) v=some cs':=by
 rw[AC]at h1;rw[FE]at h2 h3⊢;split at h1;rename_i o;injection h1 with h1;subst h1;split at h2;rename_i j;injection h2 with h2;subst h2;simp at j;split at h3;injection h3 with h3;subst h3;rw[if_pos (by omega)]
 congr 1
 simp only[dS,eD,rA,List.take_take,List.drop_take,wA,fM];have h:cs.take (a+k)=cs.take a++(cs.drop a).take k:=List.take_add ..;rw[h,fM];rw[show min k m=k by omega]
 congr 3
 have n:cs.drop (a+k+v.length)=(cs.drop (a+(k+v.length))).take (m-(k+v.length))++cs.drop (a+m):=(by have:=tM (m-(k+v.length)) (cs.drop (a+(k+v.length)));rw[wA]at this;rw[show a+(k+v.length)+(m-(k+v.length))=a+m by omega]at this;grind);rw[n]
 congr 2
 omega;cases h3;cases h2;cases h1
theorem FR{β:Type}(g:α->β)(cs:List α)(off size:Nat):sub (cs.map g) off size=(sub cs off size).map (List.map g):=by
 grind [AC,List.map_drop,List.map_take]
theorem FQ{β:Type}(g:α->β)(cs:List α)(off:Nat)(vs:List α):spl (cs.map g) off (vs.map g)=(spl cs off vs).map (List.map g):=by
 grind [FE,List.map_drop,List.map_take]
theorem LA{n k w:Nat}{r:α->List PV}(hr: ∀x,(r x).length=w){v:Vector α n}{x:α}(h:v[k]?=some x):sub (pK r v) (k*w) w=some (r x):=by
 have g: ∀(l:List α) (k:Nat) (x:α),l[k]?=some x->sub ((l.map r).flatten) (k*w) w=some (r x):=by
  intro l
  induction l with
  |nil=>simp_all
  |cons y l ih=>
   intro k x h;cases k with
   |zero=>
    grind [JCw]
   |succ k=>
    simp at h;have:=ih k x h;rw[bP,kR];rw[AC]at this⊢;split at this;injection this with this;have e:(k+1)*w=w+k*w:=by grind
    rw[e,if_pos (by grind)];have j:w+k*w=(r y).length+k*w:=by rw[hr]
    rw[j,List.drop_length_add_append,this];cases this
 exact g _ _ _ (by simp_all)
theorem Dz{n k w:Nat}{r:α->List PV}(hr: ∀x,(r x).length=w){v:Vector α n}(h:k<n)(y:α):spl (pK r v) (k*w) (r y)=some (pK r (v.setIfInBounds k y)):=by
 have g: ∀(l:List α) (k:Nat),k<l.length->spl ((l.map r).flatten) (k*w) (r y)=some (((l.set k y).map r).flatten):=by
  intro l
  induction l with
  |nil=>simp_all
  |cons z l ih=>
   intro k h;cases k with
   |zero=>
    grind [JCL]
   |succ k=>
    simp at h;have:=ih k h;rw[bP,kR];rw[FE]at this⊢;split at this;rename_i j;injection this with this;have e:(k+1)*w=(r z).length+k*w:=by grind
    rw[e,if_pos (by grind)];simp only[List.set_cons_succ,bP,kR];rw[<-this];rw[show(r z).length+k*w+(r y).length=(r z).length+(k*w+(r y).length) by omega];simp[List.take_length_add_append];cases this
 grind [pK]
theorem JK2{n w:Nat}{r:α->List PV}(hr: ∀x,(r x).length=w)(v:Vector α n):(pK r v).length=n*w:=by
 have e: ∀l:List α,((l.map r).flatten).length=l.length*w:=by
  intro l
  induction l with
  |nil=>simp
  |cons x l ih=>grind
 grind [pK]
end
theorem MA: ∀l:List PV,unp (l.map AV.p)=some l|[]=>rfl|x::l=>by simp[unp,MA l]
theorem vz(l:List PV):lC true (l.map AV.p)=some (.data l):=by simp[MA]
theorem WC: ∀l:List PV,(l.map AV.p).all pX=true|[]=>rfl|x::l=>by simp
theorem ui(m:Nat)(ids:List Nat)(sto:List Blk): ∀l:List PV,fin.finL m ids sto (l.map AV.p)=some (l.map AV.p)|[]=>rfl|x::l=>by simp[fin.finL,fin,ui m ids sto l]
theorem ua(l:List PV)(acc:List Ent):cS.entsOfL (l.map AV.p) acc=acc:=vn (WC l)
theorem JDg{α:Type}{r:α->List PV}{l:List α}{n:Int}{x:α}(h:idx l n=some x):OH (l.map r) n=some (r x):=by simp_all [idx]
theorem PT{k:Nat}{n:Int}{u:Unit}(h:bA k n=some u):0<=n/\n<k:=by
 grind [bA]
theorem JEE{α:Type}{k:Nat}{v:Vector α k}{n:Int}{x:α}(h:qY v n=some x):(0<=n/\n<k)/\v[n.toNat]?=some x:=by
 grind [qY]
theorem JIc{α:Type}{r:α->List PV}{esz bytes b:Nat}{w:Bool}{l l' l2:List α}{y:AV}{s:St}(h:JM bytes l l2=some l')(hb:s.sto[b]?=some (.arr w esz (l.map r)))(hy:(dH esz y).run s=some (l2.map r)):
  (iX esz bytes (.slr b 0 l.length) y).run s=some ⟨.slr b 0 l'.length,[(b,.arr w esz (l'.map r))]⟩:=by
 grind [JM,iX,eU,run_bind,bI]
theorem g9: ∀l:List Int,uG (l.map (r_i .u8))=some (toStr l)|[]=>rfl|x::l=>by simp[uG,r_i,g9 l,toStr]
theorem ZZ(l:List UInt8):l.map mW=(aS l).map (r_i .u8):=by simp[aS,r_i]
theorem JEA{α:Type}{bytes:Nat}{l l':List α}(h:dA bytes l=some l'):oA l.length bytes=true/\l'=l:=by
 grind [dA]
theorem JIp{α:Type}{bytes:Nat}{n m:Int}{z:α}{l:List α}(h:mkS bytes n m z=some l):(0<=n/\n<=m/\bytes*m<=281474976710656/\m<=281474976710656)/\l=List.replicate n.toNat z:=by
 grind [mkS]
end Go.Am
end
section
set_option linter.unusedSimpArgs false
set_option linter.unusedVariables false
namespace Go.Am
open Go.RowKit
theorem JGF{σ:List Blk}{g:Gh}{w w':World}(hi:Inv ⟨σ,g,w⟩)(hb:Below w.heap.size w w'):
  Inv ⟨σ,g,w'⟩/\bE ⟨σ,g,w⟩ ⟨σ,g,w'⟩:=by
 have j: ∀(r:Nat) x,w.heap[r]?=some x->w'.heap[r]?=some x:=λr x h=>by rw[hb.block r (SM h)];exact h
 have n: ∀r o v,cellAt w r o=some v->cellAt w' r o=some v:=(by grind [cellAt]);have t:bE ⟨σ,g,w⟩ ⟨σ,g,w'⟩:=by
  refine⟨⟨hb.size,λr c e fz h=>⟨c,j r _ h,rfl,λ_ _=>rfl⟩,λr x h _=>j r x h,hb.os,hb.output⟩,λ_ _ h=>h,λ_ _ h=>.inl h,λr o ⟨b,hb⟩=>.inl ⟨b,hb⟩,zQ0 _,λ_ cs h=>⟨⟨cs,h,rfl⟩,rfl⟩,
   λ_ wm _ rows h=>⟨wm,rows,h,id,zQ0 _,λ_=>rfl⟩⟩
 exact⟨pZ hi t (λ_=>False) (λ_ _=>⟨rfl,rfl⟩) (λ_ r o v _ _ h=>n r o v h) (λ_ _ h=>h.elim) (λ_ _ _ _ h=>h.elim)
  (λ_ _ _ _ h=>h.elim) (λr o h=>Nat.lt_of_lt_of_le (hi.const r o h).1 hb.size) (λ_ _ _ _ h=>h.elim) (λ_ _ _ h k=>(k h).elim),t⟩
def yV:PV->Option Value| .b x=>some (.bool x)| .i k n=>some (.int k n)| .s l=>some (.string ⟨l.toArray⟩)|_=>none
theorem JFt{x:PV}{v:Value}(h:yV x=some v)(w:World)(C:Nat->Nat->Prop):J0e w C x v:=by
 cases x<;>simp only[yV,Option.some.injEq,reduceCtorEq]at h<;>subst h
 exact .b _;exact .i _ _;exact .s _
theorem JHV{x:PV}{v e:Value}{w:World}{C:Nat->Nat->Prop}(h:J0e w C x v)(hv:yV x=some e):v=e:=by cases x<;>simp only[yV,Option.some.injEq,reduceCtorEq]at hv<;>subst hv<;>cases h<;>rfl
theorem Jpm{P:Program}{f:FuncId}{xs:List PV}{vs:List Value}{r:PV}{v:Value}{blks:List Blk}
  (hf: ∃fn,P.funcs[f]?=some fn∧fn.body.isSome=true∧(fn.name== "runtime.NumGoroutine")=false)
  (hx:xs.mapM yV=some vs) (hr:yV r=some v)
  (hc: ∀w,Calls P f vs.toArray w λe w'=>e=.returned v/\Below w.heap.size w w'):
  J61 P f (xs.map .p) blks (.p r,blks):=by
 refine⟨hf,λg w vals hi B D=>?_⟩;have h:vals=vs.toArray:=by
  have n: ∀(xs:List PV) (vs vl:List Value),xs.mapM yV=some vs->xs.length=vl.length->
    (∀(i:Nat) x v,(xs.map AV.p)[i]?=some x->vl[i]?=some v->JK ⟨blks,g,w⟩ x v)->vl=vs:=by
   intro xs
   induction xs with
   |nil=>grind
   |cons x r ih=>
    intro vs vl h1 h2 h3;simp only[List.mapM_cons,Option.pure_def,Option.bind_eq_bind]at h1;obtain⟨v0,o,h1⟩:=cR.1 h1;obtain⟨y,k,h1⟩:=cR.1 h1;simp only[Option.some.injEq]at h1;subst h1;cases vl with
    |nil=>simp at h2
    |cons u q=>
     have:=h3 0 (.p x) u rfl rfl;cases this with
     |p _ _ A=>rw[JHV A o,ih y q k (by simpa using h2) (λi x v hx C=>h3 (i+1) x v hx C)]
  apply DC;rw[n xs vs vals.toList hx (by simpa using B) (λi x v h1 h2=>D i x v h1 (by simpa using h2))]
 subst h;refine(hc w).mono ?_;rintro e w' ⟨rfl,z⟩;obtain⟨j,t⟩:=JGF hi z;exact⟨v,g,rfl,j,t,.p _ _ (JFt hr _ _)⟩
theorem YU{T:eO}{f:FuncId}{g:List AV->List Blk->Option Res}(h:T f=some (.prim g))(args blks):AF T f args blks=g args blks:=by simp_all [AF,rJ]
def Bs(a:Option AFn)(k:Option pA)(g q:Option (List AV->List Blk->Option Res)):Option Entry:=
 match a with
 |some a=>some (.fn a)
 |none=>match k with|some k=>some (.fork k)|none=>match g with|some g=>some (.prim g)|none=>q.map .prim
theorem GA{a:Option AFn}{k:Option pA}{g q:Option (List AV->List Blk->Option Res)}{e:Entry}(h:Bs a k g q=some e):
  (∃x,a=some x/\e=.fn x)\/(∃x,k=some x/\e=.fork x)\/(∃x,g=some x/\e=.prim x)\/(∃x,q=some x/\e=.prim x):=by
 cases a with
 |some a=>exact .inl ⟨a,rfl,by injection h with h;exact h.symm⟩
 |none=>
  cases k with
  |some k=>exact .inr (.inl ⟨k,rfl,by injection h with h;exact h.symm⟩)
  |none=>
   cases g with
   |some g=>exact .inr (.inr (.inl ⟨g,rfl,by injection h with h;exact h.symm⟩))
   |none=>
    cases q with
    |some q=>exact .inr (.inr (.inr ⟨q,rfl,by injection h with h;exact h.symm⟩))
    |none=>cases h
def JkV(l:List UInt8)(n:Int):Option (List UInt8):=if 0<=n/\n<=9223372036854775807/\l.length*n.toNat<=140737488355328 then some (List.replicate n.toNat l).flatten else none
def JBB:List AV->List Blk->Option Res|[.p (.s l),.p (.i .i64 n)],blks=>(JkV l n).map λr=>(.p (.s r),blks)|_,_=>none
def J6V(n:Int)(i:Nat):Int:=IntKind.wrap .u8 ((IntKind.wrap .u64 n).fdiv (2^(8*i)))
def J06(n:Int)(k:Nat):List UInt8:=toStr ((List.range k).map (J6V n))
def JjN(l:List UInt8)(n size:Int):Option (List UInt8):=if size<1\/8<size then some l else if l.length+8<=140737488355328 then some (l++J06 n size.toNat)else none
def JB5:List AV->List Blk->Option Res|[.p (.s l),.p (.i .i64 n),.p (.i .i64 k)],blks=>(JjN l n k).map λr=>(.p (.s r),blks)|_,_=>none
theorem JIo(x:Int):0<=IntKind.wrap .u8 x/\IntKind.wrap .u8 x<256:=by have h:IntKind.wrap .u8 x=x%256:=rfl;rw[h];omega
theorem JmH(n:Int)(i:Nat):((UInt8.ofNat (J6V n i).toNat).toNat:Int)=J6V n i:=by
 have h:0<=J6V n i/\J6V n i<256:=JIo _;grind [UInt8.toNat_ofNat_of_lt']
theorem Jqa(n:Int)(k:Nat):J06 n (k+1)=J06 n k++[UInt8.ofNat (J6V n k).toNat]:=by simp[J06,toStr,List.range_succ]
theorem Jv(n:Int)(k:Nat):(J06 n k).length=k:=by simp[J06,toStr]
theorem JLL(x y:Bool):cH [.b] [.b x] [.b y]=some (decide (x=y)):=by
 grind [cH,vO]
theorem JLC(k:IntKind)(x y:Int):cH [.i k] [.i k x] [.i k y]=some (decide (x=y)):=by
 grind [cH,vO]
theorem JLA(x y:List UInt8):cH [.s] [.s x] [.s y]=some (decide (x=y)):=by
 grind [cH,vO]
theorem pm{p q:Prop} [Decidable p] [Decidable q]: ∀{e g:List KD} {a1 a2 b1 b2:List PV},cH e a1 b1=some (decide p)->cH g a2 b2=some (decide q)->cH (e++g) (cat a1 a2) (cat b1 b2)=some (decide (p/\q)):=by
 have h: ∀(e g:List KD) (a1 a2 b1 b2:List PV) (r s:Bool),cH e a1 b1=some r->cH g a2 b2=some s->cH (e++g) (a1++a2) (b1++b2)=some (r&&s):=by
  intro e
  induction e with
  |nil=>
   grind [cH]
  |cons k ks ih=>
   intro g a1 a2 b1 b2 r s h1 h2;cases a1 with
   |nil=>grind [cH]
   |cons a a1=>
    cases b1 with
    |nil=>grind [cH]
    |cons b b1=>
     simp only[cH]at h1;split at h1;rename_i u c j n;injection h1 with h1;subst h1;simp only[tK,cH,j,ih _ _ _ _ _ _ _ n h2,Bool.and_assoc];cases h1
 intro e g a1 a2 b1 b2 h1 h2;rw[h _ _ _ _ _ _ _ _ h1 h2,Bool.decide_and]
theorem JKd{α:Type} [DecidableEq α]{n:Nat}{ks:List KD}{r:α->List PV}(h: ∀x y,cH ks (r x) (r y)=some (decide (x=y)))(v w:Vector α n):
  cH (List.replicate n ks).flatten (pK r v) (pK r w)=some (decide (v=w)):=by
 have e: ∀(l l':List α),l.length=l'.length->cH (List.replicate l.length ks).flatten (l.map r).flatten (l'.map r).flatten=some (decide (l=l')):=by
  intro l
  induction l with
  |nil=>grind [cH]
  |cons a l ih=>
   intro l' h1;cases l' with
   |nil=>simp at h1
   |cons b l'=>
    have h2:=pm (h a b) (ih l' (by simpa using h1));grind [decide]
 have h3:=e v.toList w.toList (by simp);rw[show v.toList.length=n by simp]at h3;rw[show decide (v=w)=decide (v.toList=w.toList) by simp[Vector.toList_inj]];exact h3
end Go.Am
end
section
namespace Go.Am
def J1(k:IntKind)(a c:Int):Int:=k.wrap (a+c)
def JL(k:IntKind)(a c:Int):Int:=k.wrap (a-c)
def cV(k:IntKind)(a c:Int):Int:=k.wrap (a*c)
def Zl(k:IntKind)(n:Int):Int:=k.wrap (0-n)
def bN(k:IntKind)(n:Int):Int:=k.wrap n
def aK(a c:Int):Bool:=decide (a=c)
def aO(a c:Int):Bool:= !decide (a=c)
def aM(a c:Int):Bool:=decide (a<c)
def bJ(a c:Int):Bool:=decide (a<=c)
def aP(a c:Int):Bool:=decide (a>c)
def aR(a c:Int):Bool:=decide (a>=c)
def eqS(a c:List UInt8):Bool:=decide (a=c)
def neS(a c:List UInt8):Bool:= !decide (a=c)
def ltS(a c:List UInt8):Bool:=Op.bytesLess a c
def leS(a c:List UInt8):Bool:=Op.bytesLess a c||decide (a=c)
def gtS(a c:List UInt8):Bool:= !(Op.bytesLess a c||decide (a=c))
def geS(a c:List UInt8):Bool:= !Op.bytesLess a c
def eqB(a c:Bool):Bool:=decide (a=c)
def Jn(x:Bool):Bool:= !x
def J0{α:Type}(l:List α):Int:=l.length
def JLX{α:Type}(c:Bool)(x y:α):α:=if c=true then x else y
def bQ{α:Type}(l:List α)(i:Nat):Option α:=l[i]?
def aZ{α:Type}(l:List α)(i:Nat)(x:α):List α:=l.set i x
def vat{α:Type}{n:Nat}(l:Vector α n)(i:Nat):Option α:=l[i]?
def fY{α:Type}{n:Nat}(l:Vector α n)(i:Nat)(x:α):Vector α n:=l.setIfInBounds i x
inductive Ty where
 |b
 |i (k:IntKind)
 |s
 |l (t:Ty)
 |pr (a c:Ty)
 |ar (n:Nat) (t:Ty)
 |u
 |f
 deriving DecidableEq
@[reducible] def Ty.D:Ty->Type
 | .b=>Bool
 | .i _=>Int
 | .s=>List UInt8
 | .l t=>List t.D
 | .pr a c=>a.D×c.D
 | .ar n t=>Vector t.D n
 | .u=>Unit
 | .f=>Unit
def Ty.sz:Ty->Nat| .b=>1| .i _=>1| .s=>1| .l _=>1| .pr a c=>a.sz+c.sz| .ar n t=>n*t.sz| .u=>0| .f=>1
def cel:(t:Ty)->t.D->List PV| .b,x=>[.b x]| .i k,x=>[.i k x]| .s,x=>[.s x]| .l t,x=>[.sl t.sz (x.map (cel t))]| .pr a c,x=>cel a x.1++cel c x.2| .ar _ t,x=>pK (cel t) x| .u,_=>[]| .f,_=>[.nf]
theorem eP: ∀(t:Ty) (x:t.D),(cel t x).length=t.sz| .b,_=>rfl| .i _,_=>rfl| .s,_=>rfl| .l _,_=>rfl| .pr a c,x=>by simp only[cel,dS,eP a,eP c,Ty.sz]| .ar n t,x=>by simp only[cel,Ty.sz];exact JK2 (eP t) x| .u,_=>rfl| .f,_=>rfl
def Ty.eqd:(t:Ty)->DecidableEq t.D| .b=>inferInstanceAs (DecidableEq Bool)| .i _=>inferInstanceAs (DecidableEq Int)| .s=>inferInstanceAs (DecidableEq (List UInt8))| .l t=>have:=t.eqd;inferInstanceAs (DecidableEq (List t.D))| .pr a c=>have:=a.eqd;have:=c.eqd;inferInstanceAs (DecidableEq (a.D×c.D))| .ar n t=>have:=t.eqd;inferInstanceAs (DecidableEq (Vector t.D n))| .u=>inferInstanceAs (DecidableEq Unit)| .f=>inferInstanceAs (DecidableEq Unit)
def eqT(t:Ty)(x y:t.D):Bool:=have:=t.eqd;decide (x=y)
theorem eB{t:Ty}{x y:t.D}:eqT t x y=true↔x=y:=by simp[eqT]
def Ty.zero:(t:Ty)->t.D| .b=>false| .i _=>(0:Int)| .s=>[]| .l _=>[]| .pr a c=>(a.zero,c.zero)| .ar n t=>Vector.replicate n t.zero| .u=>()| .f=>()
def Ty.ks:Ty->Option (List KD)
 | .b=>some [.b]
 | .i k=>some [.i k]
 | .s=>some [.s]
 | .l _=>none
 | .pr a c=>match a.ks,c.ks with|some x,some y=>some (x++y)|_,_=>none
 | .ar n t=>match t.ks with|some x=>some (List.replicate n x).flatten|none=>none
 | .u=>some []
 | .f=>none
theorem PR: ∀(t:Ty) {ks:List KD} (x y:t.D),t.ks=some ks->cH ks (cel t x) (cel t y)=some (eqT t x y)
 | .b,ks,x,y,h=>by injection h with h;subst h;exact JLL x y
 | .i k,ks,x,y,h=>by injection h with h;subst h;exact JLC k x y
 | .s,ks,x,y,h=>by injection h with h;subst h;exact JLA x y
 | .l _,_,_,_,h=>by cases h
 | .pr a c,ks,x,y,h=>by
  simp only[Ty.ks]at h;split at h;rename_i p q e g;injection h with h;subst h;have h1:=PR a x.1 y.1 e;have h2:=PR c x.2 y.2 g;unfold eqT at h1 h2;have j:(have:=a.eqd;decide (x.1=y.1))= @decide _ (a.eqd x.1 y.1):=rfl;have:= @pm _ _ (a.eqd x.1 y.1) (c.eqd x.2 y.2) _ _ _ _ _ _ h1 h2;simp only[cel];refine this.trans (congrArg some ?_);grind [eqT];cases h
 | .ar n t,ks,x,y,h=>by
  simp only[Ty.ks]at h;split at h;rename_i p e;injection h with h;subst h;have:= @JKd t.D t.eqd n p (cel t) (λx y=>by have:=PR t x y e;exact this) x y;grind [cel,eqT];cases h
 | .u,ks,x,y,h=>by injection h with h;subst h;rfl
 | .f,_,_,_,h=>by cases h
inductive Sp where
 |f (off:Nat)
 |a (i esz:Nat)
 deriving DecidableEq
def spo:List Sp->Nat|[]=>0| .f o::r=>o+spo r| .a i e::r=>i*e+spo r
def spf:Nat->List Sp->Nat×List Sp|o,.f k::r=>spf (o+k) r|o,r=>(o,r)
theorem NW: ∀(o:Nat) (p:List Sp),(spf o p).1+spo (spf o p).2=o+spo p|o,[]=>rfl|o,.f k::r=>by simp only[spf,NW,spo];omega|o,.a i e::r=>rfl
section
variable {R:Type}
def prt:(t:Ty)->t.D->(off:Nat)->List Sp->(w:Ty)->(w.D->Option R)->Option R
 |t,x,off,p,w,k=>
  if h:t=w/\off=0/\p=[]then k (h.1▸x)
  else match t,x with
   | .pr a c,x=>if off+(if p=[]then w.sz else 1)<=a.sz then prt a x.1 off p w k
    else if a.sz<=off then prt c x.2 (off-a.sz) p w k
    else none
   | .ar _ t,x=>if p=[]then(vat x (off/t.sz)).bind λy=>prt t y (off%t.sz) p w k
    else match off,p with|0,.a i e::r=>if e=t.sz then(vat x i).bind λy=>prt t y (spf 0 r).1 (spf 0 r).2 w k else none|_,_=>none
   |_,_=>none
def pst:(t:Ty)->t.D->(off:Nat)->List Sp->(w:Ty)->w.D->(t.D->Option R)->Option R
 |t,x,off,p,w,v,k=>
  if h:t=w/\off=0/\p=[]then k (h.1.symm▸v)
  else match t,x,k with
   | .pr a c,x,k=>if off+(if p=[]then w.sz else 1)<=a.sz then pst a x.1 off p w v λy=>k (y,x.2)
    else if a.sz<=off then pst c x.2 (off-a.sz) p w v λy=>k (x.1,y)
    else none
   | .ar _ t,x,k=>if p=[]then(vat x (off/t.sz)).bind λy=>pst t y (off%t.sz) p w v λy=>k (fY x (off/t.sz) y)
    else match off,p with|0,.a i e::r=>if e=t.sz then(vat x i).bind λy=>pst t y (spf 0 r).1 (spf 0 r).2 w v λy=>k (fY x i y)else none|_,_=>none
   |_,_,_=>none
end
theorem JFT{α:Type}{a b v:List α}{off n:Nat}(h:sub a off n=some v):sub (a++b) off n=some v:=by
 grind [AC]
theorem JEg{α:Type}{a b v:List α}{off n:Nat}(h0:a.length<=off)(h:sub b (off-a.length) n=some v):sub (a++b) off n=some v:=by
 grind [AC,List.drop_append,List.drop_of_length_le]
theorem JGI{α:Type}{a b v e:List α}{off:Nat}(h:spl a off v=some e):spl (a++b) off v=some (e++b):=by
 grind [FE]
theorem JDr{α:Type}{a b v e:List α}{off:Nat}(h0:a.length<=off)(h:spl b (off-a.length) v=some e):spl (a++b) off v=some (a++e):=by
 rw[FE]at h⊢;split at h;injection h with h;rw[if_pos (by simp;omega),<-h,List.take_append,List.take_of_length_le h0,List.drop_append,List.drop_of_length_le (by omega)];simp;omega;cases h
theorem Ej{α:Type}{n i:Nat}{x:Vector α n}{y:α}(h:x[i]?=some y):i<n:=by
 grind
theorem xB{R:Type}{t w:Ty}{x:t.D}{off:Nat}{p:List Sp}{k:w.D->Option R}{r:R}(h0:t=w/\off=0/\p=[])(h:k (h0.1▸x)=some r):
  ∃y,sub (cel t x) (off+spo p) w.sz=some (cel w y)/\k y=some r:=by
 obtain⟨rfl,rfl,rfl⟩:=h0;grind [spo,YW,eP]
theorem xC{R:Type}{t w:Ty}{x:t.D}{off:Nat}{p:List Sp}{v:w.D}{k:t.D->Option R}{r:R}(h0:t=w/\off=0/\p=[])(h:k (h0.1.symm▸v)=some r):
  ∃y,spl (cel t x) (off+spo p) (cel w v)=some (cel t y)/\k y=some r:=by
 obtain⟨rfl,rfl,rfl⟩:=h0;grind [spo,qo,eP]
theorem xA{R:Type}: ∀{t:Ty} {x:t.D} {off:Nat} {p:List Sp} {w:Ty} {k:w.D->Option R} {r:R},prt t x off p w k=some r->
  ∃y,sub (cel t x) (off+spo p) w.sz=some (cel w y)/\k y=some r
 | .pr a c,x,off,p,w,k,r,h=>by
  unfold prt at h;by_cases h0:Ty.pr a c=w/\off=0/\p=[];rw[dif_pos h0]at h;exact xB h0 h;rw[dif_neg h0]at h;dsimp only at h;by_cases h1:off+(if p=[]then w.sz else 1)<=a.sz;rw[if_pos h1]at h;obtain⟨y,o,j⟩:=xA h;exact⟨y,JFT o,j⟩;rw[if_neg h1]at h;by_cases h2:a.sz<=off;rw[if_pos h2]at h;obtain⟨y,o,j⟩:=xA h;refine⟨y,JEg (by grind [eP]) ?_,j⟩;grind [eP];simp_all
 | .ar n t,x,off,p,w,k,r,h=>by
  unfold prt at h;by_cases h0:Ty.ar n t=w/\off=0/\p=[];rw[dif_pos h0]at h;exact xB h0 h;rw[dif_neg h0]at h;dsimp only at h;by_cases v:p=[];rw[if_pos v]at h;obtain⟨z,g,h⟩:=cR.1 h;obtain⟨y,h1,h2⟩:=xA h;refine⟨y,?_,h2⟩;have:=po (LA (eP t) g) h1;grind [cel,Nat.div_add_mod];rw[if_neg v]at h;split at h;rename_i _ i e q _;split at h;rename_i A;obtain⟨z,g,h⟩:=cR.1 h;obtain⟨y,h1,h2⟩:=xA h;refine⟨y,?_,h2⟩;have:=po (LA (eP t) g) h1;grind [cel,NW,spo];cases h;cases h
 | .b,x,off,p,w,k,r,h=>by
  unfold prt at h;split at h
  next h0=>exact xB h0 h
  next=>cases h
 | .i _,x,off,p,w,k,r,h=>by
  unfold prt at h;split at h
  next h0=>exact xB h0 h
  next=>cases h
 | .s,x,off,p,w,k,r,h=>by
  unfold prt at h;split at h
  next h0=>exact xB h0 h
  next=>cases h
 | .l _,x,off,p,w,k,r,h=>by
  unfold prt at h;split at h
  next h0=>exact xB h0 h
  next=>cases h
 | .u,x,off,p,w,k,r,h=>by
  unfold prt at h;split at h
  next h0=>exact xB h0 h
  next=>cases h
 | .f,x,off,p,w,k,r,h=>by
  unfold prt at h;split at h
  next h0=>exact xB h0 h
  next=>cases h
theorem zX{R:Type}: ∀{t:Ty} {x:t.D} {off:Nat} {p:List Sp} {w:Ty} {v:w.D} {k:t.D->Option R} {r:R},pst t x off p w v k=some r->
  ∃y,spl (cel t x) (off+spo p) (cel w v)=some (cel t y)/\k y=some r
 | .pr a c,x,off,p,w,v,k,r,h=>by
  unfold pst at h;by_cases h0:Ty.pr a c=w/\off=0/\p=[];rw[dif_pos h0]at h;exact xC h0 h;rw[dif_neg h0]at h;dsimp only at h;by_cases h1:off+(if p=[]then w.sz else 1)<=a.sz;rw[if_pos h1]at h;obtain⟨y,A,o⟩:=zX h;exact⟨(y,x.2),JGI A,o⟩;rw[if_neg h1]at h;by_cases h2:a.sz<=off;rw[if_pos h2]at h;obtain⟨y,A,o⟩:=zX h;refine⟨(x.1,y),JDr (by grind [eP]) ?_,o⟩;grind [eP];simp_all
 | .ar n t,x,off,p,w,v,k,r,h=>by
  unfold pst at h;by_cases h0:Ty.ar n t=w/\off=0/\p=[];rw[dif_pos h0]at h;exact xC h0 h;rw[dif_neg h0]at h;dsimp only at h;by_cases j:p=[];rw[if_pos j]at h;obtain⟨z,g,h⟩:=cR.1 h;obtain⟨y,h1,h2⟩:=zX h;refine⟨_,?_,h2⟩;have:=pv (LA (eP t) g) h1 (Dz (eP t) (Ej g) y);subst j;simp only[spo,yO]at this⊢;rw[Nat.mul_comm,Nat.div_add_mod]at this;exact this;rw[if_neg j]at h;split at h;rename_i _ i e q _;split at h;rename_i B;obtain⟨z,g,h⟩:=cR.1 h;obtain⟨y,h1,h2⟩:=zX h;refine⟨_,?_,h2⟩;have:=pv (LA (eP t) g) h1 (Dz (eP t) (Ej g) y);have C:=NW 0 q;simp only[spo,B];rw[show i*t.sz+((spf 0 q).1+spo (spf 0 q).2)=0+(i*t.sz+spo q) by omega]at this;exact this;cases h;cases h
 | .b,x,off,p,w,v,k,r,h=>by
  unfold pst at h;split at h
  next h0=>exact xC h0 h
  next=>cases h
 | .i _,x,off,p,w,v,k,r,h=>by
  unfold pst at h;split at h
  next h0=>exact xC h0 h
  next=>cases h
 | .s,x,off,p,w,v,k,r,h=>by
  unfold pst at h;split at h
  next h0=>exact xC h0 h
  next=>cases h
 | .l _,x,off,p,w,v,k,r,h=>by
  unfold pst at h;split at h
  next h0=>exact xC h0 h
  next=>cases h
 | .u,x,off,p,w,v,k,r,h=>by
  unfold pst at h;split at h
  next h0=>exact xC h0 h
  next=>cases h
 | .f,x,off,p,w,v,k,r,h=>by
  unfold pst at h;split at h
  next h0=>exact xC h0 h
  next=>cases h
end Go.Am
end
section
namespace Go.Am
inductive TC where|d (t:Ty) (x:t.D)|sc (t:Ty) (rows:List t.D)|np|nf|un|ptr (b:Nat) (p:List Sp)|cp (t:Ty) (x:t.D) (p:List Sp)|slr (b:Nat)|slo (b n:Nat)|ep (b i:Nat) (p:List Sp)|epo (b e i:Nat) (p:List Sp)|fn (f:FuncId)
inductive TA where|c (x:TC)|dt (t:Ty) (x:t.D)|m (t:Ty) (cs:List TC)|fn (f:FuncId) (first caps:List TC)
inductive TV where|a (x:TA)|tup (vs:List TA)
inductive TB where|dead|box (t:Ty) (x:t.D)|mbox (t:Ty) (cs:List TC)|arr (w:Bool) (t:Ty) (rows:List t.D)
structure TSt where
 env:List (Nat×TV)
 sto:List TB
def hdP:List PV->PV|[c]=>c|_=>.np
def lnB:TB->Nat| .arr _ _ rows=>rows.length|_=>0
def lnO:Option TB->Nat|some x=>lnB x|none=>0
def lns(sto:List TB)(b:Nat):Nat:=lnO sto[b]?
section
variable (L:Nat->Nat)
def aY:TC->AV| .d t x=>.p (hdP (cel t x))| .sc t rows=>.p (.slc t.sz (rows.map (cel t)))| .np=>.p .np| .nf=>.p .nf| .un=>.unk| .ptr b p=>.ptr b (spo p)| .cp t x p=>.cp (cel t x) (spo p)| .slr b=>.slr b 0 (L b)| .slo b n=>.slr b 0 n| .ep b i p=>.ep b (L b) i (spo p)| .epo b e i p=>.ep b e i (spo p)| .fn f=>.fn f [] []
def bY:TA->AV| .c x=>aY L x| .dt t x=>.data (cel t x)| .m _ cs=>.agg (cs.map (aY L))| .fn f a c=>.fn f (a.map (aY L)) (c.map (aY L))
def aT:TV->AV| .a x=>bY L x| .tup vs=>.tup (vs.map (bY L))
def bB:TB->Blk| .dead=>.dead| .box t x=>.box ((cel t x).map .p)| .mbox _ cs=>.box (cs.map (aY L))| .arr w t rows=>.arr w t.sz (rows.map (cel t))
end
def gG(L:Nat->Nat)(env:List (Nat×TV)):List (Nat×AV):=env.map λx=>(x.1,aT L x.2)
def JB(s:TSt):St:=⟨gG (lns s.sto) s.env,s.sto.map (bB (lns s.sto))⟩
section
variable (L:Nat->Nat)
theorem EU(t x):bB L (.box t x)=.box ((cel t x).map .p):=rfl
theorem LN(t cs):bB L (.mbox t cs)=.box (cs.map (aY L)):=rfl
theorem XR(w t rows):bB L (.arr w t rows)=.arr w t.sz (rows.map (cel t)):=rfl
theorem kX(b p):aT L (.a (.c (.ptr b p)))=.ptr b (spo p):=rfl
theorem mQ(t x p):aT L (.a (.c (.cp t x p)))=.cp (cel t x) (spo p):=rfl
theorem iA(b):aT L (.a (.c (.slr b)))=.slr b 0 (L b):=rfl
theorem mN(b i p):aT L (.a (.c (.ep b i p)))=.ep b (L b) i (spo p):=rfl
theorem e_i(k x):aT L (.a (.c (.d (.i k) x)))=.p (.i k x):=rfl
theorem e_b(x):aT L (.a (.c (.d .b x)))=.p (.b x):=rfl
theorem e_s(x):aT L (.a (.c (.d .s x)))=.p (.s x):=rfl
theorem e_l(t x):aT L (.a (.c (.d (.l t) x)))=.p (.sl t.sz (x.map (cel t))):=rfl
theorem Ck(f):aT L (.a (.c (.fn f)))=.fn f [] []:=rfl
theorem lj(t x):aT L (.a (.dt t x))=.data (cel t x):=rfl
theorem lf(f a c):aT L (.a (.fn f a c))=.fn f (a.map (aY L)) (c.map (aY L)):=rfl
theorem e_m(t cs):aT L (.a (.m t cs))=.agg (cs.map (aY L)):=rfl
end
theorem IL{t:Ty}(h:t.sz=1)(x:t.D):cel t x=[hdP (cel t x)]:=by
 have:=eP t x;rw[h]at this
 match hc:cel t x,this with
 |[c],_=>rfl
def kC(b n:Nat):TC->TC| .slr c=>if c=b then .slo b n else .slr c| .ep c i p=>if c=b then .epo b n i p else .ep c i p|x=>x
def kA(b n:Nat):TA->TA| .c x=>.c (kC b n x)| .dt t x=>.dt t x| .m t cs=>.m t (cs.map (kC b n))| .fn f a c=>.fn f (a.map (kC b n)) (c.map (kC b n))
def kV(b n:Nat):TV->TV| .a x=>.a (kA b n x)| .tup vs=>.tup (vs.map (kA b n))
def kB(b n:Nat):TB->TB| .mbox t cs=>.mbox t (cs.map (kC b n))|x=>x
def wS(b:Nat)(x:TB)(s:TSt):TSt:=⟨s.env,s.sto.set b x⟩
def wN(b:Nat)(x:TB)(s:TSt):TSt:=⟨s.env.map λy=>(y.1,kV b (lns s.sto b) y.2),(s.sto.map (kB b (lns s.sto b))).set b x⟩
def bD(d:Option Nat)(v:TV)(s:TSt):TSt:=
 match d with
 |some d=>⟨(d,v)::s.env,s.sto⟩
 |none=>s
section
variable {L L':Nat->Nat} {b:Nat}
theorem k_C(h: ∀c,c≠b->L' c=L c)(x:TC):aY L' (kC b (L b) x)=aY L x:=by cases x<;>grind [kC,aY]
theorem B1(h: ∀c,c≠b->L' c=L c)(xs:List TC):(xs.map (kC b (L b))).map (aY L')=xs.map (aY L):=by simp_all [k_C]
theorem k_A(h: ∀c,c≠b->L' c=L c)(x:TA):bY L' (kA b (L b) x)=bY L x:=by cases x<;>simp only[kA,bY,k_C h,B1 h]
theorem k_V(h: ∀c,c≠b->L' c=L c)(x:TV):aT L' (kV b (L b) x)=aT L x:=by cases x<;>simp only[kV,aT,k_A h,zH,Function.comp_def]
theorem k_B(h: ∀c,c≠b->L' c=L c)(x:TB):bB L' (kB b (L b) x)=bB L x:=by cases x<;>simp only[kB,bB,B1 h]
theorem JKx(b n:Nat)(x:TB):lnB (kB b n x)=lnB x:=by cases x<;>rfl
theorem JJj(sto:List TB)(b n c:Nat):lns (sto.map (kB b n)) c=lns sto c:=by
 unfold lns;rw[gA];cases sto[c]? with
 |none=>rfl
 |some x=>exact JKx b n x
theorem Em(sto:List TB)(b:Nat)(x:TB)(c:Nat)(h:c≠b):lns (sto.set b x) c=lns sto c:=by
 grind [lns]
theorem XQ{sto:List TB}{b:Nat}(h:b<sto.length)(x:TB):lns (sto.set b x) b=lnB x:=by unfold lns;rw[DK h];rfl
theorem C0(b:Nat)(x:TB)(s:TSt):JB (wN b x s)=⟨(JB s).env,(JB s).sto.set b (bB (lns (wN b x s).sto) x)⟩:=by
 have h: ∀c,c≠b->lns (wN b x s).sto c=lns s.sto c:=λc e=>by
  grind [wN,Em,JJj]
 unfold JB
 congr 1
 show gG _ (s.env.map λy=>(y.1,kV b (lns s.sto b) y.2))=gG _ s.env;simp_all [gG,k_V];show((s.sto.map (kB b (lns s.sto b))).set b x).map _=_;grind [List.map_set,List.map_congr_left,k_B]
theorem FA{b:Nat}{x:TB}{s:TSt}(h:lnB x=lns s.sto b):lns (wS b x s).sto=lns s.sto:=by
 grind [wS,XQ,List.set_eq_of_length_le,Em]
theorem zN{b:Nat}{x:TB}{s:TSt}(h:lnB x=lns s.sto b):JB (wS b x s)=⟨(JB s).env,(JB s).sto.set b (bB (lns s.sto) x)⟩:=by
 grind [JB,FA,wS,List.map_set]
theorem rS{s s1:TSt}{ws:List (Nat×Blk)}(h:JB s1=⟨(JB s).env,upd ws (JB s).sto⟩)(d:Option Nat)(v:TV):put d ⟨aT (lns s1.sto) v,ws⟩ (JB s)=JB (bD d v s1):=by cases d<;>simp_all [bD,JB,gG]
end
theorem LV{s:TSt}(d:Option Nat)(v:TV):put d ⟨aT (lns s.sto) v,[]⟩ (JB s)=JB (bD d v s):=rS rfl d v
def tlk(n:Nat):List (Nat×TV)->Option TV|[]=>none|(m,v)::r=>if n=m then some v else tlk n r
theorem zV(L:Nat->Nat)(n:Nat): ∀env:List (Nat×TV),lk n (gG L env)=(tlk n env).map (aT L)
 |[]=>rfl
 |(m,v)::r=>by
  simp only[gG,bP,lk,tlk];split;rfl;exact zV L n r
theorem fB(s:TSt)(b:Nat):(JB s).sto[b]?=(s.sto[b]?).map (bB (lns s.sto)):=by simp[JB]
theorem oP{sto:List TB}{b:Nat}{w:Bool}{t:Ty}{rows:List t.D}(h:sto[b]?=some (.arr w t rows)):lns sto b=rows.length:=by unfold lns;rw[h];rfl
inductive TO where|t (n:Nat)|c (x:TV)
def erO:TO->Opd| .t n=>.t n| .c x=>.c (aT (λ_=>0) x)
def Cp:TC->Bool| .d _ _| .sc _ _| .np| .nf| .un| .fn _=>true|_=>false
def NZ:TA->Bool| .c x=>Cp x| .dt _ _=>true| .m _ _=>false| .fn _ a c=>a.isEmpty&&c.isEmpty
def EL:TV->Bool| .a x=>NZ x| .tup vs=>vs.isEmpty
theorem JFV{L L':Nat->Nat}{v:TV}(h:EL v=true):aT L v=aT L' v:=by
 cases v with
 |a x=>
  cases x with
  |c x=>cases x<;>first|rfl|grind [EL,NZ,Cp]
  |dt t x=>rfl
  |m t cs=>grind [EL,NZ]
  |fn f a c=>simp[EL,NZ]at h;obtain⟨rfl,rfl⟩:=h;rfl
 |tup vs=>simp[EL]at h;subst h;rfl
def tev:TO->TSt->Option TV| .t n,s=>tlk n s.env| .c x,_=>if EL x=true then some x else none
theorem cA{x:TO}{s:TSt}{v:TV}(h:tev x s=some v):(ev (erO x)).run (JB s)=some (aT (lns s.sto) v):=by
 cases x with
 |t n=>simp only[erO,ev,xG];show(lk n (gG (lns s.sto) s.env)).bind _=_;rw[zV,show tlk n s.env=some v from h];rfl
 |c x=>
  grind [tev,erO,ev,bI,JFV]
end Go.Am
end
section
namespace Go.Am
@[reducible] def vi(k:IntKind)(n:Int):TV:=.a (.c (.d (.i k) n))
@[reducible] def vb(x:Bool):TV:=.a (.c (.d .b x))
@[reducible] def vs(l:List UInt8):TV:=.a (.c (.d .s l))
@[reducible] def vl(t:Ty)(l:List t.D):TV:=.a (.c (.d (.l t) l))
def uv:TV:=.tup []
def mkv(agg:Bool)(t:Ty)(x:t.D):TV:=if agg=true then .a (.dt t x)else .a (.c (.d t x))
def Ok{R:Type}(m:RM Eff)(d:Option Nat)(s:TSt)(k:TSt->Option R)(r:R):Prop:= ∃e s',m.run (JB s)=some e/\put d e (JB s)=JB s'/\k s'=some r
def asm:(t:Ty)->List TC->Option t.D
 | .pr a c,l=>match asm a (l.take a.sz),asm c (l.drop a.sz)with|some x,some y=>some (x,y)|_,_=>none
 | .ar _ _,_=>none
 | .u,l=>if l.isEmpty=true then some ()else none
 |t,l=>match l with|[.d t' x]=>if h:t'=t then some (h▸x)else none|_=>none
def yW:(t:Ty)->t.D->Option (List TC)
 | .pr a c,x=>match yW a x.1,yW c x.2 with|some l,some q=>some (l++q)|_,_=>none
 | .ar _ _,_=>none
 | .u,_=>some []
 |t,x=>some [.d t x]
theorem LG(L:Nat->Nat): ∀{t:Ty} {l:List TC} {x:t.D},asm t l=some x->l.map (aY L)=(cel t x).map .p
 | .pr a c,l,x,h=>by
  simp only[asm]at h;split at h;rename_i y z e g;injection h with h;subst h;have h1:=LG L e;have h2:=LG L g;grind [cel,List.take_append_drop];cases h
 | .ar _ _,_,_,h=>by cases h
 | .u,l,x,h=>by
  simp only[asm]at h;split at h;rename_i h0;rw[List.isEmpty_iff.1 h0];rfl;cases h
 | .b,l,x,h=>by
  simp only[asm]at h;split at h;split at h;rename_i h0;subst h0;injection h with h;subst h;rfl;cases h;cases h
 | .i _,l,x,h=>by
  simp only[asm]at h;split at h;split at h;rename_i h0;subst h0;injection h with h;subst h;rfl;cases h;cases h
 | .s,l,x,h=>by
  simp only[asm]at h;split at h;split at h;rename_i h0;subst h0;injection h with h;subst h;rfl;cases h;cases h
 | .l _,l,x,h=>by
  simp only[asm]at h;split at h;split at h;rename_i h0;subst h0;injection h with h;subst h;rfl;cases h;cases h
 | .f,l,x,h=>by
  simp only[asm]at h;split at h;split at h;rename_i h0;subst h0;injection h with h;subst h;rfl;cases h;cases h
theorem LL(L:Nat->Nat): ∀{t:Ty} {x:t.D} {l:List TC},yW t x=some l->l.map (aY L)=(cel t x).map .p
 | .pr a c,x,l,h=>by
  simp only[yW]at h;split at h;rename_i y z e g;injection h with h;subst h;have h1:=LL L e;have h2:=LL L g;grind [cel];cases h
 | .ar _ _,_,_,h=>by cases h
 | .u,x,l,h=>by injection h with h;subst h;rfl
 | .b,x,l,h=>by injection h with h;subst h;rfl
 | .i _,x,l,h=>by injection h with h;subst h;rfl
 | .s,x,l,h=>by injection h with h;subst h;rfl
 | .l _,x,l,h=>by injection h with h;subst h;rfl
 | .f,x,l,h=>by injection h with h;subst h;rfl
def zcs:Ty->List TC| .pr a c=>zcs a++zcs c| .ar n t=>(List.replicate n (zcs t)).flatten| .u=>[]|t=>[.d t t.zero]
theorem EY(L:Nat->Nat): ∀t:Ty,(zcs t).map (aY L)=(cel t t.zero).map .p| .pr a c=>by simp only[zcs,yI,EY L a,EY L c,Ty.zero,cel]| .ar n t=>by have ih:=EY L t;simp_all [cel,pK,Ty.zero,zcs]| .u=>rfl| .b=>rfl| .i _=>rfl| .s=>rfl| .l _=>rfl| .f=>rfl
def mkb(t:Ty)(cs:List TC):TB:=match asm t cs with|some x=>.box t x|none=>.mbox t cs
theorem QM(L:Nat->Nat)(t:Ty)(cs:List TC):bB L (mkb t cs)=.box (cs.map (aY L)):=by
 unfold mkb;split;grind [EU,LG];rfl
theorem QD(t:Ty)(cs:List TC):lnB (mkb t cs)=0:=by unfold mkb;split<;>rfl
def UP:TC->Bool| .ptr _ _| .cp _ _ _| .slr _| .slo _ _| .ep _ _ _| .epo _ _ _ _| .un| .fn _=>true|_=>false
theorem YY(L:Nat->Nat): ∀{cs:List TC},cs.any UP=true->unp (cs.map (aY L))=none
 |[],h=>by simp at h
 |x::r,h=>by
  simp only[List.any_cons,DY]at h;rcases h with h|h;cases x<;>simp[UP]at h<;>rfl
  have:=YY L h;cases x<;>simp[aY,unp,this]
def mka(agg:Bool)(t:Ty)(cs:List TC):Option TV:=
 if agg=true then
  match asm t cs with
  |some x=>some (.a (.dt t x))
  |none=>if cs.any UP=true then some (.a (.m t cs))else none
 else match cs with|[c]=>some (.a (.c c))|_=>none
theorem EX(L:Nat->Nat){agg:Bool}{t:Ty}{cs:List TC}{v:TV}(h:mka agg t cs=some v):lC agg (cs.map (aY L))=some (aT L v):=by
 unfold mka at h;split at h;rename_i e;subst e;split at h;rename_i x j;injection h with h;subst h;rw[LG L j,vz];rfl;split at h;rename_i g;injection h with h;subst h;simp only[lC,YY L g,if_true];rfl;cases h;rename_i e;split at h;injection h with h;subst h;have:agg=false:=by simpa using e
 subst this;rfl;cases h
def tcs:TV->Option (List TC)| .a (.c .un)=>none| .a (.c x)=>some [x]| .a (.dt t x)=>yW t x| .a (.m _ cs)=>some cs| .a (.fn f [] [])=>some [.fn f]|_=>none
theorem KZ(L:Nat->Nat){v:TV}{cs:List TC}(h:tcs v=some cs):cellsOf (aT L v)=some (cs.map (aY L)):=by
 cases v with
 |a x=>
  cases x with
  |c x=>cases x<;>cases h<;>rfl
  |dt t x=>simp only[aT,bY,cellsOf];rw[LL L h]
  |m t cs=>injection h with h;subst h;rfl
  |fn f a c=>
   cases a with
   |nil=>cases c with
    |nil=>injection h with h;subst h;rfl
    |cons y c=>cases h
   |cons y a=>cases h
 |tup vs=>cases h
def tdv(t:Ty):TV->Option t.D| .a (.c (.d t' x))=>if h:t'=t then some (h▸x)else none| .a (.dt t' x)=>if h:t'=t then some (h▸x)else none|_=>none
def agv:TV->Bool| .a (.dt _ _)=>true|_=>false
theorem JKz(L:Nat->Nat){t:Ty}{v:TV}{x:t.D}(h:tdv t v=some x):aT L v=if agv v=true then .data (cel t x)else .p (hdP (cel t x)):=by
 unfold tdv at h;split at h;split at h;rename_i h0;subst h0;injection h with h;subst h;rfl;cases h;split at h;rename_i h0;subst h0;injection h with h;subst h;rfl;cases h;cases h
def tJ:List Sp->Option Nat
 |[]=>some 0
 | .f o::r=>match tJ r with|some n=>some (o+n)|none=>none
 | .a _ _::_=>none
theorem ES: ∀{p:List Sp} {n:Nat},tJ p=some n->spo p=n
 |[],n,h=>by injection h with h
 | .f o::r,n,h=>by
  simp only[tJ]at h;split at h;rename_i m e;injection h with h;simp only[spo,ES e,h];cases h
 | .a _ _::_,_,h=>by cases h
section
variable {R:Type}
def m5(agg:Bool)(t:Ty)(v:TV)(d:Option Nat)(s:TSt)(k:TSt->Option R):Option R:=
 if agg=true\/t.sz=1 then
  match v with
  | .a (.c (.cp e x p))=>prt e x (spf 0 p).1 (spf 0 p).2 t λy=>k (bD d (mkv agg t y) s)
  | .a (.c (.ptr b p))=>match s.sto[b]? with
   |some (.box e x)=>prt e x (spf 0 p).1 (spf 0 p).2 t λy=>k (bD d (mkv agg t y) s)
   |some (.mbox _ cs)=>match tJ p with
    |some off=>match sub cs off t.sz with
     |some l=>match mka agg t l with|some v=>k (bD d v s)|none=>none
     |none=>none
    |none=>none
   |_=>none
  | .a (.c (.ep b i p))=>match s.sto[b]? with|some (.arr _ e rows)=>(bQ rows i).bind λrow=>prt e row (spf 0 p).1 (spf 0 p).2 t λy=>k (bD d (mkv agg t y) s)|_=>none
  |_=>none
 else none
theorem ER(L:Nat->Nat){agg:Bool}{t:Ty}(h:agg=true\/t.sz=1)(y:t.D):oQ agg (cel t y)=some (aT L (mkv agg t y)):=by
 unfold mkv;split;rename_i e;subst e;rfl;rename_i e;have:agg=false:=by simpa using e
 subst this;have:=h.resolve_left (by simp);rw[IL this];rfl
theorem HS(p:List Sp):(spf 0 p).1+spo (spf 0 p).2=spo p:=by simp[NW]
theorem JGB{agg:Bool}{t:Ty}{v:TV}{d:Option Nat}{s:TSt}{k:TSt->Option R}{r:R}(h:m5 agg t v d s k=some r):Ok (gX agg t.sz (aT (lns s.sto) v)) d s k r:=by
 unfold m5 at h;split at h;rename_i j;split at h;rename_i n x p;obtain⟨y,h1,h2⟩:=xA h;rw[HS]at h1;refine⟨_,_,?_,LV d (mkv agg t y),h2⟩;simp only[kX,mQ,mN,iA,gX,h1,ER (lns s.sto) j,val];rfl;rename_i b p;split at h;rename_i n x e;obtain⟨y,h1,h2⟩:=xA h;rw[HS]at h1;refine⟨_,_,?_,LV d (mkv agg t y),h2⟩;have A:lC agg ((cel t y).map .p)=oQ agg (cel t y):=by
  unfold lC oQ;split;rw[MA];cases hcel:cel t y with
  |nil=>rfl
  |cons a l=>cases l<;>rfl
 simp only[kX,mQ,mN,iA,gX,eU,fB,e,dU,JI,bB,FR,h1,A,ER (lns s.sto) j,val];rfl;rename_i cs e;split at h;rename_i off o;split at h;rename_i l q;split at h;rename_i v z;refine⟨_,_,?_,LV d v,h⟩;simp only[kX,mQ,mN,iA,gX,eU,fB,e,dU,JI,bB,FR,ES o,q,EX (lns s.sto) z,val];rfl;cases h;cases h;cases h;cases h;rename_i b i p;split at h;rename_i w n rows e;obtain⟨row,g,h⟩:=cR.1 h;have g:rows[i]?=some row:=g;obtain⟨y,h1,h2⟩:=xA h;rw[HS]at h1;refine⟨_,_,?_,LV d (mkv agg t y),h2⟩;simp only[kX,mQ,mN,iA,gX,eU,fB,e,dU,JI,bB,oP e,fE,if_true,gA,g,h1,ER (lns s.sto) j,val];rfl;cases h;cases h;cases h
end
end Go.Am
end
section
namespace Go.Am
section
variable {R:Type}
def fzC:(t:Ty)->List TC->TSt->(t.D->TSt->Option R)->Option R
 | .pr a c,l,s,k=>fzC a (l.take a.sz) s λx s=>fzC c (l.drop a.sz) s λy s=>k (x,y) s
 | .ar _ _,_,_,_=>none
 | .u,l,s,k=>if l.isEmpty=true then k () s else none
 | .l e,l,s,k=>match l with
  |[.d t' x]=>if h:t'=.l e then k (h▸x) s else none
  |[.slr b]=>match s.sto[b]? with|some (.arr _ e' rows)=>if h:e'=e then k (h▸rows) (wS b (.arr false e' rows) s)else none|_=>none
  |_=>none
 |t,l,s,k=>match l with|[.d t' x]=>if h:t'=t then k (h▸x) s else none|_=>none
def tfz(t:Ty)(v:TV)(s:TSt)(k:t.D->TSt->Option R):Option R:=
 match v with
 | .a (.dt t' x)=>if h:t'=t then k (h▸x) s else none
 | .a (.c x)=>fzC t [x] s k
 | .a (.m _ cs)=>fzC t cs s k
 |_=>none
def Fzd(s s':TSt)(ws:List (Nat×Blk)):Prop:=s'.env=s.env/\lns s'.sto=lns s.sto/\JB s'=⟨(JB s).env,upd ws (JB s).sto⟩/\(∀(b:Nat) (t:Ty) (rows:List t.D) (w:Bool),s'.sto[b]?=some (TB.arr w t rows)-> ∃w',s.sto[b]?=some (TB.arr w' t rows))/\(∀(b:Nat) (t:Ty) (rows:List t.D),s.sto[b]?=some (TB.arr false t rows)->s'.sto[b]?=some (TB.arr false t rows))/\ ∀x∈ws,∃(t:Ty) (rows:List t.D),s'.sto[x.1]?=some (TB.arr false t rows)
theorem Fzd.refl(s:TSt):Fzd s s []:=⟨rfl,rfl,rfl,λb t rows w h=>⟨w,h⟩,λb t rows h=>h,λx h=>by cases h⟩
theorem Fzd.trans{s1 e g:TSt}{a c:List (Nat×Blk)}(h:Fzd s1 e a)(j:Fzd e g c):Fzd s1 g (a++c):=by
 obtain⟨h1,h2,h3,z,o,y⟩:=h;obtain⟨n,q,A,v,k,r⟩:=j;refine⟨n.trans h1,q.trans h2,?_,λb t rows w h=>?_,λb t rows h=>k b t rows (o b t rows h),λx B=>?_⟩
 all_goals grind [fH]
theorem ZE{s:TSt}{b:Nat}{w:Bool}{t:Ty}{rows:List t.D}(hb:s.sto[b]?=some (.arr w t rows)):Fzd s (wS b (.arr false t rows) s) [(b,.arr false t.sz (rows.map (cel t)))]:=by
 have e:lnB (.arr false t rows)=lns s.sto b:=by rw[oP hb];rfl
 have k:(wS b (.arr false t rows) s).sto[b]?=some (.arr false t rows):=by grind [wS]
 have j: ∀c,c≠b->(wS b (.arr false t rows) s).sto[c]?=s.sto[c]?:=λc n=>by grind [wS]
 refine⟨rfl,FA e,zN e,λc t' g w' h=>?_,λc t' g h=>?_,λx o=>?_⟩
 all_goals grind
theorem JHY(x y:List AV)(st:St):(fz.fzL (x++y)).run st=((fz.fzL x).run st).bind λa=>((fz.fzL y).run st).map λc=>(a.1++c.1,a.2++c.2):=by
 induction x with
 |nil=>simp_all
 |cons v x ih=>
  simp only[tK,fz.fzL,run_bind,ih];cases(fz.fz1 v).run st with
  |none=>rfl
  |some a=>
   simp only[JI];cases(fz.fzL x).run st with
   |none=>rfl
   |some c=>simp only[JI];cases(fz.fzL y).run st<;>simp_all
theorem KW{L:Nat->Nat}{t t':Ty}{x:t'.D}(h:t'=t)(h1:t.sz=1)(st:St):(fz.fzL ([TC.d t' x].map (aY L))).run st=some (cel t (h▸x),[]):=by
 grind [IL,aY,fz.fzL,fz.fz1,run_bind,bI]
theorem LC: ∀{t:Ty} {l:List TC} {s0 s:TSt} {w0:List (Nat×Blk)} {k:t.D->TSt->Option R} {r:R},Fzd s0 s w0->fzC t l s k=some r->
  ∃y s' ws,(fz.fzL (l.map (aY (lns s0.sto)))).run (JB s0)=some (cel t y,ws)/\Fzd s0 s' (w0++ws)/\k y s'=some r
 | .pr a c,l,s0,s,w0,k,r,g,h=>by simp only[fzC]at h;obtain⟨x,s1,v,A,o,h⟩:=LC g h;obtain⟨y,q,B,z,C,h⟩:=LC o h;refine⟨(x,y),q,v++B,?_,by simp_all,h⟩;have:=JHY ((l.take a.sz).map (aY (lns s0.sto))) ((l.drop a.sz).map (aY (lns s0.sto))) (JB s0);rw[<-yI,tM,A,z]at this;exact this
 | .ar _ _,_,_,_,_,_,_,_,h=>by cases h
 | .u,l,s0,s,w0,k,r,g,h=>by
  simp only[fzC]at h;split at h;rename_i h0;refine⟨(),s,[],?_,by simp_all,h⟩;rw[List.isEmpty_iff.1 h0];rfl;cases h
 | .l e,l,s0,s,w0,k,r,g,h=>by
  simp only[fzC]at h;split at h;split at h;rename_i h0;exact⟨_,s,[],KW h0 rfl _,by simp_all,h⟩;cases h;rename_i b;split at h;rename_i w e' rows n;split at h;rename_i h0;subst h0;obtain⟨w',j⟩:=g.2.2.2.1 b _ rows w n;refine⟨rows,_,[(b,.arr false e'.sz (rows.map (cel e')))],?_,g.trans (ZE n),h⟩;simp only[bP,List.map_nil,aY,fz.fzL,fz.fz1,run_bind,eU,fB,j,dU,JI,bB,oP j,fE,lO,if_true,HZ,bI];rfl;cases h;cases h;cases h
 | .b,l,s0,s,w0,k,r,g,h=>by
  simp only[fzC]at h;split at h;split at h;rename_i h0;exact⟨_,s,[],KW h0 rfl _,by simp_all,h⟩;cases h;cases h
 | .i _,l,s0,s,w0,k,r,g,h=>by
  simp only[fzC]at h;split at h;split at h;rename_i h0;exact⟨_,s,[],KW h0 rfl _,by simp_all,h⟩;cases h;cases h
 | .s,l,s0,s,w0,k,r,g,h=>by
  simp only[fzC]at h;split at h;split at h;rename_i h0;exact⟨_,s,[],KW h0 rfl _,by simp_all,h⟩;cases h;cases h
 | .f,l,s0,s,w0,k,r,g,h=>by
  simp only[fzC]at h;split at h;split at h;rename_i h0;exact⟨_,s,[],KW h0 rfl _,by simp_all,h⟩;cases h;cases h
theorem Zp(x:AV)(hx:(∀cs,x≠.data cs)/\ ∀cs,x≠.agg cs)(st:St){y:List PV}{ws:List (Nat×Blk)}(h:(fz.fzL [x]).run st=some (y,ws)):(fz x).run st=some (y,ws):=by simp only[fz.fzL,run_bind,bI]at h;cases x<;>simp_all [cR]
theorem Dw{t:Ty}{v:TV}{s0 s:TSt}{w0:List (Nat×Blk)}{k:t.D->TSt->Option R}{r:R}(e:Fzd s0 s w0)(h:tfz t v s k=some r):
  ∃y s' ws,(fz (aT (lns s0.sto) v)).run (JB s0)=some (cel t y,ws)/\Fzd s0 s' (w0++ws)/\k y s'=some r:=by
 unfold tfz at h;split at h;split at h;rename_i h0;subst h0;exact⟨_,s,[],rfl,by simp_all,h⟩;cases h;rename_i x;obtain⟨y,s',ws,h1,h2,h3⟩:=LC e h;refine⟨y,s',ws,Zp _ ⟨λcs=>?_,λcs=>?_⟩ _ h1,h2,h3⟩<;>cases x<;>simp[aY,aT,bY]
 obtain⟨y,s',ws,h1,h2,h3⟩:=LC e h;exact⟨y,s',ws,h1,h2,h3⟩;cases h
end
end Go.Am
end
section
namespace Go.Am
section
variable {R:Type}
theorem gv(L:Nat->Nat){t:Ty}{v:TV}{x:t.D}(h:tdv t v=some x)(ha:agv v=true\/t.sz=1):cellsOf (aT L v)=some ((cel t x).map .p):=by
 rw[JKz L h];split;rfl;rename_i e;rw[IL (ha.resolve_left e)];rfl
def XX(t:Ty)(x u:TV)(d:Option Nat)(s:TSt)(k:TSt->Option R):Option R:=
 match x with
 | .a (.c (.ptr b p))=>match s.sto[b]? with
  |some (.box e y)=>match tdv t u with
   |some z=>if agv u=true\/t.sz=1 then pst e y (spf 0 p).1 (spf 0 p).2 t z λh=>k (bD d uv (wS b (.box e h) s))else none
   |none=>match tJ p,yW e y,tcs u with
    |some off,some cs,some l=>if l.length=t.sz then
     match spl cs off l with
     |some cs'=>k (bD d uv (wS b (mkb e cs') s))
     |none=>none
     else none
    |some off,none,some l=>if off=0/\l.length=e.sz/\l.length=t.sz then k (bD d uv (wS b (mkb e l) s))else none
    |_,_,_=>none
  |some (.mbox e cs)=>match tJ p,tcs u with
   |some off,some l=>if l.length=t.sz then
    match spl cs off l with
    |some cs'=>k (bD d uv (wS b (mkb e cs') s))
    |none=>none
    else none
   |_,_=>none
  |_=>none
 | .a (.c (.ep b i p))=>tfz t u s λz s1=>match s1.sto[b]? with|some (.arr true e rows)=>(bQ rows i).bind λrow=>pst e row (spf 0 p).1 (spf 0 p).2 t z λg=>k (bD d uv (wS b (.arr true e (aZ rows i g)) s1))|_=>none
 |_=>none
theorem JKB(L:Nat->Nat):aT L uv=gY:=rfl
theorem PU{s:TSt}{b:Nat}{t:Ty}{x:t.D}(h:s.sto[b]?=some (.box t x)):lns s.sto b=0:=by unfold lns;rw[h];rfl
theorem sa{s:TSt}{b:Nat}{t:Ty}{cs:List TC}(h:s.sto[b]?=some (.mbox t cs)):lns s.sto b=0:=by unfold lns;rw[h];rfl
theorem AJ{s:TSt}{b:Nat}(h:s.sto[b]?=some .dead):lns s.sto b=0:=by unfold lns;rw[h];rfl
theorem IV{m:RM Eff}{d:Option Nat}{s:TSt}{k:TSt->Option R}{r:R}{b:Nat}{x:TB}{v:TV}(hl:lnB x=lns s.sto b)(hm:m.run (JB s)=some ⟨aT (lns s.sto) v,[(b,bB (lns s.sto) x)]⟩)
  (h:k (bD d v (wS b x s))=some r):Ok m d s k r:=by
 refine⟨_,_,hm,?_,h⟩;have e:=FA hl;rw[<-e];refine rS ?_ d v;simp_all [zN]
theorem mp{m:RM Eff}{d:Option Nat}{s:TSt}{k:TSt->Option R}{r:R}{b:Nat}{x:TB}{v:TV}(hm:m.run (JB s)=some ⟨aT (lns (wN b x s).sto) v,[(b,bB (lns (wN b x s).sto) x)]⟩)
  (h:k (bD d v (wN b x s))=some r):Ok m d s k r:=
 ⟨_,_,hm,rS (C0 b x s) d v,h⟩
theorem fV{m:RM Eff}{d:Option Nat}{s:TSt}{k:TSt->Option R}{r:R}{v:TV}(hm:m.run (JB s)=some ⟨aT (lns s.sto) v,[]⟩)(h:k (bD d v s)=some r):Ok m d s k r:=
 ⟨_,_,hm,LV d v,h⟩
theorem XP{m:RM Eff}{d:Option Nat}{s s':TSt}{ws:List (Nat×Blk)}{k:TSt->Option R}{r:R}{v:TV}(f:Fzd s s' ws)(hm:m.run (JB s)=some ⟨aT (lns s.sto) v,ws⟩)(h:k (bD d v s')=some r):Ok m d s k r:=by refine⟨_,_,hm,?_,h⟩;rw[<-f.2.1];exact rS f.2.2.1 d v
theorem JD8{t:Ty}{x u:TV}{d:Option Nat}{s:TSt}{k:TSt->Option R}{r:R}(h:XX t x u d s k=some r):Ok (iS t.sz (aT (lns s.sto) x) (aT (lns s.sto) u)) d s k r:=by
 unfold XX at h;split at h;rename_i b p;split at h;rename_i g y e;split at h;rename_i z F;split at h;rename_i I;obtain⟨E,h1,h2⟩:=zX h;rw[HS]at h1;refine IV (x:=.box g E) (v:=uv) (PU e).symm ?_ h2;simp only[kX,mQ,mN,iA,iS,eU,fB,e,dU,JI,bB,gv (lns s.sto) F I,fE,eP,if_true,FQ,h1,bI];rfl;cases h;split at h;rename_i off cs l q K n;split at h;rename_i C;split at h;rename_i cs' B;refine IV (x:=mkb g cs') (v:=uv) ((QD _ _).trans (PU e).symm) ?_ h;rw[QM];simp only[kX,mQ,mN,iA,iS,eU,fB,e,dU,JI,bB,KZ (lns s.sto) n,fE,C,if_true,ES q,<-LL (lns s.sto) K,FQ,B,bI];rfl;cases h;cases h;rename_i off l q _ n;split at h;rename_i h0;obtain⟨rfl,h1,h2⟩:=h0;refine IV (x:=mkb g l) (v:=uv) ((QD _ _).trans (PU e).symm) ?_ h;rw[QM];have J:spl ((cel g y).map AV.p) 0 (l.map (aY (lns s.sto)))=some (l.map (aY (lns s.sto))):=qo (by grind [eP]);simp only[kX,mQ,mN,iA,iS,eU,fB,e,dU,JI,bB,KZ (lns s.sto) n,fE,h2,if_true,ES q,J,bI];rfl;cases h;cases h;rename_i g cs e;split at h;rename_i off l q n;split at h;rename_i C;split at h;rename_i cs' B;refine IV (x:=mkb g cs') (v:=uv) ((QD _ _).trans (sa e).symm) ?_ h;rw[QM];simp only[kX,mQ,mN,iA,iS,eU,fB,e,dU,JI,bB,KZ (lns s.sto) n,fE,C,if_true,ES q,FQ,B,bI];rfl;cases h;cases h;cases h;cases h;rename_i b i p;obtain⟨z,s1,ws,h1,f,h⟩:=Dw (Fzd.refl s) h;rw[lP]at f;split at h;rename_i g rows e;obtain⟨row,A,h⟩:=cR.1 h;have A:rows[i]?=some row:=A;obtain⟨j,D,L⟩:=zX h;rw[HS]at D;obtain⟨w',o⟩:=f.2.2.2.1 b _ rows true e;have G:w'=true:=by
  cases w' with
  |true=>rfl
  |false=>have:=f.2.2.2.2.1 b _ rows o;simp_all
 subst G;have w:(ws.all λy=>y.1 !=b)=true:=(by rw[TW];intro y H;obtain⟨t',rows',M⟩:=f.2.2.2.2.2 y H;grind);have n:lnB (.arr true g (aZ rows i j))=lns s1.sto b:=by grind [oP,lnB,aZ]
 refine⟨⟨gY,ws++[(b,.arr true g.sz ((aZ rows i j).map (cel g)))]⟩,_,?_,?_,L⟩;simp only[kX,mQ,mN,iA,iS,eU,fB,o,dU,JI,bB,oP o,fE,if_true,gA,A,run_bind,h1,eP,w,and_self,D,bI,List.map_set,aZ];rw[<-JKB (lns (wS b (.arr true g (aZ rows i j)) s1).sto)];refine rS ?_ d uv;rw[zN n,f.2.2.1,fH];rfl;cases h;cases h
def tpv:List (Nat×Ty×TO)->TSt->Option (List (Nat×(w:Ty)×w.D))
 |[],_=>some []
 |(off,w,o)::r,s=>match tev o s with
  |some v=>match tdv w v with
   |some z=>if agv v=true\/w.sz=1 then
    match tpv r s with
    |some l=>some ((off,⟨w,z⟩)::l)
    |none=>none
    else none
   |none=>none
  |none=>none
def OE(t:Ty):t.D->List (Nat×(w:Ty)×w.D)->(t.D->Option R)->Option R|x,[],k=>k x|x,(off,⟨w,z⟩)::r,k=>pst t x off [] w z λe=>OE t e r k
def tpc:List (Nat×Ty×TO)->TSt->Option (List (Nat×Nat×List TC))
 |[],_=>some []
 |(off,w,o)::r,s=>match tev o s with
  |some v=>match tcs v with
   |some l=>match tpc r s with|some q=>some ((off,w.sz,l)::q)|none=>none
   |none=>none
  |none=>none
def IS:List (Nat×Nat×List TC)->List TC->Option (List TC)
 |[],cs=>some cs
 |(off,n,c)::r,cs=>if c.length=n then
  match spl cs off c with
  |some cs'=>IS r cs'
  |none=>none
  else none
def erP(parts:List (Nat×Ty×TO)):List (Nat×Nat×Opd):=parts.map λx=>(x.1,x.2.1.sz,erO x.2.2)
theorem YH{s:TSt}: ∀{parts:List (Nat×Ty×TO)} {l:List (Nat×Nat×List TC)},tpc parts s=some l->
  (kY (erP parts)).run (JB s)=some (l.map λx=>(x.1,x.2.1,x.2.2.map (aY (lns s.sto))))
 |[],l,h=>by injection h with h;subst h;rfl
 |(off,w,o)::r,l,h=>by
  simp only[tpc]at h;split at h;rename_i v g;split at h;rename_i c j;split at h;rename_i q e;injection h with h;subst h;have ih:=YH e;simp only[erP,bP,kY,run_bind,cA g,JI,KZ (lns s.sto) j];simp_all [erP];cases h;cases h;cases h
theorem Di{s:TSt}: ∀{parts:List (Nat×Ty×TO)} {l:List (Nat×(w:Ty)×w.D)},tpv parts s=some l->
  (kY (erP parts)).run (JB s)=some (l.map λx=>(x.1,x.2.1.sz,(cel x.2.1 x.2.2).map .p))
 |[],l,h=>by injection h with h;subst h;rfl
 |(off,w,o)::r,l,h=>by
  simp only[tpv]at h;split at h;rename_i v g;split at h;rename_i z k;split at h;rename_i j;split at h;rename_i q e;injection h with h;subst h;have ih:=Di e;simp only[erP,bP,kY,run_bind,cA g,JI,gv (lns s.sto) k j];simp_all [erP];cases h;cases h;cases h;cases h
theorem sn{t:Ty}: ∀{l:List (Nat×(w:Ty)×w.D)} {x:t.D} {k:t.D->Option R} {r:R},OE t x l k=some r->
  ∃y,qC (l.map λx=>(x.1,x.2.1.sz,(cel x.2.1 x.2.2).map .p)) ((cel t x).map .p)=some ((cel t y).map .p)/\k y=some r
 |[],x,k,r,h=>⟨x,rfl,h⟩
 |(off,⟨w,z⟩)::q,x,k,r,h=>by
  simp only[OE]at h;obtain⟨e,h1,h2⟩:=zX h;obtain⟨y,h3,g⟩:=sn h2;grind [qC,eP,FQ,spo]
theorem fk(L:Nat->Nat): ∀{l:List (Nat×Nat×List TC)} {cs cs':List TC},IS l cs=some cs'->
  qC (l.map λx=>(x.1,x.2.1,x.2.2.map (aY L))) (cs.map (aY L))=some (cs'.map (aY L))
 |[],cs,cs',h=>by injection h with h;subst h;rfl
 |(off,n,c)::q,cs,cs',h=>by
  simp only[IS]at h;split at h;rename_i e;split at h;rename_i c1 g;simp only[bP,qC,fE,e,if_true,FQ,g,dU];exact fk L h;cases h;cases h
def XZ(t:Ty)(parts:List (Nat×Ty×TO))(d:Option Nat)(s:TSt)(k:TSt->Option R):Option R:=
 match tpv parts s with
 |some l=>OE t t.zero l λy=>k (bD d (.a (.dt t y)) s)
 |none=>match tpc parts s with
  |some l=>match IS l (zcs t)with
   |some cs'=>match mka true t cs' with|some v=>k (bD d v s)|none=>none
   |none=>none
  |none=>none
theorem JDM(F:Orc)(new:Nat){t:Ty}{parts:List (Nat×Ty×TO)}{d:Option Nat}{s:TSt}{k:TSt->Option R}{r:R}(h:XZ t parts d s k=some r):Ok (opR F (.build (cel t t.zero) (erP parts)) new) d s k r:=by
 unfold XZ at h;split at h;rename_i l e;obtain⟨y,h1,h2⟩:=sn h;refine fV (v:=.a (.dt t y)) ?_ h2;simp only[opR,run_bind,Di e,JI,h1,vz,val,bI];rfl;split at h;rename_i l e;split at h;rename_i cs' g;split at h;rename_i v j;refine fV (v:=v) ?_ h;simp only[opR,run_bind,YH e,JI,<-EY (lns s.sto) t,fk (lns s.sto) g,EX (lns s.sto) j,val,bI];cases h;cases h;cases h
def YA(agg:Bool)(off:Nat)(t:Ty)(v:TV)(d:Option Nat)(s:TSt)(k:TSt->Option R):Option R:=
 if agg=true\/t.sz=1 then
  match v with
  | .a (.dt e x)=>prt e x off [] t λy=>k (bD d (mkv agg t y) s)
  | .a (.m _ cs)=>match sub cs off t.sz with
   |some l=>match mka agg t l with|some v=>k (bD d v s)|none=>none
   |none=>none
  |_=>none
 else none
theorem JDn{agg:Bool}{off:Nat}{t:Ty}{v:TV}{d:Option Nat}{s:TSt}{k:TSt->Option R}{r:R}(h:YA agg off t v d s k=some r):Ok (val (rO agg off t.sz (aT (lns s.sto) v))) d s k r:=by
 unfold YA at h;split at h;rename_i n;split at h;rename_i e x;obtain⟨y,h1,h2⟩:=xA h;refine fV (v:=mkv agg t y) ?_ h2;grind [spo,lj,rO,ER,val,bI];rename_i cs;split at h;rename_i l g;split at h;rename_i v j;refine fV (v:=v) ?_ h;grind [e_m,rO,FR,EX,val,bI];cases h;cases h;cases h;cases h
end
end Go.Am
end
section
namespace Go.Am
section
variable {R:Type}
theorem ZK{α:Type} [BEq α] [LawfulBEq α] [DecidableEq α](x y:α):(x==y)=decide (x=y):=by
 grind
def Vl(m:Option AV)(s:TSt)(kk:TV->Option R)(r:R):Prop:= ∃v,m=some (aT (lns s.sto) v)/\kk v=some r
theorem Vl.ok{m:Option AV}{d:Option Nat}{s:TSt}{k:TSt->Option R}{r:R}(h:Vl m s (λv=>k (bD d v s)) r):Ok (val m) d s k r:=by obtain⟨v,h1,h2⟩:=h;refine fV (v:=v) ?_ h2;rw[h1];rfl
def kj(op:BinOp)(k:IntKind)(a c:Int)(kk:TV->Option R):Option R:=
 match op with
 | .add=>kk (vi k (J1 k a c))
 | .sub=>kk (vi k (JL k a c))
 | .mul=>kk (vi k (cV k a c))
 | .quo=>(Ch k a c).bind λq=>kk (vi k q)
 | .rem=>(pD a c).bind λq=>kk (vi k q)
 | .and=>kk (vi k (qX k a c))
 | .or=>kk (vi k (orI k a c))
 | .xor=>kk (vi k (gB k a c))
 | .eql=>kk (vb (aK a c))
 | .neq=>kk (vb (aO a c))
 | .lss=>kk (vb (aM a c))
 | .leq=>kk (vb (bJ a c))
 | .gtr=>kk (vb (aP a c))
 | .geq=>kk (vb (aR a c))
 |_=>none
def l4(op:BinOp)(a c:List UInt8)(kk:TV->Option R):Option R:=
 match op with
 | .add=>(eK a c).bind λq=>kk (vs q)
 | .eql=>kk (vb (eqS a c))
 | .neq=>kk (vb (neS a c))
 | .lss=>kk (vb (ltS a c))
 | .leq=>kk (vb (leS a c))
 | .gtr=>kk (vb (gtS a c))
 | .geq=>kk (vb (geS a c))
 |_=>none
inductive TBT where|plain|bool|flat (t:Ty)|nilp|nilf
def erT:TBT->BT| .plain=>.plain| .bool=>.bool| .flat t=>.flat (t.ks.getD [])| .nilp=>.nilp| .nilf=>.nilf
def nX(op:BinOp)(x:Bool)(kk:TV->Option R):Option R:=
 match op with
 | .eql=>kk (vb x)
 | .neq=>kk (vb (Jn x))
 |_=>none
def lc(op:BinOp)(bt:TBT)(x y:TV)(kk:TV->Option R):Option R:=
 match bt with
 | .plain=>match x,y with
  | .a (.c (.d (.i k) a)),.a (.c (.d (.i k') c))=>match op with| .shl=>(tI k a c).bind λq=>kk (vi k q)| .shr=>(mS k a c).bind λq=>kk (vi k q)|_=>if k=k' then kj op k a c kk else none
  | .a (.c (.d .s a)),.a (.c (.d .s c))=>l4 op a c kk
  |_,_=>none
 | .bool=>match x,y with| .a (.c (.d .b a)),.a (.c (.d .b c))=>nX op (eqB a c) kk|_,_=>none
 | .flat t=>match x,y with| .a (.dt g a),.a (.dt e c)=>if h:g=t/\e=t/\t.ks.isSome=true then nX op (eqT t (h.1▸a) (h.2.1▸c)) kk else none|_,_=>none
 | .nilp=>match x with| .a (.c .np)=>nX op true kk| .a (.c (.ptr _ _))=>nX op false kk| .a (.c (.cp _ _ _))=>nX op false kk| .a (.c (.ep _ _ _))=>nX op false kk|_=>none
 | .nilf=>match x with| .a (.c .nf)=>nX op true kk| .a (.fn _ _ _)=>nX op false kk| .a (.c (.fn _))=>nX op false kk| .a (.c (.d .f _))=>nX op true kk|_=>none
theorem PX{op:BinOp}{x:Bool}{s:TSt}{kk:TV->Option R}{r:R}(h:nX op x kk=some r):Vl (jP op (some x)) s kk r:=by
 unfold nX at h;split at h;exact⟨_,rfl,h⟩;exact⟨_,rfl,h⟩;cases h
theorem JHd{op:BinOp}{k:IntKind}{a c:Int}{s:TSt}{kk:TV->Option R}{r:R}(h:kj op k a c kk=some r):Vl ((yH op k a c).map .p) s kk r:=by
 unfold kj at h;split at h<;>first
  |exact⟨_,rfl,h⟩
  |(obtain⟨q,h1,h⟩:=cR.1 h
    refine⟨_,?_,h⟩
    first|unfold Ch at h1|unfold pD at h1
    split at h1;cases h1;rename_i h0;injection h1 with h1;simp only[yH,if_neg h0,h1,dU,e_i])
  |(refine⟨_,?_,h⟩;simp only[yH,ZK,dU,e_b,bne,aK,aO,aM,bJ,aP,aR];done)
  |cases h
theorem JIF{op:BinOp}{a c:List UInt8}{s:TSt}{kk:TV->Option R}{r:R}(h:l4 op a c kk=some r):Vl ((yR op a c).map .p) s kk r:=by
 unfold l4 at h;split at h<;>first
  |(obtain⟨q,h1,h⟩:=cR.1 h
    refine⟨_,?_,h⟩;unfold eK at h1;split at h1;rename_i h0;injection h1 with h1;simp only[yR,if_pos h0,h1,dU,e_s];cases h1)
  |(refine⟨_,?_,h⟩;simp only[yR,ZK,dU,e_b,eqS,neS,ltS,leS,gtS,geS];done)
  |cases h
theorem JI6{op:BinOp}{bt:TBT}{x y:TV}{s:TSt}{kk:TV->Option R}{r:R}(h:lc op bt x y kk=some r):Vl (nV op (erT bt) (aT (lns s.sto) x) (aT (lns s.sto) y)) s kk r:=by
 unfold lc at h;split at h;split at h;rename_i k a k' c;simp only[e_i,erT,nV];split at h;obtain⟨q,h1,h⟩:=cR.1 h;unfold tI at h1;split at h1;cases h1;rename_i h0;injection h1 with h1;exact⟨_,by simp_all [e_i],h⟩;obtain⟨q,h1,h⟩:=cR.1 h;unfold mS at h1;split at h1;cases h1;rename_i h0;injection h1 with h1;exact⟨_,by simp_all [e_i],h⟩;grind [JHd];exact JIF h;cases h;split at h;rename_i a c;simp only[e_b,erT,nV,ZK];exact PX h;cases h;grind [Option.isSome_iff_exists,lj,erT,nV,PR,PX];split at h<;>first|exact PX h|cases h
 split at h<;>first|exact PX h|cases h
def tUn(op:UnOp)(x:TV)(kk:TV->Option R):Option R:=
 match op,x with
 | .neg,.a (.c (.d (.i k) n))=>kk (vi k (Zl k n))
 | .xor,.a (.c (.d (.i k) n))=>kk (vi k (VO k n))
 | .not,.a (.c (.d .b x))=>kk (vb (Jn x))
 |_,_=>none
theorem JKi{op:UnOp}{x:TV}{s:TSt}{kk:TV->Option R}{r:R}(h:tUn op x kk=some r):Vl (unP op (aT (lns s.sto) x)) s kk r:=by unfold tUn at h;split at h<;>first|exact⟨_,rfl,h⟩|cases h
def tMm(mx:Bool)(x y:TV)(kk:TV->Option R):Option R:=
 match x,y with
 | .a (.c (.d (.i k) a)),.a (.c (.d (.i _) c))=>kk (vi k (if mx=true then dG a c else kQ a c))
 |_,_=>none
theorem JKH{mx:Bool}{x y:TV}{s:TSt}{kk:TV->Option R}{r:R}(h:tMm mx x y kk=some r):Vl (mmP mx (aT (lns s.sto) x) (aT (lns s.sto) y)) s kk r:=by
 unfold tMm at h;split at h;exact⟨_,by cases mx<;>rfl,h⟩;cases h
def tls(t:Ty)(v:TV)(s:TSt):Option (List t.D):=
 match v with
 | .a (.c (.d (.l t') l))=>if h:t'=t then some (h▸l)else none
 | .a (.c (.d .s l))=>if h:t=.i .u8 then some (h▸(aS l:List (Ty.i .u8).D))else none
 | .a (.c (.slr b))=>match s.sto[b]? with|some (.arr _ t' rows)=>if h:t'=t then some (h▸rows)else none|_=>none
 |_=>none
theorem PJ{t:Ty}{v:TV}{s:TSt}{l:List t.D}(h:tls t v s=some l):(dH t.sz (aT (lns s.sto) v)).run (JB s)=some (l.map (cel t)):=by
 unfold tls at h;split at h;grind [e_l,dH,bI];split at h;rename_i h0;subst h0;injection h with h;subst h;simp only[e_s,dH,Ty.sz,if_true,bI,ZZ];rfl;cases h;rename_i b;split at h;rename_i w t' rows e;split at h;rename_i h0;subst h0;injection h with h;subst h;simp only[iA,dH,eU,fB,e,dU,JI,bB,oP e,fE,lO,and_self,if_true,bI,HZ];cases h;cases h;cases h
def m7(k:CK)(x:TV)(d:Option Nat)(new:Nat)(s:TSt)(kk:TSt->Option R):Option R:=
 match k with
 | .int k=>match x with| .a (.c (.d (.i _) n))=>kk (bD d (vi k (bN k n)) s)|_=>none
 | .same=>match x with| .a (.c (.d .s l))=>kk (bD d (vs l) s)|_=>none
 | .toStr=>match tls (.i .u8) x s with|some l=>kk (bD d (vs (toStr l)) s)|none=>none
 | .toBytes own=>match x with| .a (.c (.d .s l))=>if own=true then kk (bD d (.a (.c (.slr new))) (wN new (.arr true (.i .u8) (aS l)) s))else kk (bD d (vl (.i .u8) (aS l)) s)|_=>none
theorem JFv(F:Orc){k:CK}{x:TO}{v:TV}{d:Option Nat}{new:Nat}{s:TSt}{kk:TSt->Option R}{r:R}(hx:tev x s=some v)(hn:k=.toBytes true->new<s.sto.length)(h:m7 k v d new s kk=some r):Ok (opR F (.conv k (erO x)) new) d s kk r:=by
 unfold m7 at h;split at h;split at h;refine fV (v:=vi _ _) ?_ h;simp only[opR,run_bind,cA hx,JI,e_i,bI,bN];cases h;split at h;refine fV (v:=vs _) ?_ h;grind [opR,run_bind,cA,e_s,bI];cases h;split at h;rename_i l j;refine fV (v:=vs _) ?_ h;have:=PJ j;have e:l.map (cel (.i .u8))=l.map (r_i .u8):=rfl;rw[e]at this;simp only[opR,run_bind,cA hx,JI,this,g9,e_s,bI,Ty.sz];rw[show(dH 1 (aT (lns s.sto) v)).run (JB s)=some (l.map (r_i .u8))from this];simp[g9];cases h;rename_i own;split at h;rename_i l;split at h;rename_i g;subst g;refine mp (x:=.arr true (.i .u8) (aS l)) (v:=.a (.c (.slr new))) ?_ h;simp only[opR,run_bind,cA hx,JI,e_s,if_true,bI,iA,bB,ZZ];have e:lns (wN new (TB.arr true (Ty.i IntKind.u8) (aS l)) s).sto new=l.length:=(by grind [wN,XQ,lnB,aS]);rw[e];rfl;rename_i g;have:own=false:=by simpa using g
 subst this;refine fV (v:=vl _ _) ?_ h;simp only[opR,run_bind,cA hx,JI,e_s,eL,if_false,bI,e_l,ZZ];rfl;cases h
end
end Go.Am
end
section
namespace Go.Am
section
variable {R:Type}
theorem qc(p q:List Sp):spo (p++q)=spo p+spo q:=by
 induction p with
 |nil=>simp[spo]
 |cons x p ih=>cases x<;>simp only[tK,spo,ih]<;>omega
def YN(off:Nat)(x:TV)(kk:TV->Option R):Option R:=
 match x with
 | .a (.c (.ptr b p))=>kk (.a (.c (.ptr b (p++[.f off]))))
 | .a (.c (.cp t x p))=>kk (.a (.c (.cp t x (p++[.f off]))))
 | .a (.c (.ep b i p))=>kk (.a (.c (.ep b i (p++[.f off]))))
 |_=>none
theorem JDC{off:Nat}{x:TV}{s:TSt}{kk:TV->Option R}{r:R}(h:YN off x kk=some r):Vl (KT off (aT (lns s.sto) x)) s kk r:=by
 unfold YN at h;split at h<;>first
  |(refine⟨_,?_,h⟩;simp only[kX,mQ,mN,KT,qc,spo,yO];done)
  |cases h
def YJ(len esz:Nat)(x i:TV)(kk:TV->Option R):Option R:=
 match i with
 | .a (.c (.d (.i _) n))=>(bA len n).bind λ_=>match x with| .a (.c (.ptr b p))=>kk (.a (.c (.ptr b (p++[.a n.toNat esz]))))| .a (.c (.cp t x p))=>kk (.a (.c (.cp t x (p++[.a n.toNat esz]))))| .a (.c (.ep b i p))=>kk (.a (.c (.ep b i (p++[.a n.toNat esz]))))|_=>none
 |_=>none
theorem JDQ{len esz:Nat}{x i:TV}{s:TSt}{kk:TV->Option R}{r:R}(h:YJ len esz x i kk=some r):Vl (KO len esz (aT (lns s.sto) x) (aT (lns s.sto) i)) s kk r:=by
 unfold YJ at h;split at h;obtain⟨_,h1,h⟩:=cR.1 h;have h0:=PT h1;split at h<;>first
  |(refine⟨_,?_,h⟩;simp only[kX,mQ,mN,e_i,KO,if_pos h0,qc,spo,yO];done)
  |cases h
 cases h
def XY(t:Ty)(x i:TV)(s:TSt)(kk:TV->Option R):Option R:=
 match i with
 | .a (.c (.d (.i _) n))=>match x with
  | .a (.c (.d (.l t') l))=>if t'=t then(idx l n).bind λy=>kk (.a (.c (.cp t' y [])))else none
  | .a (.c (.slr b))=>match s.sto[b]? with|some (.arr _ t' rows)=>if t'=t then(bA rows.length n).bind λ_=>kk (.a (.c (.ep b n.toNat [])))else none|_=>none
  |_=>none
 |_=>none
theorem JDk{t:Ty}{x i:TV}{d:Option Nat}{s:TSt}{k:TSt->Option R}{r:R}(h:XY t x i s (λv=>k (bD d v s))=some r):Ok (mV t.sz (aT (lns s.sto) x) (aT (lns s.sto) i)) d s k r:=by
 unfold XY at h;split at h;split at h;split at h;rename_i h0;subst h0;obtain⟨y,h1,h⟩:=cR.1 h;refine fV (v:=.a (.c (.cp _ y []))) ?_ h;grind [e_l,e_i,mQ,mV,JDg,bI,spo];cases h;rename_i b;split at h;rename_i w t' rows e;split at h;rename_i h0;subst h0;obtain⟨_,h1,h⟩:=cR.1 h;have h0:=PT h1;refine fV (v:=.a (.c (.ep b _ []))) ?_ h;simp only[iA,e_i,mN,mV,eU,fB,e,dU,JI,bB,oP e,fE,lO,true_and];rw[if_pos h0];rfl;cases h;cases h;cases h;cases h
def nk(x i:TV)(kk:TV->Option R):Option R:=
 match x,i with
 | .a (.c (.d .s l)),.a (.c (.d (.i _) n))=>(oZ l n).bind λu=>kk (vi .u8 u)
 |_,_=>none
theorem JGR(F:Orc){x i:TO}{g e:TV}{d:Option Nat}{new:Nat}{s:TSt}{k:TSt->Option R}{r:R}(hx:tev x s=some g)(hi:tev i s=some e)(h:nk g e (λv=>k (bD d v s))=some r):Ok (opR F (.sidx (erO x) (erO i)) new) d s k r:=by
 unfold nk at h;split at h
 ·rename_i l k' n;obtain⟨u,h1,h⟩:=cR.1 h;refine fV (v:=vi .u8 u) ?_ h;simp only[opR,run_bind,cA hx,cA hi,JI,e_s,e_i];unfold oZ at h1;split at h1
  ·rename_i h0;rw[if_pos h0];split at h1
   all_goals simp_all
  cases h1
 cases h
def TM(j:Int)(k:Nat->Option R):Nat->Option R|0=>none|m+1=>if aK j m=true then k m else TM j k m
theorem Ex{j:Int}{k:Nat->Option R}{r:R}: ∀{n:Nat},TM j k n=some r-> ∃m,m<n/\j=m/\k m=some r
 |0,h=>by cases h
 |n+1,h=>by
  simp only[TM]at h;split at h;grind [aK];obtain⟨m,h1,h2,h3⟩:=Ex h;grind
def l9(agg:Bool)(len:Nat)(t:Ty)(x i:TV)(d:Option Nat)(s:TSt)(k:TSt->Option R):Option R:=
 if agg=true\/t.sz=1 then
  match x,i with
  | .a (.dt (.ar n t') v),.a (.c (.d (.i _) j))=>if h:t'=t/\n=len then(qY v j).bind λy=>k (bD d (mkv agg t (h.1▸y)) s)else none
  | .a (.m _ cs),.a (.c (.d (.i _) j))=>TM j (λm=>match sub cs (m*t.sz) t.sz with
   |some l=>match mka agg t l with|some v=>k (bD d v s)|none=>none
   |none=>none) len
  |_,_=>none
 else none
theorem JFR(F:Orc){agg:Bool}{len:Nat}{t:Ty}{x i:TO}{g e:TV}{d:Option Nat}{new:Nat}{s:TSt}{k:TSt->Option R}{r:R}(hx:tev x s=some g)(hi:tev i s=some e)(h:l9 agg len t g e d s k=some r):
  Ok (opR F (.aidx agg len t.sz (erO x) (erO i)) new) d s k r:=by
 unfold l9 at h;split at h;rename_i A;split at h;rename_i n t' v k' j;split at h;rename_i h0;obtain⟨rfl,rfl⟩:=h0;obtain⟨y,h1,h⟩:=cR.1 h;obtain⟨h2,h3⟩:=JEE h1;refine fV (v:=mkv agg t' y) ?_ h;simp only[opR,run_bind,cA hx,cA hi,JI,lj,e_i,if_pos h2,rO];grind [cel,LA,eP,ER,val,bI];cases h;rename_i z cs k' j;obtain⟨m,h1,o,h3⟩:=Ex h;clear h;subst o;split at h3;rename_i l q;split at h3;rename_i v w;refine fV (v:=v) ?_ h3;have h2:(0:Int)<=m/\(m:Int)<len:=by omega
 simp only[opR,run_bind,cA hx,cA hi,JI,e_m,e_i,if_pos h2,rO,Int.toNat_natCast,FR,q,dU,EX (lns s.sto) w,val,bI];cases h3;cases h3;cases h;cases h
def m8(x:TV)(i:Nat)(kk:TV->Option R):Option R:=
 match x with
 | .tup vs=>match vs[i]? with|some v=>kk (.a v)|none=>none
 |_=>none
theorem JGE{x:TV}{i:Nat}{s:TSt}{kk:TV->Option R}{r:R}(h:m8 x i kk=some r):Vl (OW i (aT (lns s.sto) x)) s kk r:=by
 unfold m8 at h;split at h;split at h;rename_i v e;refine⟨_,?_,h⟩;simp_all [aT];cases h;cases h
def lx(str:Bool)(x:TV)(s:TSt)(kk:TV->Option R):Option R:=
 match str,x with
 |true,.a (.c (.d .s l))=>kk (vi .i64 (J0 l))
 |false,.a (.c (.d (.l _) l))=>kk (vi .i64 (J0 l))
 |false,.a (.c (.slr b))=>match s.sto[b]? with|some (.arr _ _ rows)=>kk (vi .i64 (J0 rows))|_=>none
 |false,.a (.c (.slo _ n))=>kk (vi .i64 n)
 |_,_=>none
theorem JHj{str:Bool}{x:TV}{s:TSt}{kk:TV->Option R}{r:R}(h:lx str x s kk=some r):Vl (IQ str (aT (lns s.sto) x)) s kk r:=by
 unfold lx at h;split at h;exact⟨_,rfl,h⟩;exact⟨_,by simp[e_l,e_i,J0],h⟩;split at h;rename_i e;exact⟨_,by grind [iA,IQ,oP,e_i,J0],h⟩;cases h;exact⟨_,rfl,h⟩;cases h
theorem ZO{s:TSt}{new:Nat}(hn:new<s.sto.length){w:Bool}{t:Ty}{rows:List t.D}:lns (wN new (TB.arr w t rows) s).sto new=rows.length:=by unfold wN;rw[XQ (by simpa using hn)];rfl
theorem PK{m:RM Eff}{d:Option Nat}{s:TSt}{k:TSt->Option R}{r:R}{new:Nat}{t:Ty}{rows:List t.D}(hn:new<s.sto.length)
  (hm:m.run (JB s)=some ⟨.slr new 0 rows.length,[(new,.arr true t.sz (rows.map (cel t)))]⟩) (h:k (bD d (.a (.c (.slr new))) (wN new (.arr true t rows) s))=some r):Ok m d s k r:=by
 refine mp (x:=.arr true t rows) (v:=.a (.c (.slr new))) ?_ h;rw[hm,iA,ZO hn];rfl
def ZY(own:Bool)(t:Ty)(bytes:Nat)(l c:TV)(d:Option Nat)(new:Nat)(s:TSt)(k:TSt->Option R):Option R:=
 match l,c with
 | .a (.c (.d (.i _) n)),.a (.c (.d (.i _) m))=>(mkS bytes n m t.zero).bind λrows=>
  if own=true then k (bD d (.a (.c (.slr new))) (wN new (.arr true t rows) s))else k (bD d (vl t rows) s)
 |_,_=>none
theorem G3(F:Orc){own:Bool}{t:Ty}{bytes:Nat}{l c:TO}{e j:TV}{d:Option Nat}{new:Nat}{s:TSt}{k:TSt->Option R}{r:R}(hl:tev l s=some e)(hc:tev c s=some j)(hn:own=true->new<s.sto.length)
  (h:ZY own t bytes e j d new s k=some r):Ok (opR F (.mkslice own t.sz bytes (cel t t.zero) (erO l) (erO c)) new) d s k r:=by
 unfold ZY at h;split at h;obtain⟨rows,h1,h3⟩:=cR.1 h;obtain⟨h2,rfl⟩:=JIp h1;clear h;split at h3;rename_i g;subst g;refine PK (hn rfl) ?_ h3;simp only[opR,run_bind,cA hl,cA hc,JI,e_i,if_pos h2,if_true,bI,zD,zE];rename_i g;have:own=false:=by simpa using g
 subst this;refine fV (v:=vl t _) ?_ h3;simp only[opR,run_bind,cA hl,cA hc,JI,e_i,if_pos h2,eL,if_false,bI,e_l,zE];cases h
def TH(t:Ty)(bytes:Nat)(x y:TV)(d:Option Nat)(s:TSt)(k:TSt->Option R):Option R:=
 match x with
 | .a (.c (.slr b))=>match s.sto[b]? with
  |some (.arr w t' rows)=>if h:t'=t then
   match tls t' y s with
   |some l=>(JM bytes rows l).bind λm=>k (bD d (.a (.c (.slr b))) (wN b (.arr w t' m) s))
   |none=>none
   else none
  |_=>none
 |_=>none
theorem Eh{t:Ty}{bytes:Nat}{x y:TV}{d:Option Nat}{s:TSt}{k:TSt->Option R}{r:R}(h:TH t bytes x y d s k=some r):Ok (iX t.sz bytes (aT (lns s.sto) x) (aT (lns s.sto) y)) d s k r:=by
 unfold TH at h;split at h;rename_i b;split at h;rename_i w t' rows e;split at h;rename_i h0;subst h0;split at h;rename_i l j;obtain⟨m,h1,h⟩:=cR.1 h;refine mp (x:=.arr w t' m) (v:=.a (.c (.slr b))) ?_ h;have g:(JB s).sto[b]?=some (.arr w t'.sz (rows.map (cel t'))):=by rw[fB,e];rfl
 have:=JIc h1 g (PJ j);rw[iA,oP e,this,iA,ZO (JA e)];rfl;cases h;cases h;cases h;cases h
def md(t:Ty)(bytes:Nat)(y:TV)(d:Option Nat)(new:Nat)(s:TSt)(k:TSt->Option R):Option R:=
 match tls t y s with
 |some l=>(dA bytes l).bind λm=>k (bD d (.a (.c (.slr new))) (wN new (.arr true t m) s))
 |none=>none
theorem JF3(F:Orc){t:Ty}{bytes:Nat}{z:List PV}{y:TO}{e:TV}{d:Option Nat}{new:Nat}{s:TSt}{k:TSt->Option R}{r:R}(hy:tev y s=some e)(hn:new<s.sto.length)(h:md t bytes e d new s k=some r):Ok (opR F (.appn t.sz bytes z (erO y)) new) d s k r:=by
 unfold md at h;split at h;rename_i l g;obtain⟨m,h1,h3⟩:=cR.1 h;obtain⟨h2,rfl⟩:=JEA h1;refine PK hn ?_ h3;simp only[opR,run_bind,cA hy,JI,PJ g,fE,h2,if_true,bI];cases h
def mc(t:Ty)(bytes:Nat)(x y:TV)(d:Option Nat)(s:TSt)(k:TSt->Option R):Option R:=
 match y with
 | .a (.c (.d (.i _) n))=>if 0<=n then TH t bytes x (vl t (List.replicate n.toNat t.zero)) d s k else none
 |_=>none
theorem JFP(F:Orc){t:Ty}{bytes:Nat}{x y:TO}{g j:TV}{d:Option Nat}{new:Nat}{s:TSt}{k:TSt->Option R}{r:R}(hx:tev x s=some g)(hy:tev y s=some j)(h:mc t bytes g j d s k=some r):Ok (opR F (.appz t.sz bytes (cel t t.zero) (erO x) (erO y)) new) d s k r:=by
 unfold mc at h;split at h;rename_i n;split at h;rename_i h0;obtain⟨e,s',h1,h2,h3⟩:=Eh h;refine⟨e,s',?_,h2,h3⟩;simp only[opR,run_bind,cA hx,cA hy,JI,e_i,zrs,if_pos h0];simp_all [e_l];cases h;cases h
def ng(t:Ty)(bytes:Nat)(x y:TV)(d:Option Nat)(new:Nat)(s:TSt)(k:TSt->Option R):Option R:=
 match x with
 | .a (.c (.sc t' rows))=>if h:t'=t then
   match tls t' y s with
   |some l=>(Bo bytes rows l).bind λm=>k (bD d (.a (.c (.slr new))) (wN new (.arr true t' m) s))
   |none=>none
  else none
 |_=>none
theorem JFH(F:Orc){t:Ty}{bytes:Nat}{z:List PV}{x y:TO}{e g:TV}{d:Option Nat}{new:Nat}{s:TSt}{k:TSt->Option R}{r:R}(hx:tev x s=some e)(hy:tev y s=some g)(hn:new<s.sto.length)(h:ng t bytes e g d new s k=some r):
  Ok (opR F (.appc t.sz bytes z (erO x) (erO y)) new) d s k r:=by
 unfold ng at h;split at h;rename_i t' rows;split at h;rename_i h0;subst h0;split at h;rename_i l j;obtain⟨m,h1,h⟩:=cR.1 h;unfold Bo at h1;split at h1;rename_i h2;injection h1 with h1;subst h1;refine PK hn ?_ h;simp only[opR,run_bind,cA hx,cA hy,JI];show(IE t'.sz bytes (.p (.slc t'.sz (rows.map (cel t')))) _ new).run _=_;grind [IE,run_bind,PJ,bI];cases h1;cases h;cases h;cases h
def tbn(x:Option TO)(s:TSt):Option (Option (IntKind×Int)):=
 match x with
 |none=>some none
 |some o=>match tev o s with|some (.a (.c (.d (.i k) n)))=>some (some (k,n))|_=>none
def bv(x:Option (IntKind×Int)):Option AV:=x.map λy=>.p (.i y.1 y.2)
theorem EQ{x:Option TO}{s:TSt}{y:Option (IntKind×Int)}(h:tbn x s=some y):(evo (x.map erO)).run (JB s)=some (bv y):=by
 cases x with
 |none=>injection h with h;subst h;rfl
 |some o=>
  simp only[tbn]at h;split at h;rename_i k n e;injection h with h;subst h;simp only[dU,evo,run_bind,cA e,JI,bI,bv,e_i];cases h
theorem JKc(x:Option (IntKind×Int))(top d:Nat):qF (bv x) top d=rF (x.map (·.2)) top d:=by cases x<;>rfl
theorem D1(n:Nat)(lo hi:Option (IntKind×Int)):vX n (bv lo) (bv hi)=pH n (lo.map (·.2)) (hi.map (·.2)):=by
 grind [vX,pH,JKc]
inductive TSK where|str|sl (t:Ty)
def erK:TSK->SK| .str=>.str| .sl t=>.sl t.sz
def kb(t:Ty)(x:TV)(s:TSt)(kk:List t.D->TSt->Option R):Option R:=
 match x with
 | .a (.c (.d (.l t') l))=>if h:t'=t then kk (h▸l) s else none
 | .a (.c (.slr b))=>match s.sto[b]? with|some (.arr _ t' rows)=>if h:t'=t then kk (h▸rows) (wS b (.arr false t' rows) s)else none|_=>none
 |_=>none
theorem JIe{t:Ty}{x:TV}{s:TSt}{kk:List t.D->TSt->Option R}{r:R}(h:kb t x s kk=some r):
  ∃l s' ws,Fzd s s' ws/\kk l s'=some r/\((aT (lns s.sto) x=.p (.sl t.sz (l.map (cel t)))/\ws=[])\/
   ∃b,aT (lns s.sto) x=.slr b 0 l.length/\(fz (.slr b 0 l.length)).run (JB s)=some ([.sl t.sz (l.map (cel t))],ws)):=by
 unfold kb at h;split at h;grind [Fzd.refl,e_l];rename_i b;split at h;rename_i w t' rows e;split at h;rename_i h0;subst h0;refine⟨_,_,_,ZE e,h,.inr ⟨b,by rw[iA,oP e],?_⟩⟩;simp_all [fB,bB];cases h;cases h;cases h
def XK(e:TSK)(x:TV)(lo hi mx:Option (IntKind×Int))(d:Option Nat)(s:TSt)(k:TSt->Option R):Option R:=
 match e with
 | .str=>match x,mx with| .a (.c (.d .s l)),none=>(bG l (lo.map (·.2)) (hi.map (·.2))).bind λq=>k (bD d (vs q) s)|_,_=>none
 | .sl t=>kb t x s λl s1=>match mx with|none=>(bG l (lo.map (·.2)) (hi.map (·.2))).bind λq=>k (bD d (vl t q) s1)|some (_,n)=>match lo,hi with|none,some (_,h)=>if h=l.length/\n=l.length then k (bD d (.a (.c (.sc t l))) s1)else none|_,_=>none
theorem qf{α:Type}{l q:List α}{lo hi:Option Int}(h:bG l lo hi=some q): ∃c,pH l.length lo hi=some c/\q=(l.drop c.1).take (c.2-c.1):=by
 grind [bG]
theorem JDE(F:Orc){n:TSK}{x:TO}{j:TV}{lo hi mx:Option TO}{l g m:Option (IntKind×Int)}{d:Option Nat}{new:Nat}{s:TSt}{k:TSt->Option R}{r:R}(hx:tev x s=some j)(hl:tbn lo s=some l)(o:tbn hi s=some g)(hm:tbn mx s=some m)
  (h:XK n j l g m d s k=some r):Ok (opR F (.slice (erK n) (erO x) (lo.map erO) (hi.map erO) (mx.map erO)) new) d s k r:=by
 unfold XK at h;split at h;split at h;rename_i A;obtain⟨q,h1,h⟩:=cR.1 h;obtain⟨c,w,rfl⟩:=qf h1;refine fV (v:=vs _) ?_ h;have z:bv none=none:=rfl;simp only[opR,run_bind,cA hx,EQ hl,EQ o,EQ hm,JI,e_s,erK,z,kZ,wY,val,D1,w,bI];cases h;rename_i t;obtain⟨y,s1,ws,f,h,C⟩:=JIe h;have e: ∀(res:AV),kZ (.sl t.sz) (.p (.sl t.sz (y.map (cel t)))) (bv l) (bv g) (bv m)=some res->
   (opR F (.slice (erK (.sl t)) (erO x) (lo.map erO) (hi.map erO) (mx.map erO)) new).run (JB s)=some ⟨res,ws⟩:=by
  intro res B;simp only[opR,run_bind,cA hx,EQ hl,EQ o,EQ hm,JI,erK];grind [val,bI,run_bind]
 split at h;obtain⟨q,h2,h⟩:=cR.1 h;obtain⟨c,w,rfl⟩:=qf h2;refine XP (v:=vl t _) f (e _ ?_) h;grind [bv,kZ,wV,D1,e_l,List.map_take,List.map_drop];split at h;split at h;rename_i h0;refine XP (v:=.a (.c (.sc t y))) f (e _ ?_) h;simp only[bv,Option.map_none,dU,kZ,OT,fE,h0,and_self,if_true];rfl;cases h;cases h
end
end Go.Am
end
section
namespace Go.Am
section
variable {R:Type}
def TQ(t:Ty):List (Nat×TO)->TSt->TSt->(List (Nat×t.D)->TSt->Option R)->Option R|[],_,s,k=>k [] s|(i,o)::r,s0,s,k=>match tev o s0 with|some v=>tfz t v s λz s'=>TQ t r s0 s' λl e=>k ((i,z)::l) e|none=>none
theorem ox{t:Ty}: ∀{parts:List (Nat×TO)} {s0 s:TSt} {w0:List (Nat×Blk)} {k:List (Nat×t.D)->TSt->Option R} {r:R},Fzd s0 s w0->TQ t parts s0 s k=some r->
  ∃l s' ws,(fzs (parts.map λx=>erO x.2)).run (JB s0)=some (l.map λx=>cel t x.2,ws)/\Fzd s0 s' (w0++ws)/\l.map (·.1)=parts.map (·.1)/\k l s'=some r
 |[],s0,s,w0,k,r,f,h=>⟨[],s,[],rfl,by simp_all,rfl,h⟩
 |(i,o)::q,s0,s,w0,k,r,f,h=>by
  simp only[TQ]at h;split at h;rename_i v n;obtain⟨z,s1,j,h1,e,h⟩:=Dw f h;obtain⟨l,g,w,h2,y,h3,h⟩:=ox e h;refine⟨(i,z)::l,g,j++w,?_,by simp_all,by simp[h3],h⟩;simp only[bP,fzs,run_bind,cA n,JI,h1,h2,bI];cases h
def PN{α:Type}:List (Nat×α)->List α->Option (List α)|[],rows=>some rows|(i,c)::r,rows=>if i<rows.length then PN r (rows.set i c)else none
theorem uf{t:Ty}: ∀{l:List (Nat×t.D)} {rows rows':List t.D},PN l rows=some rows'->
  AH t.sz ((l.map (·.1)).zip (l.map λx=>cel t x.2)) (rows.map (cel t))=some (rows'.map (cel t))/\rows'.length=rows.length
 |[],rows,rows',h=>by injection h with h;simp_all
 |(i,c)::q,rows,rows',h=>by
  simp only[PN]at h;split at h;rename_i h0;obtain⟨h1,h2⟩:=uf h;simp_all [eP];cases h
def nc(own:Bool)(t:Ty)(n:Nat)(parts:List (Nat×TO))(d:Option Nat)(new:Nat)(s:TSt)(k:TSt->Option R):Option R:=
 TQ t parts s s λl s1=>match PN l (List.replicate n t.zero)with|some rows=>if own=true then k (bD d (.a (.c (.slr new))) (wN new (.arr true t rows) s1))else k (bD d (vl t rows) s1)|none=>none
theorem JFh(F:Orc){own:Bool}{t:Ty}{n:Nat}{parts:List (Nat×TO)}{d:Option Nat}{new:Nat}{s:TSt}{k:TSt->Option R}{r:R}(hn:own=true->new<s.sto.length)
  (h:nc own t n parts d new s k=some r):Ok (opR F (.lits own t.sz n (cel t t.zero) (parts.map λx=>(x.1,erO x.2))) new) d s k r:=by
 unfold nc at h;obtain⟨l,s1,ws,h1,f,h2,h3⟩:=ox (Fzd.refl s) h;rw[lP]at f;clear h;split at h3;rename_i rows j;obtain⟨g,o⟩:=uf j;rw[zD]at o;rw[zE]at g;have y:(parts.map λx=>(x.1,erO x.2)).map (·.2)=parts.map λx=>erO x.2:=by simp
 have w:(parts.map λx=>(x.1,erO x.2)).map (·.1)=l.map (·.1):=by rw[h2];simp
 split at h3;rename_i e;subst e;have q:new<s1.sto.length:=(by have:=congrArg (λst=>st.sto.length) f.2.2.1;grind [JB,zY]);refine⟨⟨aT (lns (wN new (.arr true t rows) s1).sto) (.a (.c (.slr new))),ws++[(new,.arr true t.sz (rows.map (cel t)))]⟩,_,?_,rS ?_ d _,h3⟩;grind [iA,ZO,opR,run_bind,bI];rw[C0,f.2.2.1,fH];rfl;rename_i e;have:own=false:=by simpa using e
 subst this;refine XP (v:=vl t rows) f ?_ h3;grind [opR,run_bind,bI,e_l];cases h3
def oB(s:TSt):Nat->Nat->Bool
 |_,0=>true
 |new,k+1=>(match s.sto[new]? with
  |some .dead=>true
  |_=>false)&&oB s (new+1) k
theorem rp{s:TSt}: ∀{k new:Nat},oB s new k=true->(tR new k).run (JB s)=some ()
 |0,_,_=>rfl
 |k+1,new,h=>by
  simp only[oB,JZ]at h;obtain⟨h1,h2⟩:=h;split at h1;rename_i e;simp only[tR,eU,fB,e,dU,JI,bB];exact rp h2;cases h1
theorem xE{s:TSt}: ∀{k new:Nat},oB s new k=true-> ∀j,j<k->s.sto[new+j]?=some .dead
 |0,_,_,j,hj=>by omega
 |k+1,new,h,j,hj=>by
  simp only[oB,JZ]at h;obtain⟨h1,h2⟩:=h;cases j with
  |zero=>
   grind
  |succ j=>
   have:=xE h2 j (by omega);grind
theorem ZG{m:RM Eff}{d:Option Nat}{s:TSt}{k:TSt->Option R}{r:R}{new:Nat}{x:TB}(hd:s.sto[new]?=some .dead)(h0:lnB x=0)
  (hm:m.run (JB s)=some ⟨.ptr new 0,[(new,bB (lns s.sto) x)]⟩) (h:k (bD d (.a (.c (.ptr new []))) (wS new x s))=some r):Ok m d s k r:=by
 refine IV (x:=x) (v:=.a (.c (.ptr new []))) (h0.trans (AJ hd).symm) ?_ h;rw[hm];rfl
def qq(t:Ty)(d:Option Nat)(new:Nat)(s:TSt)(k:TSt->Option R):Option R:=k (bD d (.a (.c (.ptr new []))) (wS new (.box t t.zero) s))
theorem JB4(F:Orc){t:Ty}{d:Option Nat}{new:Nat}{s:TSt}{k:TSt->Option R}{r:R}(hd:s.sto[new]?=some .dead)(h:qq t d new s k=some r):Ok (opR F (.newbox (cel t t.zero)) new) d s k r:=
 ZG hd (x:=.box t t.zero) rfl rfl h
def kt(t:Ty)(x:TV)(d:Option Nat)(new:Nat)(s:TSt)(k:TSt->Option R):Option R:=
 match tdv t x with
 |some z=>if agv x=true\/t.sz=1 then k (bD d (.a (.c (.ptr new []))) (wS new (.box t z) s))else none
 |none=>match tcs x with|some cs=>if cs.length=t.sz then k (bD d (.a (.c (.ptr new []))) (wS new (.mbox t cs) s))else none|none=>none
theorem JHl(F:Orc){t:Ty}{x:TO}{v:TV}{d:Option Nat}{new:Nat}{s:TSt}{k:TSt->Option R}{r:R}(hd:s.sto[new]?=some .dead)(hx:tev x s=some v)(h:kt t v d new s k=some r):Ok (opR F (.box t.sz (erO x)) new) d s k r:=by
 unfold kt at h;split at h;rename_i z n;split at h;rename_i e;refine ZG hd (x:=.box t z) rfl ?_ h;simp only[opR,run_bind,cA hx,JI,gv (lns s.sto) n e,fE,eP,if_true,bI,bB];cases h;split at h;rename_i cs g;split at h;rename_i j;refine ZG hd (x:=.mbox t cs) rfl ?_ h;simp only[opR,run_bind,cA hx,JI,KZ (lns s.sto) g,fE,j,if_true,bI,bB];cases h;cases h
def pP:List (Nat×Ty)->Nat->TSt->TSt|[],_,s=>s|(_,t)::r,n,s=>pP r (n+1) (wS n (.arr true t []) s)
def yU:List (Nat×Ty)->Nat->List TC->List TC|[],_,cs=>cs|(off,_)::r,n,cs=>yU r (n+1) (cs.set off (.slr n))
def lM(os:List (Nat×Ty)):List (Nat×Nat):=os.map λx=>(x.1,x.2.sz)
theorem dl: ∀{os:List (Nat×Ty)} {new:Nat} {s:TSt},(∀j,j<os.length->s.sto[new+j]?=some .dead)->
  lns (pP os new s).sto=lns s.sto/\JB (pP os new s)=⟨(JB s).env,upd (hZ (lM os) new) (JB s).sto⟩/\(∀b,(∀j,j<os.length->b≠new+j)->(pP os new s).sto[b]?=s.sto[b]?)
 |[],_,s,_=>⟨rfl,rfl,λ_ _=>rfl⟩
 |(off,t)::q,new,s,h=>by
  have o:s.sto[new]?=some .dead:=h 0 (by simp);have k:lnB (.arr true t [])=lns s.sto new:=(AJ o).symm;have e:=FA k;have g: ∀c,c≠new->(wS new (.arr true t []) s).sto[c]?=s.sto[c]?:=λc v=>by grind [wS]
  obtain⟨h1,h2,h3⟩:=dl (os:=q) (new:=new+1) (s:=wS new (.arr true t []) s) (λj r=>by
   rw[g _ (by omega)];have:=h (j+1) (by simp;omega);grind)
  refine⟨h1.trans e,?_,λb n=>?_⟩;simp only[pP];rw[h2,zN k];simp only[lM,bP,hZ];rfl;simp only[pP];rw[h3 b (λj r=>by have:=n (j+1) (by simp;omega);omega),g b (by have:=n 0 (by simp);omega)]
theorem ZX{L:Nat->Nat}: ∀{os:List (Nat×Ty)} {new:Nat} {cs:List TC},(∀j,j<os.length->L (new+j)=0)->(yU os new cs).map (aY L)=mO (lM os) new (cs.map (aY L))
 |[],_,_,_=>rfl
 |(off,t)::q,new,cs,h=>by
  simp only[yU,lM,bP,mO];rw[ZX (os:=q) (new:=new+1) (λj e=>by have:=h (j+1) (by simp;omega);grind),List.map_set];have:aY L (.slr new)=.slr new 0 0:=by simp only[aY];rw[show L new=0 from h 0 (by simp)]
  rw[this];rfl
def fh(t:Ty)(os:List (Nat×Ty))(d:Option Nat)(new:Nat)(s:TSt)(k:TSt->Option R):Option R:=k (bD d (.a (.c (.ptr (new+os.length) []))) (wS (new+os.length) (.mbox t (yU os new (zcs t))) (pP os new s)))
theorem G5(F:Orc){t:Ty}{os:List (Nat×Ty)}{d:Option Nat}{new:Nat}{s:TSt}{k:TSt->Option R}{r:R}(hd:oB s new (os.length+1)=true)(h:fh t os d new s k=some r):
  Ok (opR F (.newboxo (cel t t.zero) (lM os)) new) d s k r:=by
 unfold fh at h;generalize q:zcs t=cs at h;have g:=xE hd;obtain⟨h1,h2,h3⟩:=dl (os:=os) (new:=new) (s:=s) (λj o=>g j (by omega));have n:lnB (.mbox t (yU os new cs))=lns (pP os new s).sto (new+os.length):=by rw[h1,AJ (g os.length (by omega))];rfl
 have e:=FA n;have el:(lM os).length=os.length:=by simp[lM]
 refine⟨⟨aT (lns (wS (new+os.length) (.mbox t (yU os new cs)) (pP os new s)).sto) (.a (.c (.ptr (new+os.length) []))),hZ (lM os) new++[(new+os.length,.box (mO (lM os) new ((cel t t.zero).map .p)))]⟩,_,?_,rS ?_ d _,h⟩;simp only[opR,bI,el];rfl;rw[zN n,h2,fH];simp only[bB];rw[ZX (λj o=>by rw[h1];grind [AJ]),<-q,EY];rfl
def ZU(t:Ty)(parts:List (Nat×Ty×TO))(os:List (Nat×Ty))(d:Option Nat)(new:Nat)(s:TSt)(k:TSt->Option R):Option R:=
 match tpc parts s with
 |some l=>match IS l (yU os new (zcs t))with
  |some cs'=>match mka true t cs' with|some v=>k (bD d v (pP os new s))|none=>none
  |none=>none
 |none=>none
theorem JAX(F:Orc){t:Ty}{parts:List (Nat×Ty×TO)}{os:List (Nat×Ty)}{d:Option Nat}{new:Nat}{s:TSt}{k:TSt->Option R}{r:R}(hd:oB s new os.length=true)(h:ZU t parts os d new s k=some r):
  Ok (opR F (.buildo (cel t t.zero) (erP parts) (lM os)) new) d s k r:=by
 unfold ZU at h;split at h;rename_i l w;have e:=xE hd;obtain⟨h1,h2,h3⟩:=dl (os:=os) (new:=new) (s:=s) (λj o=>e j (by omega));split at h;rename_i cs' g;split at h;rename_i v x;refine⟨⟨aT (lns (pP os new s).sto) v,hZ (lM os) new⟩,_,?_,rS h2 d _,h⟩;have n:=ZX (L:=lns s.sto) (os:=os) (new:=new) (cs:=zcs t) (λj o=>AJ (e j (by omega)));rw[EY]at n;have q:=fk (lns s.sto) g;grind [opR,run_bind,YH,EX,bI];cases h;cases h;cases h
def Dm(t:Ty)(d:Option Nat)(new:Nat)(s:TSt)(k:TSt->Option R):Option R:=k (bD d (.a (.c (.slr new))) (wN new (.arr true t []) s))
theorem JD3(F:Orc){t:Ty}{x:Opd}{d:Option Nat}{new:Nat}{s:TSt}{k:TSt->Option R}{r:R}(hn:new<s.sto.length)(h:Dm t d new s k=some r):Ok (opR F (.mkarr t.sz x) new) d s k r:=
 PK (rows:=[]) hn rfl h
def tyB:Option TB->Ty|some (.box t _)=>t|some (.mbox t _)=>t|_=>.u
def ZM(t:Ty)(x:TV)(d:Option Nat)(new:Nat)(s:TSt)(k:TSt->Option R):Option R:=
 match x with
 | .a (.c (.ptr b p))=>match tJ p,(match s.sto[b]? with
   |some (.box e y)=>yW e y
   |some (.mbox _ cs)=>some cs
   |_=>none)with
  |some off,some cs=>match spl cs off [.slr new]with|some cs'=>k (bD d uv (wS b (.mbox (tyB s.sto[b]?) cs') (wS new (.arr true t []) s)))|none=>none
  |_,_=>none
 |_=>none
theorem JAW(F:Orc){t:Ty}{x:TO}{v:TV}{d:Option Nat}{new:Nat}{s:TSt}{k:TSt->Option R}{r:R}(hd:s.sto[new]?=some .dead)(hx:tev x s=some v)(h:ZM t v d new s k=some r):Ok (opR F (.storen t.sz (erO x)) new) d s k r:=by
 unfold ZM at h;split at h;rename_i b p;split at h;rename_i off cs C j;split at h;rename_i cs' G;have q:lnB (.arr true t [])=lns s.sto new:=(AJ hd).symm;have o:b≠new/\lns s.sto b=0/\(JB s).sto[b]?=some (.box (cs.map (aY (lns s.sto)))):=(by split at j;rename_i B y g;refine⟨λe=>?_,PU g,?_⟩;simp_all;rw[fB,g,LL _ j];rfl;rename_i B E g;injection j with j;subst j;refine⟨λe=>?_,sa g,?_⟩;simp_all;rw[fB,g];rfl;cases j);obtain⟨D,h0,g⟩:=o;have w:=FA q;have n:lnB (.mbox (tyB s.sto[b]?) cs')=lns (wS new (.arr true t []) s).sto b:=by rw[w,h0];rfl
 refine⟨⟨aT (lns (wS b (.mbox (tyB s.sto[b]?) cs') (wS new (.arr true t []) s)).sto) uv,(new,.arr true t.sz [])::[(b,.box (cs'.map (aY (lns s.sto))))]⟩,_,?_,rS ?_ d _,h⟩;have A:aY (lns s.sto) (.slr new)=.slr new 0 0:=by grind [aY,AJ]
 have z:spl (cs.map (aY (lns s.sto))) (spo p) [.slr new 0 0]=some (cs'.map (aY (lns s.sto))):=by rw[<-A,ES C];have:=FQ (aY (lns s.sto)) cs off [TC.slr new];simp_all
 simp only[opR,run_bind,cA hx,JI,kX,iS,eU,g,cellsOf,vQ,List.length_nil,lO,if_true,z,bI];rfl;rw[zN n,zN q,w];rfl;cases h;cases h;cases h
def mu(c:Bool)(a b:Option TV)(kk:TV->Option R):Option R:=
 match a,b with
 |some (.a (.c (.d t x))),some (.a (.c (.d t' y)))=>if h:t'=t then kk (.a (.c (.d t (JLX c x (h▸y)))))else none
 |some x,some y=>if c=true then kk x else kk y
 |some x,none=>if c=true then kk x else none
 |none,some y=>if c=true then none else kk y
 |none,none=>none
theorem JGD(F:Orc){c a b:TO}{x:Bool}{d:Option Nat}{new:Nat}{s:TSt}{k:TSt->Option R}{r:R}(hc:tev c s=some (vb x))(h:mu x (tev a s) (tev b s) (λv=>k (bD d v s))=some r):Ok (opR F (.pick (erO c) (erO a) (erO b)) new) d s k r:=by
 have e: ∃v,(if x=true then tev a s else tev b s)=some v/\k (bD d v s)=some r:=by
  unfold mu at h;split at h;rename_i t y t' z j g;split at h;rename_i h0;subst h0;refine⟨_,?_,h⟩;rw[j,g];cases x<;>rfl
  cases h
  all_goals grind
 obtain⟨v,h1,h2⟩:=e;refine fV (v:=v) ?_ h2;simp only[opR,run_bind,cA hc,JI,e_b];grind [run_bind,cA,bI]
def tcl:List TO->TSt->Option (List TC)
 |[],_=>some []
 |o::r,s=>match tev o s with
  |some (.a (.c x))=>match tcl r s with|some l=>some (x::l)|none=>none
  |_=>none
theorem Ds{s:TSt}: ∀{xs:List TO} {l:List TC},tcl xs s=some l->(evs (xs.map erO)).run (JB s)=some (l.map (aY (lns s.sto)))
 |[],l,h=>by injection h with h;subst h;rfl
 |o::q,l,h=>by
  simp only[tcl]at h;split at h;rename_i x g;split at h;rename_i l' e;injection h with h;subst h;simp only[bP,evs,run_bind,cA g,JI,Ds e,bI];rfl;cases h;cases h
def k6(x:TV)(kk:TV->Option R):Option R:=
 match x with
 | .a (.c (.ptr b p))=>kk (.a (.c (.ptr b p)))
 | .a (.c (.cp t y p))=>kk (.a (.c (.cp t y p)))
 | .a (.c (.ep b i p))=>kk (.a (.c (.ep b i p)))
 | .a (.fn f a c)=>kk (.a (.fn f a c))
 | .a (.c (.fn f))=>kk (.a (.c (.fn f)))
 |_=>none
theorem JHp(F:Orc){x:TO}{v:TV}{d:Option Nat}{new:Nat}{s:TSt}{k:TSt->Option R}{r:R}(hx:tev x s=some v)(h:k6 v (λv=>k (bD d v s))=some r):Ok (opR F (.nilchk (erO x)) new) d s k r:=by
 unfold k6 at h;split at h<;>first
  |(refine fV (v:=_) ?_ h
    simp only[opR,run_bind,cA hx,JI,kX,mQ,mN,lf,Ck,bI];done)
  |cases h
end
end Go.Am
end
section
namespace Go.Am
section
variable {R:Type}
def kn(keep:Bool)(v:TV)(s:TSt)(kk:TA->TSt->Option R):Option R:=
 match v with
 | .a x=>if keep=true then kk x s else
  match x with
  | .c (.slr b)=>match s.sto[b]? with|some (.arr _ t' rows)=>kk (.c (.d (.l t') rows)) (wS b (.arr false t' rows) s)|_=>none
  | .c (.slo _ _)=>none
  | .m t cs=>fzC t cs s λx s'=>kk (.dt t x) s'
  |x=>kk x s
 | .tup _=>none
def KA:List (TV×Bool)->TSt->(List TA->TSt->Option R)->Option R|[],s,kk=>kk [] s|(v,keep)::r,s,kk=>kn keep v s λx s=>KA r s λl s=>kk (x::l) s
theorem JIa{keep:Bool}{v:TV}{s0 s:TSt}{w0:List (Nat×Blk)}{kk:TA->TSt->Option R}{r:R}(f:Fzd s0 s w0)(h:kn keep v s kk=some r):
  ∃x s' ws,(if keep=true then RM.ret (aT (lns s0.sto) v,[])else jJ (aT (lns s0.sto) v)).run (JB s0)=some (bY (lns s0.sto) x,ws)/\Fzd s0 s' (w0++ws)/\kk x s'=some r:=by
 unfold kn at h;split at h;rename_i x;split at h;rename_i g;subst g;exact⟨x,s,[],rfl,by simp_all,h⟩;rename_i g;have:keep=false:=by simpa using g
 subst this;simp only[eL,if_false];split at h;rename_i b;split at h;rename_i w t' rows j;obtain⟨w',e⟩:=f.2.2.2.1 b _ rows w j;refine⟨_,_,[(b,.arr false t'.sz (rows.map (cel t')))],?_,f.trans (ZE j),h⟩;simp only[iA,jJ,fz,run_bind,eU,fB,e,dU,JI,bB,oP e,fE,lO,if_true,HZ,bI];rfl;cases h;cases h;obtain⟨y,s',ws,h1,h2,h3⟩:=LC f h;refine⟨_,s',ws,?_,h2,h3⟩;simp only[e_m,jJ,fz,run_bind,h1,JI,bI];rfl;rename_i o q k;refine⟨x,s,[],?_,by simp_all,h⟩;cases x with
 |c x=>
  cases x with
  |slr b=>simp_all
  |slo b n=>simp_all
  |_=>rfl
 |m t cs=>simp_all
 |_=>rfl
 cases h
theorem ek: ∀{vs:List (TV×Bool)} {s0 s:TSt} {w0:List (Nat×Blk)} {kk:List TA->TSt->Option R} {r:R},Fzd s0 s w0->KA vs s kk=some r->
  ∃xs s' ws,(fR (vs.map (·.2)) (vs.map λx=>aT (lns s0.sto) x.1)).run (JB s0)=some (xs.map (bY (lns s0.sto)),ws)/\Fzd s0 s' (w0++ws)/\kk xs s'=some r
 |[],s0,s,w0,kk,r,f,h=>⟨[],s,[],rfl,by simp_all,h⟩
 |(v,keep)::q,s0,s,w0,kk,r,f,h=>by simp only[KA]at h;obtain⟨x,s1,j,h1,e,h⟩:=JIa f h;obtain⟨xs,g,k,h2,n,h⟩:=ek e h;refine⟨x::xs,g,j++k,?_,by simp_all,h⟩;cases keep<;>simp_all [fR]
theorem SH: ∀(vs:List AV),fR [] vs=kT vs|[]=>rfl|x::r=>by simp only[fR,kT,SH r]
theorem MQ: ∀(m:List Bool) (vs:List AV),(∀x∈m,x=false)->fR m vs=kT vs|[],vs,_=>SH vs|b::m,[],_=>rfl|b::m,x::r,h=>by have:b=false:=h b (by simp);subst this;simp only[fR,kT,MQ m r (λx e=>h x (by simp[e]))]
def IJ(b:Nat)(l:List Nat):List Nat:=if l.any (λx=>x==b)=true then l else l++[b]
def OC(x:TC)(l:List Nat):Option (List Nat):=
 match x with
 | .ptr b _=>some (IJ b l)
 | .slr b=>some (IJ b l)
 | .slo b _=>some (IJ b l)
 | .ep _ _ _=>none
 | .epo _ _ _ _=>none
 |_=>some l
def wC:List TC->List Nat->Option (List Nat)|[],l=>some l|x::r,l=>match OC x l with|some l=>wC r l|none=>none
def nj(x:TA)(l:List Nat):Option (List Nat):=
 match x with
 | .c x=>OC x l
 | .dt _ _=>some l
 | .m _ cs=>wC cs l
 | .fn _ a c=>match wC a l with|some l=>wC c l|none=>none
def EW:List TA->List Nat->Option (List Nat)|[],l=>some l|x::r,l=>match nj x l with|some l=>EW r l|none=>none
def wL(s:TSt):List Nat->List Nat->Option (List Nat)
 |[],acc=>some acc
 |b::r,acc=>match s.sto[b]? with
  |some (.mbox _ cs)=>match wC cs acc with|some acc=>wL s r acc|none=>none
  |some _=>wL s r acc
  |none=>none
theorem Hn(b:Nat)(l:List Nat):wW (.whole b) (l.map .whole)=(IJ b l).map .whole:=by
 grind [wW,IJ]
section
variable (L:Nat->Nat)
theorem so{x:TC}{l l':List Nat}(h:OC x l=some l'):cS (aY L x) (l.map .whole)=l'.map .whole:=by
 unfold OC at h;split at h<;>first
  |(injection h with h;subst h;simp only[aY,cS,Hn];done)
  |(cases h;done)
  |skip
 injection h with h;subst h;rename_i j k o q g;cases x with
 |ptr b p=>simp_all
 |slr b=>simp_all
 |slo b n=>simp_all
 |ep b i p=>simp_all
 |epo b e i p=>grind
 |_=>rfl
theorem ME: ∀{xs:List TC} {l l':List Nat},wC xs l=some l'->cS.entsOfL (xs.map (aY L)) (l.map .whole)=l'.map .whole
 |[],l,l',h=>by injection h with h;subst h;rfl
 |x::r,l,l',h=>by
  simp only[wC]at h;split at h;rename_i e h1;simp only[bP,cS.entsOfL,so L h1];exact ME h;cases h
theorem JFX{x:TA}{l l':List Nat}(h:nj x l=some l'):cS (bY L x) (l.map .whole)=l'.map .whole:=by
 cases x with
 |c x=>exact so L h
 |dt t x=>injection h with h;subst h;rfl
 |m t cs=>exact ME L h
 |fn f a c=>
  simp only[nj]at h;split at h
  all_goals simp_all [bY,ME]
theorem RW: ∀{xs:List TA} {l l':List Nat},EW xs l=some l'->cS.entsOfL (xs.map (bY L)) (l.map .whole)=l'.map .whole
 |[],l,l',h=>by injection h with h;subst h;rfl
 |x::r,l,l',h=>by
  simp only[EW]at h;split at h;rename_i e h1;simp only[bP,cS.entsOfL,JFX L h1];exact RW h;cases h
end
theorem fe{s0 s1:TSt}{ws:List (Nat×Blk)}(f:Fzd s0 s1 ws){b:Nat}{y:TB}(h:s1.sto[b]?=some y):(qW ws b).run (JB s0)=some (bB (lns s0.sto) y):=by
 have h1:(JB s1).sto[b]?=some (bB (lns s0.sto) y):=by rw[fB,h,f.2.1];rfl
 rw[f.2.2.1]at h1;grind [zY,wZ,qW,eU,bI]
theorem AL{s0 s1:TSt}{ws:List (Nat×Blk)}(f:Fzd s0 s1 ws): ∀{r acc l:List Nat},wL s1 r acc=some l->(eN ws (r.map .whole) (acc.map .whole)).run (JB s0)=some (l.map .whole)
 |[],acc,l,h=>by injection h with h;subst h;rfl
 |b::r,acc,l,h=>by
  simp only[wL]at h;split at h;rename_i cs e;split at h;rename_i g j;simp only[bP,eN,run_bind,fe f e,JI,bB,ME (lns s0.sto) j];exact AL f h;cases h;rename_i x k e;simp only[bP,eN,run_bind,fe f e,JI];cases x with
  |mbox t cs=>simp_all
  |box t x=>simp only[bB];rw[ua];exact AL f h
  |_=>exact AL f h
  cases h
end
end Go.Am
end
section
namespace Go.Am
def kCs(K:List Nat)(L:Nat->Nat):TC->TC| .slr c=>if K.any (λx=>x==c)=true then .slo c (L c)else .slr c| .ep c i p=>if K.any (λx=>x==c)=true then .epo c (L c) i p else .ep c i p|x=>x
def kAs(K:List Nat)(L:Nat->Nat):TA->TA| .c x=>.c (kCs K L x)| .dt t x=>.dt t x| .m t cs=>.m t (cs.map (kCs K L))| .fn f a c=>.fn f (a.map (kCs K L)) (c.map (kCs K L))
def kVs(K:List Nat)(L:Nat->Nat):TV->TV| .a x=>.a (kAs K L x)| .tup vs=>.tup (vs.map (kAs K L))
def kBs(K:List Nat)(L:Nat->Nat):TB->TB| .mbox t cs=>.mbox t (cs.map (kCs K L))|x=>x
section
variable {K:List Nat} {L L':Nat->Nat} (h: ∀c,K.any (λx=>x==c)=false->L' c=L c)
include h
theorem B6(x:TC):aY L' (kCs K L x)=aY L x:=by cases x<;>grind [kCs,aY]
theorem Ct(xs:List TC):(xs.map (kCs K L)).map (aY L')=xs.map (aY L):=by
 grind [List.map_congr_left,B6]
theorem Zu(x:TA):bY L' (kAs K L x)=bY L x:=by cases x<;>simp only[kAs,bY,B6 h,Ct h]
theorem Zk(x:TV):aT L' (kVs K L x)=aT L x:=by cases x<;>simp only[kVs,aT,Zu h,zH,Function.comp_def]
theorem JLZ(x:TB):bB L' (kBs K L x)=bB L x:=by cases x<;>simp only[kBs,bB,Ct h]
end
theorem JIr(K:List Nat)(L:Nat->Nat)(x:TB):lnB (kBs K L x)=lnB x:=by cases x<;>rfl
theorem JI9(sto:List TB)(K:List Nat)(L:Nat->Nat)(c:Nat):lns (sto.map (kBs K L)) c=lns sto c:=by
 unfold lns;rw[gA];cases sto[c]? with
 |none=>rfl
 |some x=>exact JIr K L x
def vS(ws:List (Nat×Bool×TB))(sto:List TB):List TB:=ws.foldl (λσ x=>σ.set x.1 x.2.2) sto
def nY(ws:List (Nat×Bool×TB))(s:TSt):TSt:=
 match ws with
 |[]=>s
 |ws=>
  let K:=(ws.filter λx=> !x.2.1).map (·.1)
  ⟨s.env.map λy=>(y.1,kVs K (lns s.sto) y.2),vS ws (s.sto.map (kBs K (lns s.sto)))⟩
theorem fq: ∀{ws:List (Nat×Bool×TB)} {sto:List TB} {c:Nat},c∉ws.map (·.1)->(vS ws sto)[c]?=sto[c]?|[],_,_,_=>rfl|x::ws,sto,c,h=>by simp only[bP,eR,not_or]at h;show(vS ws (sto.set x.1 x.2.2))[c]?=_;rw[fq h.2,HH (λe=>h.1 e.symm)]
theorem Ev: ∀{ws:List (Nat×Bool×TB)} {sto:List TB},(ws.map (·.1)).Nodup-> ∀x∈ws,x.1<sto.length->(vS ws sto)[x.1]?=some x.2.2
 |[],_,_,x,e,_=>by cases e
 |y::ws,sto,g,x,e,h=>by
  simp only[bP,List.nodup_cons]at g;show(vS ws (sto.set y.1 y.2.2))[x.1]?=_;rcases eR.1 e with rfl|e;grind [fq];exact Ev g.2 x e (by simpa using h)
theorem se(f:TB->Blk): ∀(ws:List (Nat×Bool×TB)) (sto:List TB),(vS ws sto).map f=upd (ws.map λx=>(x.1,f x.2.2)) (sto.map f)
 |[],_=>rfl
 |x::ws,sto=>by show(vS ws (sto.set x.1 x.2.2)).map f=upd (ws.map λx=>(x.1,f x.2.2)) ((sto.map f).set x.1 (f x.2.2));rw[se f ws,List.map_set]
theorem JIu{ws:List (Nat×Bool×TB)}{s:TSt}(hn:(ws.map (·.1)).Nodup)(hl: ∀x∈ws,x.1<s.sto.length)(hf: ∀x∈ws,x.2.1=true->lnB x.2.2=lns s.sto x.1):
  JB (nY ws s)=⟨(JB s).env,upd (ws.map λx=>(x.1,bB (lns (nY ws s).sto) x.2.2)) (JB s).sto⟩/\ ∀x∈ws,lns (nY ws s).sto x.1=lnB x.2.2:=by
 cases ws with
 |nil=>exact⟨rfl,λx g=>by cases g⟩
 |cons k j=>
  generalize n:k::j=ws at*;have e:nY ws s=⟨s.env.map λy=>(y.1,kVs ((ws.filter λx=> !x.2.1).map (·.1)) (lns s.sto) y.2),vS ws (s.sto.map (kBs ((ws.filter λx=> !x.2.1).map (·.1)) (lns s.sto)))⟩:=by subst n;rfl
  have h: ∀x∈ws,lns (nY ws s).sto x.1=lnB x.2.2:=λx g=>by rw[e];unfold lns;rw[Ev hn x g (by grind)];rfl
  have q: ∀c,((ws.filter λx=> !x.2.1).map (·.1)).any (λx=>x==c)=false->lns (nY ws s).sto c=lns s.sto c:=(by intro c r;by_cases o:c∈ws.map (·.1);obtain⟨x,g,rfl⟩:=jM.1 o;grind;rw[e];have:=JI9 s.sto ((ws.filter λx=> !x.2.1).map (·.1)) (lns s.sto) c;grind [lns,fq]);refine⟨?_,h⟩;generalize hL:lns (nY ws s).sto=L' at*;unfold JB;rw[hL,e];grind [gG,List.map_congr_left,Zk,se,JLZ]
theorem Er(b:Nat): ∀(ids:List Nat) (k:Nat),dY (.whole b) (ids.map .whole) k=eX b ids k
 |[],_=>rfl
 |x::r,k=>by
  simp only[bP,dY,eX];by_cases h:x=b;subst h;simp;simp[h,Er b r (k+1)]
def OI(ids:List Nat):TC->Option TC| .ptr b p=>(eX b ids 0).bind λk=>some (.ptr k p)| .slr b=>(eX b ids 0).bind λk=>some (.slr k)| .slo b n=>(eX b ids 0).bind λk=>some (.slo k n)| .ep _ _ _=>none| .epo _ _ _ _=>none|x=>some x
def zM(ids:List Nat):List TC->Option (List TC)|[]=>some []|x::r=>match OI ids x,zM ids r with|some y,some l=>some (y::l)|_,_=>none
def KL(ids:List Nat):TA->Option TA
 | .c x=>match OI ids x with|some y=>some (.c y)|none=>none
 | .dt t x=>some (.dt t x)
 | .m t cs=>match zM ids cs with|some l=>some (.m t l)|none=>none
 | .fn f a c=>match zM ids a,zM ids c with|some a,some c=>some (.fn f a c)|_,_=>none
def PI(ids:List Nat):List TA->Option (List TA)|[]=>some []|x::r=>match KL ids x,PI ids r with|some y,some l=>some (y::l)|_,_=>none
def XV(ids:List Nat):TB->Option TB
 | .box t x=>some (.box t x)
 | .mbox t cs=>match zM ids cs with|some l=>some (.mbox t l)|none=>none
 | .arr w t rows=>some (.arr w t rows)
 | .dead=>none
def xD(ids:List Nat)(s:TSt):List Nat->Option (List TB)
 |[]=>some []
 |b::r=>match s.sto[b]? with
  |some x=>match XV ids x,xD ids s r with|some y,some l=>some (y::l)|_,_=>none
  |none=>none
section
variable {ids:List Nat} {L L':Nat->Nat} (hL: ∀b k,eX b ids 0=some k->L' k=L b)
include hL
theorem ru{x y:TC}(h:OI ids x=some y):ren (λe=>dY e (ids.map .whole) 0) (aY L x)=some (aY L' y):=by
 cases x<;>simp only[OI]at h<;>first
  |(obtain⟨k,g,h⟩:=cR.1 h
    injection h with h;subst h;simp only[aY,ren,Er,g,dU]
    try rw[hL _ _ g]
    done)
  |(injection h with h;subst h;rfl)
  |cases h
theorem RD: ∀{xs g:List TC},zM ids xs=some g->ren.renL (λe=>dY e (ids.map .whole) 0) (xs.map (aY L))=some (g.map (aY L'))
 |[],g,h=>by injection h with h;subst h;rfl
 |x::r,g,h=>by
  simp only[zM]at h;split at h;rename_i y l k j;injection h with h;subst h;simp only[bP,ren.renL,ru hL k,RD j];cases h
theorem JFJ{x y:TA}(h:KL ids x=some y):ren (λe=>dY e (ids.map .whole) 0) (bY L x)=some (bY L' y):=by
 cases x with
 |c x=>
  simp only[KL]at h;split at h;rename_i y g;injection h with h;subst h;exact ru hL g;cases h
 |dt t x=>injection h with h;subst h;rfl
 |m t cs=>
  grind [KL,bY,ren,RD]
 |fn f a c=>
  grind [KL,bY,ren,RD]
theorem th: ∀{xs g:List TA},PI ids xs=some g->ren.renL (λe=>dY e (ids.map .whole) 0) (xs.map (bY L))=some (g.map (bY L'))
 |[],g,h=>by injection h with h;subst h;rfl
 |x::r,g,h=>by
  simp only[PI]at h;split at h;rename_i y l k j;injection h with h;subst h;simp only[bP,ren.renL,JFJ hL k,th j];cases h
theorem vp{s0 s1:TSt}{ws:List (Nat×Blk)}(f:Fzd s0 s1 ws)(j:lns s0.sto=L): ∀{k:List Nat} {bl:List TB},xD ids s1 k=some bl->
  (lA ws (λe=>dY e (ids.map .whole) 0) (k.map .whole)).run (JB s0)=some (bl.map (bB L'))
 |[],bl,h=>by injection h with h;subst h;rfl
 |b::r,bl,h=>by
  simp only[xD]at h;split at h;rename_i x o;split at h;rename_i y l g q;injection h with h;subst h;have ih:=vp f j q;have n:=fe f o;rw[j]at n;simp only[bP,lA,zL,run_bind,n,JI];cases x with
  |dead=>cases g
  |box t x=>injection g with g;grind [te,WC,bB,bI]
  |mbox t cs=>
   grind [XV,bB,RD,bI]
  |arr w t rows=>injection g with g;grind [bB,bI]
  cases h;cases h
end
theorem vw{ids:List Nat}{s:TSt}: ∀{g:List Nat} {bl:List TB},xD ids s g=some bl->bl.length=g.length/\ ∀(k b:Nat),g[k]?=some b->lns bl k=lns s.sto b
 |[],bl,h=>by injection h with h;simp_all
 |b::r,bl,h=>by
  simp only[xD]at h;split at h;rename_i x n;split at h;rename_i y l e o;injection h with h;subst h;obtain⟨h1,h2⟩:=vw o;refine⟨by simp[h1],λk c j=>?_⟩;cases k with
  |zero=>
   simp at j;subst j;unfold lns;rw[n];show lnB y=lnB x;cases x with
   |dead=>cases e
   |box t x=>injection e with e;subst e;rfl
   |mbox t cs=>
    simp only[XV]at e;split at e;injection e with e;subst e;rfl;cases e
   |arr w t rows=>injection e with e;subst e;rfl
  |succ k=>
   grind [lns]
  cases h;cases h
def fN(ids:List Nat)(new m k:Nat):Option Nat:=if k<ids.length then ids[k]? else if k<m then some (new+(k-ids.length))else none
def UT(ids:List Nat)(new m:Nat):TC->Option TC| .ptr k p=>(fN ids new m k).bind λb=>some (.ptr b p)| .slr k=>(fN ids new m k).bind λb=>some (.slr b)| .slo k n=>(fN ids new m k).bind λb=>some (.slo b n)| .ep k i p=>(fN ids new m k).bind λb=>some (.ep b i p)| .epo k e i p=>(fN ids new m k).bind λb=>some (.epo b e i p)|x=>some x
def yN(ids:List Nat)(new m:Nat):List TC->Option (List TC)|[]=>some []|x::r=>match UT ids new m x,yN ids new m r with|some y,some l=>some (y::l)|_,_=>none
def VK(ids:List Nat)(new m:Nat):TA->Option TA
 | .c x=>match UT ids new m x with|some y=>some (.c y)|none=>none
 | .dt t x=>some (.dt t x)
 | .m t cs=>match yN ids new m cs with|some l=>some (.m t l)|none=>none
 | .fn f a c=>match yN ids new m a,yN ids new m c with|some a,some c=>some (.fn f a c)|_,_=>none
def OQ(ids:List Nat)(new m:Nat):List TA->Option (List TA)|[]=>some []|x::r=>match VK ids new m x,OQ ids new m r with|some y,some l=>some (y::l)|_,_=>none
def k0(ids:List Nat)(new m:Nat):TV->Option TV
 | .a x=>match VK ids new m x with|some y=>some (.a y)|none=>none
 | .tup vs=>match OQ ids new m vs with|some l=>some (.tup l)|none=>none
def yK(ids:List Nat)(new m:Nat):TB->Option TB
 | .box t x=>some (.box t x)
 | .mbox t cs=>match yN ids new m cs with|some l=>some (.mbox t l)|none=>none
 | .arr w t rows=>some (.arr w t rows)
 | .dead=>none
section
variable {ids:List Nat} {new m:Nat} {L Lp:Nat->Nat} (hL: ∀k b,fN ids new m k=some b->Lp b=L k)
theorem JKG{k b o:Nat}(h:fN ids new m k=some b):bk (ids.map .whole) new (.ptr k o)=some (.ptr b o):=by
 grind [fN,bk]
theorem JK1{k b i n:Nat}(h:fN ids new m k=some b):bk (ids.map .whole) new (.slr k i n)=some (.slr b i n):=by
 grind [fN,bk]
theorem JKV{k b e i o:Nat}(h:fN ids new m k=some b):bk (ids.map .whole) new (.ep k e i o)=some (.ep b e i o):=by
 grind [fN,bk]
include hL
theorem E3{x y:TC}(h:UT ids new m x=some y):bk (ids.map .whole) new (aY L x)=some (aY Lp y):=by
 cases x<;>simp only[UT]at h<;>first
  |(obtain⟨b,e,h⟩:=cR.1 h
    injection h with h;subst h;simp only[aY,JKG e,JK1 e,JKV e,hL _ _ e]
    done)
  |(injection h with h;subst h;rfl)
theorem QF: ∀{xs e:List TC},yN ids new m xs=some e->bk.bkL (ids.map .whole) new (xs.map (aY L))=some (e.map (aY Lp))
 |[],e,h=>by injection h with h;subst h;rfl
 |x::r,e,h=>by
  simp only[yN]at h;split at h;rename_i y l j g;injection h with h;subst h;simp only[bP,bk.bkL,E3 hL j,QF g];cases h
theorem pu{x y:TA}(h:VK ids new m x=some y):bk (ids.map .whole) new (bY L x)=some (bY Lp y):=by cases x<;>grind [VK,E3,bY,bk,QF]
theorem ra: ∀{xs e:List TA},OQ ids new m xs=some e->bk.bkL (ids.map .whole) new (xs.map (bY L))=some (e.map (bY Lp))
 |[],e,h=>by injection h with h;subst h;rfl
 |x::r,e,h=>by
  simp only[OQ]at h;split at h;rename_i y l j g;injection h with h;subst h;simp only[bP,bk.bkL,pu hL j,ra g];cases h
theorem JHh{x y:TV}(h:k0 ids new m x=some y):bk (ids.map .whole) new (aT L x)=some (aT Lp y):=by cases x<;>grind [k0,pu,aT,bk,ra]
end
end Go.Am
end
section
namespace Go.Am
structure TG where
 go: ∀{R:Type},FuncId->List TA->List TB->(TV->List (Bool×TB)->Option R)->Option R
def qZ(out:List (Bool×TB)):Nat->Nat:=lns (out.map (·.2))
structure GOk(F:Orc)(G:TG):Prop where
 ok: ∀{R:Type} {f:FuncId} {xs:List TA} {bl:List TB} {kk:TV->List (Bool×TB)->Option R} {r:R},G.go f xs bl kk=some r->
  ∃v out,F f (xs.map (bY (lns bl))) (bl.map (bB (lns bl)))=some (aT (qZ out) v,out.map λx=>bB (qZ out) x.2)/\
   (∀(k:Nat) x,out[k]?=some (true,x)->k<bl.length->lnB x=lns bl k)/\kk v out=some r
def pM(ids:List Nat)(new m:Nat):Nat->List (Bool×TB)->Option (List (Nat×Bool×TB))|_,[]=>some []|k,(s,x)::r=>match fN ids new m k,yK ids new m x,pM ids new m (k+1) r with|some b,some y,some l=>some ((b,s&&decide (k<ids.length),y)::l)|_,_,_=>none
section
variable {R:Type}
def mn(e:Bool)(a b n:Nat):Bool:=if e=true then decide (a<=b/\b<=a+n)else decide (b=a+n)
theorem JDt{e:Bool}{a b n:Nat}(h:mn e a b n=true):(if e=true then a<=b/\b<=a+n else b=a+n)/\a<=b/\b<=a+n:=by
 grind [mn]
def EG(G:TG)(f:FuncId)(args:List (TV×Bool))(e:Bool)(n:Nat)(d:Option Nat)(new:Nat)(s:TSt)(kk:TSt->Option R):Option R:=
 KA args s λxs s1=>
 match EW xs []with
 |none=>none
 |some g=>match wL s1 g g with
  |none=>none
  |some i1=>match wL s1 i1 i1 with
   |none=>none
   |some ids=>if jT ids=true then
    match PI ids xs,xD ids s1 ids with
    |some j,some bl=>G.go f j bl λv out=>
     if mn e ids.length out.length n=true then
      match k0 ids new out.length v,pM ids new out.length 0 out with
      |some h,some ws=>if jT (ws.map (·.1))=true then kk (bD d h (nY ws s1))else none
      |_,_=>none
     else none
    |_,_=>none
    else none
theorem qu{ids:List Nat}{new m:Nat}{x y:TB}(h:yK ids new m x=some y):lnB y=lnB x:=by
 cases x with
 |dead=>cases h
 |box t x=>injection h with h;subst h;rfl
 |mbox t cs=>
  simp only[yK]at h;split at h;injection h with h;subst h;rfl;cases h
 |arr w t rows=>injection h with h;subst h;rfl
theorem sr{ids:List Nat}{new m:Nat}: ∀{k:Nat} {out:List (Bool×TB)} {ws:List (Nat×Bool×TB)},pM ids new m k out=some ws->
  ws.length=out.length/\ ∀(j:Nat) s x,out[j]?=some (s,x)-> ∃b y,fN ids new m (k+j)=some b/\yK ids new m x=some y/\ws[j]?=some (b,s&&decide (k+j<ids.length),y)
 |k,[],ws,h=>by injection h with h;simp_all
 |k,(s,x)::r,ws,h=>by
  simp only[pM]at h;split at h;rename_i b y l q o e;injection h with h;subst h;obtain⟨h1,h2⟩:=sr e;refine⟨by simp[h1],λj s' g n=>?_⟩;cases j<;>grind
  cases h
theorem JGC{l:List Nat}(h:jT l=true):l.Nodup:=SE h
theorem Gm{ids:List Nat}(h:jT ids=true):jT ((ids.map Ent.whole).map Ent.id)=true:=by rw[zH,show Ent.id∘Ent.whole=id from rfl,List.map_id];exact h
theorem r7{ids:List Nat}{new m:Nat}{L Lp:Nat->Nat}(hL: ∀k b,fN ids new m k=some b->Lp b=L k){ws0:List (Nat×Blk)}{st:St}: ∀{j:Nat} {es:List Nat} {out:List (Bool×TB)} {ws:List (Nat×Bool×TB)},
  (∀(i:Nat) b,es[i]?=some b->ids[j+i]?=some b)->j+es.length=ids.length->es.length<=out.length->pM ids new m j out=some ws->
  (jB ws0 (ids.map .whole) new (es.map .whole) (out.map λx=>bB L x.2)).run st=some ((ws.take es.length).map λx=>(x.1,bB Lp x.2.2))
 |j,[],out,ws,_,_,_,h=>by simp[jB]
 |j,b::es,[],ws,_,_,hl,h=>by simp at hl
 |j,b::es,(s,x)::out,ws,he,hj,hl,h=>by
  simp only[pM]at h;split at h;rename_i e y l r v n;injection h with h;subst h;have ih:=r7 hL (ws0:=ws0) (st:=st) (j:=j+1) (es:=es) (out:=out) (ws:=l) (λi c q=>by
   have:=he (i+1) c (by simpa using q);grind) (by grind) (by simpa using hl) n
  have g:e=b:=(by have h0:=he 0 b (by simp);grind [fN]);subst g;simp only[bP,jB,run_bind];have o:(tY ws0 (ids.map .whole) new (.whole e) (bB L x)).run st=some (e,bB Lp y):=by cases x<;>grind [EU,tY,gu,WC,bI,yK,LN,QF,XR]
  simp_all;cases h
theorem r5{ids:List Nat}{new m:Nat}{L Lp:Nat->Nat}(hL: ∀k b,fN ids new m k=some b->Lp b=L k): ∀{j:Nat} {out:List (Bool×TB)} {ws:List (Nat×Bool×TB)},
  pM ids new m (ids.length+j) out=some ws->iD (ids.map .whole) new (new+j) (out.map λx=>bB L x.2)=some (ws.map λx=>(x.1,bB Lp x.2.2))
 |j,[],ws,h=>by injection h with h;subst h;rfl
 |j,(s,x)::out,ws,h=>by
  simp only[pM]at h;split at h;rename_i o y l q e n;injection h with h;subst h;have ih:=r5 hL (j:=j+1) n;have g:o=new+j:=(by grind [fN]);subst g;cases x with
  |dead=>cases e
  |box t x=>injection e with e;grind [EU,iD,gu,WC]
  |mbox t cs=>
   grind [yK,LN,iD,QF]
  |arr w t rows=>injection e with e;grind [XR,iD]
  cases h
theorem vj{ids:List Nat}{new m:Nat}: ∀{n k:Nat} {out:List (Bool×TB)} {ws:List (Nat×Bool×TB)},pM ids new m k out=some ws->pM ids new m (k+n) (out.drop n)=some (ws.drop n)
 |0,k,out,ws,h=>h
 |n+1,k,[],ws,h=>by injection h with h;subst h;rfl
 |n+1,k,(s,x)::out,ws,h=>by
  simp only[pM]at h;split at h;rename_i b y l j g e;injection h with h;subst h;have:=vj (n:=n) e;grind;cases h
theorem SJ{F:Orc}{G:TG}(hG:GOk F G){f:FuncId}{args:List (TV×Bool)}{A:Bool}{n:Nat}{d:Option Nat}{new:Nat}{s:TSt}{kk:TSt->Option R}{r:R}
  (hd:oB s new n=true) (h:EG G f args A n d new s kk=some r):
  ∃xs ws B es z blks v res E fresh,(fR (args.map (·.2)) (args.map λx=>aT (lns s.sto) x.1)).run (JB s)=some (xs,ws)/\
   (eN ws (cS.entsOfL xs []) (cS.entsOfL xs [])).run (JB s)=some B/\(eN ws B B).run (JB s)=some es/\jT (es.map Ent.id)=true/\
   ren.renL (λe=>dY e es 0) xs=some z/\(lA ws (λe=>dY e es 0) es).run (JB s)=some blks/\F f z blks=some res/\
   (if A=true then es.length<=res.2.length/\res.2.length<=es.length+n else res.2.length=es.length+n)/\bk es new res.1=some v/\iD es new new (res.2.drop es.length)=some fresh/\
   (jB ws es new es res.2).run (JB s)=some E/\ ∃s',put d ⟨v,ws++E++fresh⟩ (JB s)=JB s'/\kk s'=some r:=by
 unfold EG at h;obtain⟨xs,s1,ws,h1,q,h⟩:=ek (Fzd.refl s) h;rw[lP]at q;split at h;cases h;rename_i i0 V;split at h;cases h;rename_i i1 S;split at h;cases h;rename_i ids M;split at h;rename_i Y;split at h;rename_i ys bl U L;obtain⟨v,out,hF,a1,h⟩:=hG.ok h;split at h;rename_i hlen;split at h;rename_i O g W o;split at h;rename_i N;have e0:cS.entsOfL (xs.map (bY (lns s.sto))) []=i0.map .whole:=RW (lns s.sto) (l:=[]) V;have e1:=AL q S;have e2:=AL q M;obtain⟨ak,Z⟩:=vw L;have hL: ∀b k,eX b ids 0=some k->lns bl k=lns s.sto b:=by intro b k P;obtain⟨_,P⟩:=RT P;rw[Z k b (by simpa using P),q.2.1]
 have e3:=th hL U;have e4:=vp hL q rfl L;obtain⟨b1,b2⟩:=sr o;have a6: ∀(j:Nat),qZ out j=match out[j]? with
   |some x=>lnB x.2
   |none=>0:=by
  intro j;unfold qZ lns;rw[gA];cases out[j]?<;>rfl
 have Q: ∀(k b:Nat),ids[k]?=some b->b<s1.sto.length:=by
  have al: ∀(C:List Nat) (bl:List TB),xD ids s1 C=some bl-> ∀(k b:Nat),C[k]?=some b->b<s1.sto.length:=by
   intro C
   induction C with
   |nil=>simp_all
   |cons c C ih=>
    grind [xD]
  grind
 have a4:s1.sto.length=s.sto.length:=(by have:=congrArg (λst=>st.sto.length) q.2.2.1;grind [JB,zY]);obtain⟨a3,K,a2⟩:=JDt hlen;have a0:=xE hd;have ab: ∀x∈g,∃(j:Nat) (T:Bool) (y:TB),out[j]?=some (T,y)/\fN ids new out.length j=some x.1/\yK ids new out.length y=some x.2.2/\x.2.1=(T&&decide (j<ids.length)):=by
  intro x hx;obtain⟨j,hj⟩:=mT hx;have w:j<out.length:=by grind
  obtain⟨b,y,q1,q2,I⟩:=b2 j (out[j]'w).1 (out[j]'w).2 (zQ9 w);rw[hj]at I;injection I with I;rw[lO]at q1 I;exact⟨j,_,_,zQ9 w,by simp_all,by simp_all,by rw[I];rfl⟩
 have H: ∀x∈g,x.1<s1.sto.length:=(by grind [fN,JA]);have J: ∀x∈g,x.2.1=true->lnB x.2.2=lns s1.sto x.1:=(by grind [qu,fN]);obtain⟨w1,w2⟩:=JIu (JGC N) H J;have D: ∀k b,fN ids new out.length k=some b->lns (nY g s1).sto b=qZ out k:=(by grind [fN,qu]);have e5:=JHh D W;have e6:=r7 D (ws0:=ws) (st:=JB s) (j:=0) (es:=ids) (out:=out) (ws:=g) (λi b hb=>by grind) (by omega) K o;have e7:=r5 D (j:=0) (out:=out.drop ids.length) (ws:=g.drop ids.length) (by have:=vj (n:=ids.length) o;grind);rw[yO]at e7;refine⟨xs.map (bY (lns s.sto)),ws,i1.map .whole,ids.map .whole,_,_,aT (lns (nY g s1).sto) O,_,_,(g.drop ids.length).map (λx=>(x.1,bB (lns (nY g s1).sto) x.2.2)),h1,?_,e2,Gm Y,e3,e4,hF,?_,e5,?_,e6,bD d O (nY g s1),?_,h⟩;grind;grind;grind [List.map_drop];refine rS ?_ d O;rw[w1,q.2.2.1];simp[fH];cases h;cases h;cases h;cases h;cases h
end
end Go.Am
end
section
namespace Go.Am
inductive TOp where
 |mv (x:TO)
 |mkarr (t:Ty) (x:TO)
 |pick (c a b:TO)
 |newbox (t:Ty)
 |box (t:Ty) (x:TO)
 |build (t:Ty) (parts:List (Nat×Ty×TO))
 |lits (own:Bool) (t:Ty) (n:Nat) (parts:List (Nat×TO))
 |load (agg:Bool) (t:Ty) (x:TO)
 |store (t:Ty) (x v:TO)
 |nilchk (x:TO)
 |bin (op:BinOp) (bt:TBT) (x y:TO)
 |un (op:UnOp) (x:TO)
 |conv (k:CK) (x:TO)
 |mkslice (own:Bool) (t:Ty) (bytes:Nat) (l c:TO)
 |slice (k:TSK) (x:TO) (lo hi mx:Option TO)
 |faddr (off:Nat) (x:TO)
 |field (agg:Bool) (off:Nat) (t:Ty) (x:TO)
 |iaddr (t:Ty) (x i:TO)
 |aaddr (len esz:Nat) (x i:TO)
 |sidx (x i:TO)
 |aidx (agg:Bool) (len:Nat) (t:Ty) (x i:TO)
 |extr (x:TO) (i:Nat)
 |call (f:FuncId) (args:List TO) (k:Nat)
 |callo (f:FuncId) (args:List (TO×Bool)) (k:Nat)
 |callv (g:TO) (args:List TO) (k:Nat)
 |len (str:Bool) (x:TO)
 |alen (n:Nat)
 |app (t:Ty) (bytes:Nat) (x y:TO)
 |appn (t:Ty) (bytes:Nat) (y:TO)
 |appz (t:Ty) (bytes:Nat) (x y:TO)
 |appc (t:Ty) (bytes:Nat) (x y:TO)
 |mm (mx:Bool) (x y:TO)
 |mkfn (f:FuncId) (first caps:List TO)
 |newboxo (t:Ty) (os:List (Nat×Ty))
 |buildo (t:Ty) (parts:List (Nat×Ty×TO)) (os:List (Nat×Ty))
 |storen (t:Ty) (x:TO)
def zer(t:Ty):List PV:=cel t t.zero
def erp:TOp->AOp
 | .mv x=>.mv (erO x)
 | .mkarr t x=>.mkarr t.sz (erO x)
 | .pick c a b=>.pick (erO c) (erO a) (erO b)
 | .newbox t=>.newbox (zer t)
 | .box t x=>.box t.sz (erO x)
 | .build t parts=>.build (zer t) (erP parts)
 | .lits own t n parts=>.lits own t.sz n (zer t) (parts.map λx=>(x.1,erO x.2))
 | .load agg t x=>.load agg t.sz (erO x)
 | .store t x v=>.store t.sz (erO x) (erO v)
 | .nilchk x=>.nilchk (erO x)
 | .bin op bt x y=>.bin op (erT bt) (erO x) (erO y)
 | .un op x=>.un op (erO x)
 | .conv k x=>.conv k (erO x)
 | .mkslice own t bytes l c=>.mkslice own t.sz bytes (zer t) (erO l) (erO c)
 | .slice k x lo hi mx=>.slice (erK k) (erO x) (lo.map erO) (hi.map erO) (mx.map erO)
 | .faddr off x=>.faddr off (erO x)
 | .field agg off t x=>.field agg off t.sz (erO x)
 | .iaddr t x i=>.iaddr t.sz (erO x) (erO i)
 | .aaddr len esz x i=>.aaddr len esz (erO x) (erO i)
 | .sidx x i=>.sidx (erO x) (erO i)
 | .aidx agg len t x i=>.aidx agg len t.sz (erO x) (erO i)
 | .extr x i=>.extr (erO x) i
 | .call f args k=>.call f (args.map erO) k
 | .callo f args k=>.callo f (args.map (·.2)) (args.map λx=>erO x.1) k
 | .callv g args k=>.callv (erO g) (args.map erO) k
 | .len str x=>.len str (erO x)
 | .alen n=>.alen n
 | .app t bytes x y=>.app t.sz bytes (zer t) (erO x) (erO y)
 | .appn t bytes y=>.appn t.sz bytes (zer t) (erO y)
 | .appz t bytes x y=>.appz t.sz bytes (zer t) (erO x) (erO y)
 | .appc t bytes x y=>.appc t.sz bytes (zer t) (erO x) (erO y)
 | .mm mx x y=>.mm mx (erO x) (erO y)
 | .mkfn f first caps=>.mkfn f (first.map erO) (caps.map erO)
 | .newboxo t os=>.newboxo (zer t) (lM os)
 | .buildo t parts os=>.buildo (zer t) (erP parts) (lM os)
 | .storen t x=>.storen t.sz (erO x)
def cG:TOp->Nat| .newbox _| .box _ _| .mkarr _ _| .appn _ _ _| .appc _ _ _ _=>1| .lits own _ _ _=>if own=true then 1 else 0| .mkslice own _ _ _ _=>if own=true then 1 else 0| .conv (.toBytes own) _=>if own=true then 1 else 0| .call _ _ k| .callv _ _ k| .callo _ _ k=>k| .newboxo _ os=>os.length+1| .buildo _ _ os=>os.length| .storen _ _=>1|_=>0
theorem LS(op:TOp):lR (erp op)=cG op:=by
 cases op<;>try rfl
 rename_i k x;cases k<;>rfl
 all_goals simp[erp,cG,lM]
def vY:List (TO×Bool)->TSt->Option (List (TV×Bool))|[],_=>some []|(o,x)::r,s=>match tev o s,vY r s with|some v,some l=>some ((v,x)::l)|_,_=>none
theorem AA{s:TSt}: ∀{xs:List (TO×Bool)} {l:List (TV×Bool)},vY xs s=some l->
  (evs (xs.map λx=>erO x.1)).run (JB s)=some (l.map λx=>aT (lns s.sto) x.1)/\l.map (·.2)=xs.map (·.2)
 |[],l,h=>by injection h with h;simp_all
 |(o,x)::q,l,h=>by
  simp only[vY]at h;split at h;rename_i v l' e g;injection h with h;subst h;obtain⟨h1,h2⟩:=AA g;exact⟨by simp only[bP,evs,run_bind,cA e,JI,h1,bI],by simp[h2]⟩;cases h
section
variable {R:Type}
def top(G:TG)(op:TOp)(d:Option Nat)(new:Nat)(s:TSt)(k:TSt->Option R):Option R:=
 match op with
 | .mv x=>match tev x s with|some v=>k (bD d v s)|none=>none
 | .mkarr t _=>Dm t d new s k
 | .pick c a b=>match tev c s with|some (.a (.c (.d .b x)))=>mu x (tev a s) (tev b s) λv=>k (bD d v s)|_=>none
 | .newbox t=>qq t d new s k
 | .box t x=>match tev x s with|some v=>kt t v d new s k|none=>none
 | .build t parts=>XZ t parts d s k
 | .lits own t n parts=>nc own t n parts d new s k
 | .load agg t x=>match tev x s with|some v=>m5 agg t v d s k|none=>none
 | .store t x y=>match tev x s,tev y s with|some v,some u=>XX t v u d s k|_,_=>none
 | .nilchk x=>match tev x s with|some v=>k6 v λv=>k (bD d v s)|none=>none
 | .bin op bt x y=>match tev x s,tev y s with|some v,some u=>lc op bt v u λv=>k (bD d v s)|_,_=>none
 | .un op x=>match tev x s with|some v=>tUn op v λv=>k (bD d v s)|none=>none
 | .conv c x=>match tev x s with|some v=>m7 c v d new s k|none=>none
 | .mkslice own t bytes l c=>match tev l s,tev c s with|some v,some u=>ZY own t bytes v u d new s k|_,_=>none
 | .slice e x lo hi mx=>match tev x s,tbn lo s,tbn hi s,tbn mx s with|some v,some a,some b,some c=>XK e v a b c d s k|_,_,_,_=>none
 | .faddr off x=>match tev x s with|some v=>YN off v λv=>k (bD d v s)|none=>none
 | .field agg off t x=>match tev x s with|some v=>YA agg off t v d s k|none=>none
 | .iaddr t x i=>match tev x s,tev i s with|some v,some u=>XY t v u s λv=>k (bD d v s)|_,_=>none
 | .aaddr len esz x i=>match tev x s,tev i s with|some v,some u=>YJ len esz v u λv=>k (bD d v s)|_,_=>none
 | .sidx x i=>match tev x s,tev i s with|some v,some u=>nk v u λv=>k (bD d v s)|_,_=>none
 | .aidx agg len t x i=>match tev x s,tev i s with|some v,some u=>l9 agg len t v u d s k|_,_=>none
 | .extr x i=>match tev x s with|some v=>m8 v i λv=>k (bD d v s)|none=>none
 | .call f args n=>match vY (args.map λx=>(x,false)) s with|some l=>EG G f l false n d new s k|none=>none
 | .callo f args n=>match vY args s with|some l=>EG G f l true n d new s k|none=>none
 | .callv g args n=>match tev g s,vY (args.map λx=>(x,false)) s with|some (.a (.fn f a c)),some l=>EG G f (a.map (λx=>(.a (.c x),false))++l++c.map (λx=>(.a (.c x),false))) false n d new s k|some (.a (.c (.fn f))),some l=>EG G f l false n d new s k|_,_=>none
 | .len str x=>match tev x s with|some v=>lx str v s λv=>k (bD d v s)|none=>none
 | .alen n=>k (bD d (vi .i64 n) s)
 | .app t bytes x y=>match tev x s,tev y s with|some v,some u=>TH t bytes v u d s k|_,_=>none
 | .appn t bytes y=>match tev y s with|some u=>md t bytes u d new s k|none=>none
 | .appz t bytes x y=>match tev x s,tev y s with|some v,some u=>mc t bytes v u d s k|_,_=>none
 | .appc t bytes x y=>match tev x s,tev y s with|some v,some u=>ng t bytes v u d new s k|_,_=>none
 | .mm mx x y=>match tev x s,tev y s with|some v,some u=>tMm mx v u λv=>k (bD d v s)|_,_=>none
 | .mkfn f first caps=>match tcl first s,tcl caps s with|some a,some c=>k (bD d (.a (.fn f a c)) s)|_,_=>none
 | .newboxo t os=>fh t os d new s k
 | .buildo t parts os=>ZU t parts os d new s k
 | .storen t x=>match tev x s with|some v=>ZM t v d new s k|none=>none
theorem da{F:Orc}{f:FuncId}{vs xs g:List AV}{ws:List (Nat×Blk)}{h es:List Ent}{blks:List Blk}{v:AV}{res:Res}{j fresh:List (Nat×Blk)}{n new:Nat}{st:St}
  (h1:(kT vs).run st=some (xs,ws)) (h2:(eN ws (cS.entsOfL xs []) (cS.entsOfL xs [])).run st=some h) (h3:(eN ws h h).run st=some es) (h4:jT (es.map Ent.id)=true)
  (h5:ren.renL (λe=>dY e es 0) xs=some g) (w:(lA ws (λe=>dY e es 0) es).run st=some blks) (q:F f g blks=some res) (r:res.2.length=es.length+n)
  (x:bk es new res.1=some v) (k:iD es new new (res.2.drop es.length)=some fresh) (o:(jB ws es new es res.2).run st=some j):
  (iQ F f vs n new).run st=some ⟨v,ws++j++fresh⟩:=by
 simp_all [iQ]
theorem JEy{F:Orc}{f:FuncId}{xs g:List AV}{ws:List (Nat×Blk)}{h es:List Ent}{blks:List Blk}{v:AV}{res:Res}{j fresh:List (Nat×Blk)}{n new:Nat}{st:St}
  (h2:(eN ws (cS.entsOfL xs []) (cS.entsOfL xs [])).run st=some h) (h3:(eN ws h h).run st=some es) (h4:jT (es.map Ent.id)=true)
  (h5:ren.renL (λe=>dY e es 0) xs=some g) (w:(lA ws (λe=>dY e es 0) es).run st=some blks) (q:F f g blks=some res) (r:es.length<=res.2.length/\res.2.length<=es.length+n)
  (x:bk es new res.1=some v) (k:iD es new new (res.2.drop es.length)=some fresh) (o:(jB ws es new es res.2).run st=some j):
  (gH F f (xs,ws) n new).run st=some ⟨v,ws++j++fresh⟩:=by
 simp_all [gH]
theorem QY(args:List TO):(args.map λx=>(x,false)).map (λx:TO×Bool=>erO x.1)=args.map erO:=by simp_all
theorem JJN{F:Orc}{G:TG}(K:GOk F G){op:TOp}{d:Option Nat}{new:Nat}{s:TSt}{k:TSt->Option R}{r:R}(hd:oB s new (cG op)=true)(h:top G op d new s k=some r):Ok (opR F (erp op) new) d s k r:=by
 have a3: ∀j,j<cG op->new+j<s.sto.length:=λj hj=>JA (xE hd j hj);unfold top at h;split at h;split at h;rename_i x _ v o;refine fV (v:=v) ?_ h;simp only[erp,opR,run_bind,cA o,JI,bI];cases h;exact JD3 F (by simp_all [cG]) h;split at h;rename_i hc;exact JGD F hc h;cases h;exact JB4 F (by have:=xE hd 0 (by simp[cG]);simp_all) h;split at h;rename_i o;exact JHl F (by have:=xE hd 0 (by simp[cG]);simp_all) o h;cases h;exact JDM F new h;rename_i own t n parts;exact JFh F (λY=>by simp_all [cG]) h;split at h;rename_i o;obtain⟨e,s',h1,h2,h3⟩:=JGB h;exact⟨e,s',by grind [erp,opR,run_bind,cA],h2,h3⟩;cases h;split at h;rename_i o q;obtain⟨e,s',h1,h2,h3⟩:=JD8 h;exact⟨e,s',by grind [erp,opR,run_bind,cA],h2,h3⟩;cases h;split at h;rename_i o;exact JHp F o h;cases h;split at h;rename_i o q;obtain⟨e,s',h1,h2,h3⟩:=(JI6 h).ok;exact⟨e,s',by grind [erp,opR,run_bind,cA],h2,h3⟩;cases h;split at h;rename_i o;obtain⟨e,s',h1,h2,h3⟩:=(JKi h).ok;exact⟨e,s',by grind [erp,opR,run_bind,cA],h2,h3⟩;cases h;split at h;rename_i o;exact JFv F o (λY=>by simp_all [cG]) h;cases h;split at h;rename_i o q;exact G3 F o q (λY=>by simp_all [cG]) h;cases h;split at h;rename_i h1 h2 h3 h4;exact JDE F h1 h2 h3 h4 h;cases h;split at h;rename_i o;obtain⟨e,s',h1,h2,h3⟩:=(JDC h).ok;exact⟨e,s',by grind [erp,opR,run_bind,cA],h2,h3⟩;cases h;split at h;rename_i o;obtain⟨e,s',h1,h2,h3⟩:=JDn h;exact⟨e,s',by grind [erp,opR,run_bind,cA],h2,h3⟩;cases h;split at h;rename_i o q;obtain⟨e,s',h1,h2,h3⟩:=JDk h;exact⟨e,s',by grind [erp,opR,run_bind,cA],h2,h3⟩;cases h;split at h;rename_i o q;obtain⟨e,s',h1,h2,h3⟩:=(JDQ h).ok;exact⟨e,s',by grind [erp,opR,run_bind,cA],h2,h3⟩;cases h;split at h;rename_i o q;exact JGR F o q h;cases h;split at h;rename_i o q;exact JFR F o q h;cases h;split at h;rename_i o;obtain⟨e,s',h1,h2,h3⟩:=(JGE h).ok;exact⟨e,s',by grind [erp,opR,run_bind,cA],h2,h3⟩;cases h;rename_i f args n;split at h;rename_i l E;obtain⟨B,L⟩:=AA E;rw[QY]at B;obtain⟨xs,ws,H,es,A,blks,v,res,C,fresh,D,V,U,S,Q,P,N,T,M,J,I,s',y,w⟩:=SJ K hd h;rw[MQ _ _ (λx Z=>by simp_all)]at D;refine⟨_,s',?_,y,w⟩;grind [erp,opR,run_bind,da,cG];cases h;rename_i f args n;split at h;rename_i l E;obtain⟨B,L⟩:=AA E;obtain⟨xs,ws,H,es,A,blks,v,res,C,fresh,D,V,U,S,Q,P,N,T,M,J,I,s',y,w⟩:=SJ K hd h;rw[L]at D;refine⟨_,s',?_,y,w⟩;simp_all [erp,JEy,cG];cases h;rename_i g args n;split at h;rename_i f a c l O E;obtain⟨B,L⟩:=AA E;rw[QY]at B;obtain⟨xs,ws,H,es,A,blks,v,res,C,fresh,D,V,U,S,Q,P,N,T,M,J,I,s',y,w⟩:=SJ K hd h;have W: ∀z:List TC,(z.map (λx=>((TV.a (.c x),false):TV×Bool))).map (λx=>aT (lns s.sto) x.1)=z.map (aY (lns s.sto)):=λz=>by rw[zH];rfl
 rw[MQ _ _ (λx Z=>by
  grind),yI,yI,W,W]at D
 refine⟨_,s',?_,y,w⟩;simp only[erp,opR,run_bind,cA O,JI,lf,B];grind [da,cG];rename_i f l O E;obtain⟨B,L⟩:=AA E;rw[QY]at B;obtain⟨xs,ws,H,es,A,blks,v,res,C,fresh,D,V,U,S,Q,P,N,T,M,J,I,s',y,w⟩:=SJ K hd h;rw[MQ _ _ (λx Z=>by simp_all)]at D;refine⟨_,s',?_,y,w⟩;simp only[erp,opR,run_bind,cA O,JI,Ck,B,lP,kO];grind [da,cG];cases h;split at h;rename_i o;obtain⟨e,s',h1,h2,h3⟩:=(JHj h).ok;exact⟨e,s',by grind [erp,opR,run_bind,cA],h2,h3⟩;cases h;rename_i n;exact fV (v:=vi .i64 n) rfl h;split at h;rename_i o q;obtain⟨e,s',h1,h2,h3⟩:=Eh h;exact⟨e,s',by grind [erp,opR,run_bind,cA],h2,h3⟩;cases h;split at h;rename_i q;exact JF3 F q (by simp_all [cG]) h;cases h;split at h;rename_i o q;exact JFP F o q h;cases h;split at h;rename_i o q;exact JFH F o q (by simp_all [cG]) h;cases h;split at h;rename_i o q;obtain⟨e,s',h1,h2,h3⟩:=(JKH h).ok;exact⟨e,s',by grind [erp,opR,run_bind,cA],h2,h3⟩;cases h;rename_i f first caps
 split at h;rename_i a c ha hc;refine fV (v:=.a (.fn f a c)) ?_ h;simp_all [erp,Ds,lf];cases h;exact G5 F hd h;exact JAX F hd h;split at h;rename_i o;exact JAW F (by have:=xE hd 0 (by simp[cG]);simp_all) o h;cases h
structure jN where
 op:TOp
 dst:Option Nat
 g:Option (Nat×Bool)
def eri(i:jN):cD:=⟨erp i.op,i.dst,i.g⟩
def rbE(g:Nat)(v:TV):List (Nat×TV)->List (Nat×TV)|[]=>[]|(m,u)::r=>if m=g then(m,v)::r else(m,u)::rbE g v r
def rb(g:Nat)(v:TV)(s:TSt):TSt:=⟨rbE g v s.env,s.sto⟩
theorem YF{g:Nat}{v:TV}{s:TSt}(h:tlk g s.env=some v):rb g v s=s:=by
 have e: ∀env:List (Nat×TV),tlk g env=some v->rbE g v env=env:=by
  intro env
  induction env with
  |nil=>intro h;cases h
  |cons x r ih=>
   grind [tlk,rbE]
 simp_all [rb]
def UR(G:TG)(i:jN)(new:Nat)(s:TSt)(k:TSt->Option R):Option R:=
 match i.g with
 |none=>if oB s new (cG i.op)=true then top G i.op i.dst new s k else none
 |some (g,e)=>match tlk g s.env with
  |some (.a (.c (.d .b x)))=>if x=e then
   (if oB s new (cG i.op)=true then top G i.op i.dst new (rb g (vb e) s) k else none)
   else k (bD i.dst uv (rb g (vb !e) s))
  |some (.tup [])=>k (bD i.dst uv s)
  |_=>none
theorem o8{F:Orc}{G:TG}(B:GOk F G){i:jN}{new:Nat}{s:TSt}{k:TSt->Option R}{r:R}(h:UR G i new s k=some r):Ok (cE F (eri i) new) i.dst s k r:=by
 have A: ∀{s:TSt},oB s new (cG i.op)=true->top G i.op i.dst new s k=some r->Ok (opD F (erp i.op) new) i.dst s k r:=(by intro s q h;obtain⟨e,s',h1,h2,h3⟩:=JJN B q h;refine⟨e,s',?_,h2,h3⟩;grind [opD,run_bind,LS,rp]);unfold UR at h;split at h;grind [cE,eri];rename_i g n z;split at h;rename_i x j;have o:lk g (JB s).env=some (.p (.b x)):=by show lk g (gG _ s.env)=_;rw[zV,j];rfl
 split at h;rename_i w;subst w;rw[YF j]at h;split at h;rename_i q;obtain⟨e,s',h1,h2,h3⟩:=A q h;refine⟨e,s',?_,h2,h3⟩;grind [cE,eri,xG];cases h;rename_i w;have y:x= !n:=by clear o j h;cases x<;>cases n<;>first|rfl|grind
 subst y;rw[YF j]at h;refine fV (v:=uv) ?_ h;simp only[cE,eri,z,xG,o,JI];rw[if_neg w];rfl;rename_i j;have o:lk g (JB s).env=some (.tup []):=by show lk g (gG _ s.env)=_;rw[zV,j];rfl
 refine fV (v:=uv) ?_ h;simp only[cE,eri,z,xG,o,JI,bI];rfl;cases h
def VD(G:TG):List jN->Nat->TSt->(TSt->Option R)->Option R|[],_,s,k=>k s|i::r,new,s,k=>UR G i new s λs=>VD G r (new+cG i.op) s k
theorem qe{F:Orc}{G:TG}(g:GOk F G): ∀{ins:List jN} {new:Nat} {s:TSt} {k:TSt->Option R} {r:R},VD G ins new s k=some r-> ∃s',gO F (ins.map eri) new (JB s)=some (JB s')/\k s'=some r
 |[],new,s,k,r,h=>⟨s,rfl,h⟩
 |i::q,new,s,k,r,h=>by
  simp only[VD]at h;obtain⟨e,s1,h1,h2,h⟩:=o8 g h;obtain⟨j,h3,n⟩:=qe g h;grind [gO,eri,LS]
def KM:List jN->Nat|[]=>0|i::r=>cG i.op+KM r
theorem fj: ∀ins:List jN,news (ins.map eri)=KM ins
 |[]=>rfl
 |i::r=>by
  simp only[bP,news,KM,fj r];grind [eri,LS]
def OL(n:Nat)(s:TSt):TSt:=if n=0 then s else⟨s.env,s.sto++List.replicate n .dead⟩
theorem I6(sto:List TB)(n:Nat):lns (sto++List.replicate n .dead)=lns sto:=by
 funext c
 unfold lns;rcases zQ3 c sto.length with h|h;grind;rw[mM h,kS h,List.getElem?_replicate];split<;>rfl
theorem sd(n:Nat)(s:TSt):JB (OL n s)=⟨(JB s).env,room n (JB s).sto⟩:=by
 unfold OL room;split;rfl;unfold JB;rw[I6];simp only[yI,zE];rfl
end
end Go.Am
end
section
namespace Go.Am
def Rb{α:Type}(S:Nat->Prop)(m:RM α)(st:St):Prop:= ∀b,Loc.blk b∈m.reads st->S b
section
variable {α β:Type} {S:Nat->Prop} {st:St}
theorem bU(a:α):Rb S (.ret a) st:=λb h=>by simp[RM.reads]at h
theorem bH:Rb S (.fail:RM α) st:=λb h=>by simp[RM.reads]at h
theorem bZ{m:RM α}{f:α->RM β}(h:Rb S m st)(hf: ∀a,m.run st=some a->Rb S (f a) st):Rb S (m.bind f) st:=by
 intro b e;rw[xM]at e;rcases cK.1 e with e|e;exact h b e;cases hm:m.run st with
 |none=>rw[hm]at e;simp at e
 |some a=>rw[hm]at e;exact hf a hm b (by simpa using e)
theorem pW{b:Nat}{k:Blk->RM α}(hb:S b)(h: ∀v,st.sto[b]?=some v->Rb S (k v) st):Rb S (.blk b k) st:=by
 intro c e;simp only[RM.reads,eR]at e;rcases e with e|e;injection e with e;subst e;exact hb;cases hv:st.sto[b]? with
 |none=>rw[hv]at e;simp at e
 |some v=>rw[hv]at e;exact h v hv c e
theorem ph{n:Nat}{k:AV->RM α}(h: ∀v,lk n st.env=some v->Rb S (k v) st):Rb S (.slot n k) st:=by
 intro c e;simp only[RM.reads,eR]at e;rcases e with e|e;cases e;cases hv:lk n st.env with
 |none=>rw[hv]at e;simp at e
 |some v=>rw[hv]at e;exact h v hv c e
theorem PP(x:Option AV):Rb S (val x) st:=by cases x<;>first|exact bH|exact bU _
theorem kU(x:Opd):Rb S (ev x) st:=by cases x<;>first|exact bU _|exact ph λv _=>bU v
theorem YP: ∀xs:List Opd,Rb S (evs xs) st|[]=>bU _|x::r=>bZ (kU x) λv _=>bZ (YP r) λvs _=>bU _
theorem XU(x:Option Opd):Rb S (evo x) st:=by
 cases x with
 |none=>exact bU _
 |some x=>exact bZ (kU x) λv _=>bU _
end
def fZ:AV->List Nat| .ptr b _=>[b]| .slr b _ _=>[b]| .ep b _ _ _=>[b]|_=>[]
def avR:AV->List Nat| .agg cs=>cs.flatMap fZ|x=>fZ x
section
variable {S:Nat->Prop} {st:St}
theorem JIK{x:AV}(h: ∀b∈fZ x,S b):Rb S (fz.fz1 x) st:=by
 cases x with
 |slr b i n=>
  refine pW (h b (by simp[fZ])) λv _=>?_;cases v with
  |arr w esz rows=>dsimp only;split<;>first|exact bU _|exact bH
  |_=>exact bH
 |p c=>exact bU _
 |_=>exact bH
theorem C7: ∀{xs:List AV},(∀b∈xs.flatMap fZ,S b)->Rb S (fz.fzL xs) st|[],_=>bU _|x::r,h=>bZ (JIK λb e=>h b (by simp[e])) λa _=>bZ (C7 λb e=>h b (by simp only[List.flatMap_cons,cK];exact .inr e)) λc _=>bU _
theorem IW{x:AV}(h: ∀b∈avR x,S b):Rb S (fz x) st:=by
 cases x with
 |slr b i n=>
  refine pW (h b (by simp[avR,fZ])) λv _=>?_;cases v with
  |arr w esz rows=>dsimp only;split<;>first|exact bU _|exact bH
  |_=>exact bH
 |p c=>exact bU _
 |data cs=>exact bU _
 |agg cs=>exact C7 h
 |_=>exact bH
theorem JKr{x:AV}{a:List PV×List (Nat×Blk)}(h:(fz.fz1 x).run st=some a): ∀y∈a.2,y.1∈fZ x:=by
 cases x with
 |slr b i n=>
  simp only[fz.fz1,eU]at h;obtain⟨v,_,h⟩:=cR.1 h;cases v with
  |arr w esz rows=>
   dsimp only at h;split at h;injection h with h;subst h;simp[fZ];cases h
  |_=>cases h
 |p c=>injection h with h;subst h;simp
 |_=>cases h
theorem Ec: ∀{xs:List AV} {a:List PV×List (Nat×Blk)},(fz.fzL xs).run st=some a-> ∀y∈a.2,y.1∈xs.flatMap fZ
 |[],a,h,y,g=>by injection h with h;subst h;simp at g
 |x::r,a,h,y,g=>by
  simp only[fz.fzL]at h;obtain⟨c,h1,h⟩:=bind_some h;obtain⟨e,h2,h⟩:=bind_some h;injection h with h;subst h;simp only[cK]at g;simp only[List.flatMap_cons,cK];rcases g with g|g;exact .inl (JKr h1 y g);exact .inr (Ec h2 y g)
theorem KB{x:AV}{a:List PV×List (Nat×Blk)}(h:(fz x).run st=some a): ∀y∈a.2,y.1∈avR x:=by
 cases x with
 |slr b i n=>
  simp only[fz,eU]at h;obtain⟨v,_,h⟩:=cR.1 h;cases v with
  |arr w esz rows=>
   dsimp only at h;split at h;injection h with h;subst h;simp[avR,fZ];cases h
  |_=>cases h
 |p c=>injection h with h;subst h;simp
 |data cs=>injection h with h;subst h;simp
 |agg cs=>exact Ec h
 |_=>cases h
theorem ZN{esz:Nat}{x:AV}(h: ∀b∈avR x,S b):Rb S (dH esz x) st:=by
 unfold dH;split;split<;>first|exact bU _|exact bH
 split<;>first|exact bU _|exact bH
 refine pW (h _ (by simp[avR,fZ])) λv _=>?_;split;split<;>first|exact bU _|exact bH
 exact bH;exact bH
theorem JHS{agg:Bool}{size:Nat}{x:AV}(h: ∀b∈avR x,S b):Rb S (gX agg size x) st:=by
 unfold gX;split;split<;>first|exact PP _|exact bH
 refine pW (h _ (by simp[avR,fZ])) λv _=>?_;split;split<;>first|exact PP _|exact bH
 exact bH;refine pW (h _ (by simp[avR,fZ])) λv _=>?_;split;split;split;split<;>first|exact PP _|exact bH
 exact bH;exact bH;exact bH;exact bH
theorem PM{x:Option AV}{e:Eff}(h:(val x).run st=some e):e.ws=[]:=by
 cases x with
 |none=>cases h
 |some v=>injection h with h;subst h;rfl
theorem JHI{agg:Bool}{size:Nat}{x:AV}{e:Eff}(h:(gX agg size x).run st=some e):e.ws=[]:=by
 unfold gX at h;split at h;split at h<;>first|exact PM h|cases h
 simp only[eU]at h;obtain⟨v,_,h⟩:=cR.1 h;split at h;split at h<;>first|exact PM h|cases h
 cases h;simp only[eU]at h;obtain⟨v,_,h⟩:=cR.1 h;split at h;split at h;split at h;split at h<;>first|exact PM h|cases h
 cases h;cases h;cases h;cases h
theorem JGf{size:Nat}{x v:AV}(h: ∀b∈avR x,S b)(hv: ∀b∈avR v,S b):Rb S (iS size x v) st:=by
 unfold iS;split;refine pW (h _ (by simp[avR,fZ])) λy _=>?_;split;split;split;split<;>first|exact bU _|exact bH
 exact bH;exact bH;exact bH;refine pW (h _ (by simp[avR,fZ])) λy _=>?_;split;split;split;refine bZ (IW hv) λa _=>?_;split;split<;>first|exact bU _|exact bH
 exact bH;exact bH;exact bH;exact bH;exact bH
theorem JGL{size:Nat}{x v:AV}{e:Eff}(h:(iS size x v).run st=some e): ∀y∈e.ws,y.1∈avR x++avR v:=by
 unfold iS at h;split at h;simp only[eU]at h;obtain⟨w,_,h⟩:=cR.1 h;split at h;split at h;split at h;split at h;injection h with h;subst h;simp[avR,fZ];cases h;cases h;cases h;cases h;simp only[eU]at h;obtain⟨w,_,h⟩:=cR.1 h;split at h;split at h;split at h;obtain⟨a,h1,h⟩:=bind_some h;split at h;split at h;injection h with h;subst h;intro y g;simp only[cK,jK]at g⊢;rcases g with g|rfl;exact .inr (KB h1 y g);exact .inl (by simp[avR,fZ]);cases h;cases h;cases h;cases h;cases h;cases h
theorem JEB{esz:Nat}{x i:AV}(h: ∀b∈avR x,S b):Rb S (mV esz x i) st:=by
 unfold mV;split;split;split<;>first|exact bU _|exact bH
 exact bH;refine pW (h _ (by simp[avR,fZ])) λv _=>?_;split;split<;>first|exact bU _|exact bH
 exact bH;exact bH
theorem JGG{esz:Nat}{x i:AV}{e:Eff}(h:(mV esz x i).run st=some e):e.ws=[]:=by
 unfold mV at h;split at h;split at h;split at h;injection h with h;subst h;rfl;cases h;cases h;simp only[eU]at h;obtain⟨v,_,h⟩:=cR.1 h;split at h;split at h;injection h with h;subst h;rfl;cases h;cases h;cases h
theorem JKt{esz bytes:Nat}{x y:AV}(h: ∀b∈avR x,S b)(hy: ∀b∈avR y,S b):Rb S (iX esz bytes x y) st:=by
 unfold iX;split;refine pW (h _ (by simp[avR,fZ])) λv _=>?_;split;refine bZ (ZN hy) λnew _=>?_;split<;>first|exact bU _|exact bH
 exact bH;exact bH
theorem JJt{esz bytes:Nat}{x y:AV}{e:Eff}(h:(iX esz bytes x y).run st=some e): ∀z∈e.ws,z.1∈avR x:=by
 unfold iX at h;split at h;simp only[eU]at h;obtain⟨v,_,h⟩:=cR.1 h;split at h;obtain⟨new,_,h⟩:=bind_some h;split at h;injection h with h;subst h;simp[avR,fZ];cases h;cases h;cases h
theorem pd: ∀{k new:Nat},(∀j,j<k->S (new+j))->Rb S (tR new k) st
 |0,_,_=>bU _
 |k+1,new,h=>pW (h 0 (by omega)) λv _=>by
  cases v with
  |dead=>exact pd λj e=>by have:=h (j+1) (by omega);rwa[Nat.add_comm j 1,<-HF]at this
  |_=>exact bH
theorem Dt: ∀{xs:List Opd},(∀x∈xs,∀v,(ev x).run st=some v-> ∀b∈avR v,S b)->Rb S (fzs xs) st|[],_=>bU _|x::r,h=>bZ (kU x) λv e=>bZ (IW (h x (by simp) v e)) λa _=>bZ (Dt λy g=>h y (by simp[g])) λc _=>bU _
theorem YM: ∀{xs:List Opd} {a:List (List PV)×List (Nat×Blk)},(∀x∈xs,∀v,(ev x).run st=some v-> ∀b∈avR v,S b)->(fzs xs).run st=some a-> ∀y∈a.2,S y.1
 |[],a,_,h,y,g=>by injection h with h;subst h;simp at g
 |x::r,a,j,h,y,g=>by
  simp only[fzs]at h;obtain⟨v,h0,h⟩:=bind_some h;obtain⟨c,h1,h⟩:=bind_some h;obtain⟨e,h2,h⟩:=bind_some h;injection h with h;subst h;simp only[cK]at g;rcases g with g|g;exact j x (by simp) v h0 _ (KB h1 y g);exact YM (λz k=>j z (by simp[k])) h2 y g
theorem Ew{x:AV}(h: ∀b∈avR x,S b):Rb S (jJ x) st:=by
 cases x with
 |slr b i n=>refine bZ (IW h) λa _=>?_;split<;>first|exact bU _|exact bH
 |agg cs=>exact bZ (IW h) λa _=>bU _
 |tup cs=>exact bH
 |_=>exact bU _
theorem qh{x:AV}{a:AV×List (Nat×Blk)}(h:(jJ x).run st=some a): ∀y∈a.2,y.1∈avR x:=by
 cases x with
 |slr b i n=>
  simp only[jJ]at h;obtain⟨c,h1,h⟩:=bind_some h;split at h;injection h with h;subst h;exact KB h1;cases h
 |agg cs=>simp only[jJ]at h;obtain⟨c,h1,h⟩:=bind_some h;injection h with h;subst h;exact KB h1
 |tup cs=>cases h
 |_=>injection h with h;subst h;simp
theorem MB: ∀{m:List Bool} {xs:List AV},(∀x∈xs,∀b∈avR x,S b)->Rb S (fR m xs) st|_,[],_=>by unfold fR;exact bU _|[],x::r,h=>bZ (Ew (h x (by simp))) λa _=>bZ (MB λy e=>h y (by simp[e])) λc _=>bU _|true::m,x::r,h=>bZ (MB λy e=>h y (by simp[e])) λc _=>bU _|false::m,x::r,h=>bZ (Ew (h x (by simp))) λa _=>bZ (MB λy e=>h y (by simp[e])) λc _=>bU _
theorem MD: ∀{m:List Bool} {xs:List AV} {a:List AV×List (Nat×Blk)},(∀x∈xs,∀b∈avR x,S b)->(fR m xs).run st=some a-> ∀y∈a.2,S y.1
 |m,[],a,_,h,y,g=>by unfold fR at h;injection h with h;subst h;simp at g
 |[],x::r,a,j,h,y,g=>by
  simp only[fR]at h;obtain⟨c,h1,h⟩:=bind_some h;obtain⟨e,h2,h⟩:=bind_some h;injection h with h;subst h;simp only[cK]at g;rcases g with g|g;exact j x (by simp) _ (qh h1 y g);exact MD (λz k=>j z (by simp[k])) h2 y g
 |true::m,x::r,a,j,h,y,g=>by simp only[fR]at h;obtain⟨e,h2,h⟩:=bind_some h;injection h with h;subst h;exact MD (λz k=>j z (by simp[k])) h2 y g
 |false::m,x::r,a,j,h,y,g=>by
  simp only[fR]at h;obtain⟨c,h1,h⟩:=bind_some h;obtain⟨e,h2,h⟩:=bind_some h;injection h with h;subst h;simp only[cK]at g;rcases g with g|g;exact j x (by simp) _ (qh h1 y g);exact MD (λz k=>j z (by simp[k])) h2 y g
theorem Et{ws:List (Nat×Blk)}{b:Nat}(h:S b):Rb S (qW ws b) st:=pW h λv _=>by split<;>exact bU _
theorem ZT{ws:List (Nat×Blk)}: ∀{r:List Nat} {acc:List Ent},(∀b∈r,S b)->Rb S (eN ws (r.map .whole) acc) st|[],acc,_=>bU _|b::r,acc,h=>by simp only[bP,eN];refine bZ (Et (h b (by simp))) λx _=>?_;cases x<;>exact ZT λc e=>h c (by simp[e])
theorem ub{ws:List (Nat×Blk)}{ρ:Ent->Option Nat}: ∀{r:List Nat},(∀b∈r,S b)->Rb S (lA ws ρ (r.map .whole)) st
 |[],_=>bU _
 |b::r,h=>by
  simp only[bP,lA,zL];refine bZ (bZ (Et (h b (by simp))) λx _=>?_) λx _=>bZ (ub λc g=>h c (by simp[g])) λl _=>bU _;cases x with
  |box cs=>dsimp only;split<;>first|exact bU _|exact bH
  |arr w e rows=>exact bU _
  |dead=>exact bH
theorem uu{ws:List (Nat×Blk)}{es:List Ent}{new:Nat}: ∀{r:List Nat} {l:List Blk},Rb S (jB ws es new (r.map .whole) l) st
 |[],l=>by cases l<;>exact bU _
 |b::r,[]=>bH
 |b::r,x::l=>by
  simp only[bP,jB];refine bZ ?_ λy _=>bZ uu λg _=>bU _;cases x with
  |box cs=>simp only[tY];split<;>first|exact bU _|exact bH
  |arr w e rows=>exact bU _
  |dead=>exact bH
theorem uy{ws:List (Nat×Blk)}{es:List Ent}{new:Nat}: ∀{r:List Nat} {l:List Blk} {g:List (Nat×Blk)},(jB ws es new (r.map .whole) l).run st=some g-> ∀y∈g,y.1∈r
 |[],l,g,h,y,j=>by
  have:g=[]:=by cases l<;>(injection h with h;exact h.symm)
  subst this;simp at j
 |b::r,[],g,h,_,_=>by cases h
 |b::r,x::l,g,h,y,j=>by
  simp only[bP,jB]at h;obtain⟨z,h1,h⟩:=bind_some h;obtain⟨k,h2,h⟩:=bind_some h;injection h with h;subst h;rcases eR.1 j with rfl|j;cases x with
  |box cs=>
   simp only[tY]at h1;split at h1;injection h1 with h1;subst h1;simp;cases h1
  |arr w e rows=>injection h1 with h1;subst h1;simp
  |dead=>cases h1
  exact yQ _ (uy h2 y j)
theorem gy{es:List Ent}{new:Nat}: ∀{l:List Blk} {k:Nat} {n:List (Nat×Blk)},iD es new k l=some n-> ∀y∈n,∃j,j<l.length/\y.1=k+j
 |[],k,n,h,y,g=>by injection h with h;subst h;simp at g
 | .dead::l,k,n,h,_,_=>by cases h
 | .box cs::l,k,n,h,y,g=>by
  simp only[iD]at h;split at h;rename_i c q _ o;injection h with h;subst h;rcases eR.1 g with rfl|g;exact⟨0,by simp,rfl⟩;obtain⟨j,r,e⟩:=gy o y g;exact⟨j+1,by simp;omega,by omega⟩;cases h
 | .arr w e rows::l,k,n,h,y,g=>by
  simp only[iD]at h;split at h;rename_i q o;injection h with h;subst h;rcases eR.1 g with rfl|g;exact⟨0,by simp,rfl⟩;obtain⟨j,r,e⟩:=gy o y g;exact⟨j+1,by simp;omega,by omega⟩;cases h
theorem ft(e x:Ent)(l:List Ent)(h:e∈l):e∈wW x l:=by unfold wW;split<;>simp[h]
mutual
theorem JGv: ∀(x:AV) (l:List Ent) (e:Ent),e∈l->e∈cS x l| .ptr b off,l,e,h=>ft e _ l h| .slr b i n,l,e,h=>ft e _ l h| .ep b g i off,l,e,h=>ft e _ l h| .fn f a c,l,e,h=>entsL_sub c _ e (entsL_sub a l e h)| .agg cs,l,e,h=>entsL_sub cs l e h| .tup cs,l,e,h=>entsL_sub cs l e h| .p _,l,e,h=>h| .data _,l,e,h=>h| .cp _ _,l,e,h=>h| .unk,l,e,h=>h
theorem entsL_sub: ∀(xs:List AV) (l:List Ent) (e:Ent),e∈l->e∈cS.entsOfL xs l|[],l,e,h=>h|x::r,l,e,h=>entsL_sub r _ e (JGv x l e h)
end
theorem r6{ws:List (Nat×Blk)}: ∀{r acc l:List Ent},(eN ws r acc).run st=some l-> ∀e∈acc,e∈l:=by
 intro r
 induction r with
 |nil=>intro acc l h e g;injection h with h;subst h;exact g
 |cons x r ih=>
  intro acc l h e g;cases x with
  |whole b=>
   simp only[eN]at h;obtain⟨y,_,h⟩:=bind_some h;cases y with
   |box cs=>exact ih h e (entsL_sub cs acc e g)
   |_=>exact ih h e g
  |elem b j i=>exact ih h e g
theorem tu{F:Orc}{f:FuncId}{xs:List AV}{ws:List (Nat×Blk)}{e0 o ids:List Nat}{n new:Nat}(r: ∀b∈ids,S b)(hw: ∀y∈ws,S y.1)(hn: ∀j,j<n->S (new+j))
  (h0:cS.entsOfL xs []=e0.map .whole) (h1:(eN ws (e0.map .whole) (e0.map .whole)).run st=some (o.map .whole)) (h2:(eN ws (o.map .whole) (o.map .whole)).run st=some (ids.map .whole)):
  Rb S (gH F f (xs,ws) n new) st/\(∀e,(gH F f (xs,ws) n new).run st=some e-> ∀y∈e.ws,S y.1):=by
 have s1: ∀b∈o,S b:=λb q=>by have:=r6 h2 (.whole b) (jM.2 ⟨b,q,rfl⟩);obtain⟨c,w,e⟩:=jM.1 this;injection e with e;subst e;exact r c w
 have s0: ∀b∈e0,S b:=λb q=>by have:=r6 h1 (.whole b) (jM.2 ⟨b,q,rfl⟩);obtain⟨c,w,e⟩:=jM.1 this;injection e with e;subst e;exact s1 c w
 constructor;unfold gH;simp only[h0];refine bZ (ZT s0) λa g=>?_;rw[h1]at g;injection g with g;subst g;refine bZ (ZT s1) λa g=>?_;rw[h2]at g;injection g with g;subst g;split;split;exact bH;refine bZ (ub r) λbl _=>?_;split;exact bH;split;split;exact bZ uu λ_ _=>bU _;exact bH;exact bH;exact bH;intro e h y k;unfold gH at h;simp only[h0]at h;obtain⟨a,g,h⟩:=bind_some h;rw[h1]at g;injection g with g;subst g;obtain⟨a,g,h⟩:=bind_some h;rw[h2]at g;injection g with g;subst g;split at h;split at h;cases h;obtain⟨bl,_,h⟩:=bind_some h;split at h;cases h;split at h;rename_i hlen;split at h;rename_i v fresh _ z;obtain⟨x,q,h⟩:=bind_some h;injection h with h;subst h;simp only[cK]at k;rcases k with(k|k)|k;exact hw y k;exact r _ (uy q y k);obtain⟨j,A,e⟩:=gy z y k;rw[e];exact hn j (by simp only[rA,fE]at A hlen;omega);cases h;cases h;cases h
end
def tcR:TC->List Nat| .ptr b _=>[b]| .slr b=>[b]| .slo b _=>[b]| .ep b _ _=>[b]| .epo b _ _ _=>[b]|_=>[]
def tvR:TV->List Nat| .a (.c x)=>tcR x| .a (.m _ cs)=>cs.flatMap tcR|_=>[]
theorem JK0(L:Nat->Nat)(x:TC):fZ (aY L x)=tcR x:=by cases x<;>rfl
theorem jU(L:Nat->Nat)(v:TV):avR (aT L v)=tvR v:=by
 cases v with
 |a x=>
  cases x with
  |c x=>cases x<;>rfl
  |dt t x=>rfl
  |m t cs=>
   show(cs.map (aY L)).flatMap fZ=cs.flatMap tcR;rw[List.flatMap_map]
   congr 1
   funext x;exact JK0 L x
  |fn f a c=>rfl
 |tup vs=>rfl
def rng(new:Nat):Nat->List Nat|0=>[]|k+1=>new::rng (new+1) k
theorem rW: ∀{k new j:Nat},j<k->new+j∈rng new k
 |0,_,_,h=>by omega
 |k+1,new,j,h=>by
  cases j with
  |zero=>simp[rng]
  |succ j=>simp only[rng,eR];right;rw[show new+(j+1)=new+1+j by omega];exact rW (by omega)
def iM{α β:Type}(m:Option α)(f:α->Option β):Option β:=match m with|some x=>f x|none=>none
theorem iT{α β:Type}{m:Option α}{f:α->Option β}{b:β}(h:iM m f=some b): ∃a,m=some a/\f a=some b:=by
 cases m with
 |none=>cases h
 |some a=>exact⟨a,rfl,h⟩
def lw(l:List (TV×Bool))(s:TSt):Option (List Nat):=KA l s λxs s1=>iM (EW xs []) λe=>iM (wL s1 e e) λi1=>wL s1 i1 i1
def tcU(l:List (TV×Bool))(n new:Nat)(s:TSt):Option (List Nat×List Nat):=iM (lw l s) λids=>some (rng new n++(l.flatMap λx=>tvR x.1)++ids,rng new n++(l.flatMap λx=>tvR x.1)++ids)
def tpR(s:TSt):List (Nat×TO)->Option (List Nat)|[]=>some []|(_,o)::r=>iM (tev o s) λv=>iM (tpR s r) λl=>some (tvR v++l)
def uw(op:TOp)(new:Nat)(s:TSt):Option (List Nat×List Nat):=
 match op with
 | .load _ _ x=>iM (tev x s) λv=>some (tvR v,[])
 | .newbox _=>some ([new],[new])
 | .store _ x y=>iM (tev x s) λv=>iM (tev y s) λu=>some (tvR v++tvR u,tvR v++tvR u)
 | .iaddr _ x _=>iM (tev x s) λv=>some (tvR v,[])
 | .lits own t n ps=>iM (tpR s ps) λl=>some (rng new (cG (.lits own t n ps))++l,rng new (cG (.lits own t n ps))++l)
 | .appn _ _ y=>iM (tev y s) λv=>some (new::tvR v,[new])
 | .app _ _ x y=>iM (tev x s) λv=>iM (tev y s) λu=>some (tvR v++tvR u,tvR v)
 | .slice _ x _ _ _=>iM (tev x s) λv=>some (tvR v,tvR v)
 | .call _ args n=>iM (vY (args.map λx=>(x,false)) s) λl=>tcU l n new s
 | .callo _ args n=>iM (vY args s) λl=>tcU l n new s
 | .mkslice own t bytes l c=>some (rng new (cG (.mkslice own t bytes l c)),rng new (cG (.mkslice own t bytes l c)))
 | .conv k x=>iM (tev x s) λv=>some (rng new (cG (.conv k x))++tvR v,rng new (cG (.conv k x)))
 |_=>none
theorem oH{F:Orc}{op:TOp}{new:Nat}{st:St}{S:Nat->Prop}(hd: ∀j,j<cG op->S (new+j))(h:Rb S (opR F (erp op) new) st):Rb S (opD F (erp op) new) st:=by unfold opD;rw[LS];exact bZ (pd hd) λ_ _=>h
theorem oN{F:Orc}{op:AOp}{new:Nat}{st:St}{e:Eff}(h:(opD F op new).run st=some e):(opR F op new).run st=some e:=by unfold opD at h;obtain⟨_,_,h⟩:=bind_some h;exact h
def UW(F:Orc)(op:AOp)(new:Nat)(st:St)(U W:List Nat):Prop:=Rb (· ∈U) (opD F op new) st/\ ∀e,(opD F op new).run st=some e-> ∀y∈e.ws,y.1∈W
theorem lV{x:TO}{s:TSt}{v:TV}(h:tev x s=some v){a:AV}(ha:(ev (erO x)).run (JB s)=some a):a=aT (lns s.sto) v:=by rw[cA h]at ha;injection ha with ha;exact ha.symm
theorem Ep{l:List (TV×Bool)}{s:TSt}{ids:List Nat}(h:lw l s=some ids): ∃(xs:List AV) (ws:List (Nat×Blk)) (e i1:List Nat),(fR (l.map (·.2)) (l.map λx=>aT (lns s.sto) x.1)).run (JB s)=some (xs,ws)/\
  cS.entsOfL xs []=e.map .whole/\(eN ws (e.map .whole) (e.map .whole)).run (JB s)=some (i1.map .whole)/\(eN ws (i1.map .whole) (i1.map .whole)).run (JB s)=some (ids.map .whole):=by
 unfold lw at h;obtain⟨xs,s1,ws,h1,g,h⟩:=ek (Fzd.refl s) h;rw[lP]at g;obtain⟨e,h2,h⟩:=iT h;obtain⟨i1,h3,j⟩:=iT h;exact⟨_,ws,e,i1,h1,RW (lns s.sto) (l:=[]) h2,AL g h3,AL g j⟩
theorem JGi{F:Orc}{f:FuncId}{vs:List AV}{n new:Nat}{st:St}{S:Nat->Prop}{a:List AV×List (Nat×Blk)}(ha:(kT vs).run st=some a)(hr:Rb S (kT vs) st)
  (h: ∀(_:Unit),Rb S (gH F f a n new) st):Rb S (iQ F f vs n new) st:=by
 unfold iQ;refine bZ hr λo j=>?_;rw[ha]at j;injection j with j;subst j;have h:=h ();unfold gH at h;intro b g;refine h b ?_
 revert g
 simp only[xM];intro g;rcases cK.1 g with g|g;exact cK.2 (.inl g);refine cK.2 (.inr ?_)
 revert g
 cases(eN a.2 (cS.entsOfL a.1 []) (cS.entsOfL a.1 [])).run st with
 |none=>intro g;exact g
 |some k=>
  simp only[dU,UQ,xM];intro g;rcases cK.1 g with g|g;exact cK.2 (.inl g);refine cK.2 (.inr ?_)
  revert g
  cases(eN a.2 k k).run st with
  |none=>intro g;exact g
  |some es=>
   simp only[dU,UQ];split;split;intro g;exact g;simp only[xM];intro g;rcases cK.1 g with g|g;exact cK.2 (.inl g);refine cK.2 (.inr ?_)
   revert g
   cases(lA a.2 (λe=>dY e es 0) es).run st with
   |none=>intro g;exact g
   |some bl=>
    simp only[dU,UQ];split;intro g;exact g;split;rename_i hlen;rw[if_pos (by omega)];intro g;exact g;intro g;simp[RM.reads]at g
   intro g;exact g
theorem JLj(F:Orc){op:TOp}{new:Nat}{s:TSt}{U W:List Nat}(h:uw op new s=some (U,W)):UW F (erp op) new (JB s) U W:=by
 unfold uw at h;split at h;rename_i agg t x;obtain⟨v,C,h⟩:=iT h;injection h with h;injection h with h1 h2;subst h1 h2;refine⟨oH (op:=.load agg t x) (λj B=>by simp[cG]at B) (bZ (kU _) λa r=>?_),λe g y A=>?_⟩;rw[lV C r];exact JHS λb w=>by rw[jU]at w;exact w
 have g:=oN g;simp only[erp,opR]at g;obtain⟨a,r,g⟩:=bind_some g;rw[JHI g]at A;simp at A;rename_i t;injection h with h;injection h with h1 h2;subst h1 h2;refine⟨oH (op:=.newbox t) (λj B=>by simp[cG]at B;subst B;simp) (bU _),λe g y A=>?_⟩;have g:=oN g;injection g with g;subst g;simp only[jK]at A;subst A;simp;rename_i t x y;obtain⟨v,C,h⟩:=iT h;obtain⟨u,K,h⟩:=iT h;injection h with h;injection h with h1 h2;subst h1 h2;refine⟨oH (op:=.store t x y) (λj B=>by simp[cG]at B) (bZ (kU _) λa r=>bZ (kU _) λc J=>?_),λe g z H=>?_⟩;rw[lV C r,lV K J];exact JGf (λb w=>by rw[jU]at w;simp[w]) (λb w=>by rw[jU]at w;simp[w]);have g:=oN g;simp only[erp,opR]at g;obtain⟨a,r,g⟩:=bind_some g;obtain⟨c,J,g⟩:=bind_some g;have:=JGL g z H;rwa[lV C r,lV K J,jU,jU]at this;rename_i t x i;obtain⟨v,C,h⟩:=iT h;injection h with h;injection h with h1 h2;subst h1 h2;refine⟨oH (op:=.iaddr t x i) (λj B=>by simp[cG]at B) (bZ (kU _) λa r=>bZ (kU _) λc J=>?_),λe g y A=>?_⟩;rw[lV C r];exact JEB λb w=>by rw[jU]at w;exact w
 have g:=oN g;simp only[erp,opR]at g;obtain⟨a,r,g⟩:=bind_some g;obtain⟨c,J,g⟩:=bind_some g;rw[JGG g]at A;simp at A;rename_i own t n ps;obtain⟨l,E,h⟩:=iT h;injection h with h;injection h with h1 h2;subst h1 h2;have Q: ∀x∈ps.map (λx=>erO x.2),∀v,(ev x).run (JB s)=some v-> ∀b∈avR v,b∈rng new (cG (.lits own t n ps))++l:=by
  have Y: ∀(ps:List (Nat×TO)) (l:List Nat),tpR s ps=some l-> ∀x∈ps.map (λx=>erO x.2),∀v,(ev x).run (JB s)=some v-> ∀b∈avR v,b∈l:=by
   intro ps
   induction ps with
   |nil=>intro l _ x D;simp at D
   |cons p ps ih=>
    intro l E x D v C b w;obtain⟨i,o⟩:=p;simp only[tpR]at E;obtain⟨u,K,E⟩:=iT E;obtain⟨q,hq,E⟩:=iT E;injection E with E;subst E;simp only[bP,eR]at D;rcases D with rfl|D;rw[lV K C,jU]at w;simp[w];simp[ih q hq x D v C b w]
  intro x D v C b w;exact cK.2 (.inr (Y ps l E x D v C b w))
 have I:(ps.map λx=>(x.1,erO x.2)).map (·.2)=ps.map λx=>erO x.2:=by simp
 refine⟨oH (op:=.lits own t n ps) (λj B=>cK.2 (.inl (rW B))) ?_,λe g y A=>?_⟩;simp only[erp,opR,I];refine bZ (Dt Q) λa _=>?_;split;split<;>exact bU _
 exact bH;have g:=oN g;simp only[erp,opR,I]at g;obtain⟨a,r,g⟩:=bind_some g;split at g;split at g;rename_i N;injection g with g;subst g;simp only[cK,jK]at A;rcases A with A|rfl;exact YM Q r y A;exact cK.2 (.inl (by have:=rW (k:=cG (.lits own t n ps)) (new:=new) (j:=0) (by simp[cG,N]);simpa using this));injection g with g;subst g;exact YM Q r y A;cases g;rename_i t bytes y;obtain⟨v,C,h⟩:=iT h;injection h with h;injection h with h1 h2;subst h1 h2;refine⟨oH (op:=.appn t bytes y) (λj B=>by simp[cG]at B;subst B;simp) (bZ (kU _) λa r=>?_),λe g z H=>?_⟩;rw[lV C r];refine bZ (ZN λb w=>by rw[jU]at w;simp[w]) λrows _=>?_;split<;>first|exact bU _|exact bH
 have g:=oN g;simp only[erp,opR]at g;obtain⟨a,r,g⟩:=bind_some g;obtain⟨rows,_,g⟩:=bind_some g;split at g;injection g with g;subst g;simp only[jK]at H;subst H;simp;cases g;rename_i t bytes x y;obtain⟨v,C,h⟩:=iT h;obtain⟨u,K,h⟩:=iT h;injection h with h;injection h with h1 h2;subst h1 h2;refine⟨oH (op:=.app t bytes x y) (λj B=>by simp[cG]at B) (bZ (kU _) λa r=>bZ (kU _) λc J=>?_),λe g z H=>?_⟩;rw[lV C r,lV K J];exact JKt (λb w=>by rw[jU]at w;simp[w]) (λb w=>by rw[jU]at w;simp[w]);have g:=oN g;simp only[erp,opR]at g;obtain⟨a,r,g⟩:=bind_some g;obtain⟨c,J,g⟩:=bind_some g;have:=JJt g z H;rwa[lV C r,jU]at this;rename_i kd x lo hi mx;obtain⟨v,C,h⟩:=iT h;injection h with h;injection h with h1 h2;subst h1 h2;refine⟨oH (op:=.slice kd x lo hi mx) (λj B=>by simp[cG]at B) (bZ (kU _) λa r=>bZ (XU _) λ_ _=>bZ (XU _) λ_ _=>bZ (XU _) λ_ _=>?_),λe g z H=>?_⟩;have e:=lV C r;split;refine bZ (IW λb w=>?_) λy _=>?_;rw[e,jU]at w;exact w;split;split<;>first|exact bU _|exact bH
 exact bH;exact PP _;have g:=oN g;simp only[erp,opR]at g;obtain⟨a,r,g⟩:=bind_some g;obtain⟨_,_,g⟩:=bind_some g;obtain⟨_,_,g⟩:=bind_some g;obtain⟨_,_,g⟩:=bind_some g;have e0:=lV C r;split at g;obtain⟨y,A,g⟩:=bind_some g;split at g;split at g;injection g with g;subst g;have:=KB A z H;rwa[e0,jU]at this;cases g;cases g;rw[PM g]at H;simp at H;rename_i f args n;obtain⟨l,E,h⟩:=iT h;unfold tcU at h;obtain⟨ids,hi,h⟩:=iT h;injection h with h;injection h with h1 h2;subst h1 h2;obtain⟨xs,ws,i0,i1,G,V,R,P⟩:=Ep hi;obtain⟨I,T⟩:=AA E;rw[QY]at I;rw[MQ _ _ (λx D=>by rw[T,zH]at D;obtain⟨y,_,rfl⟩:=jM.1 D;rfl)]at G;have L: ∀x∈l.map (λx=>aT (lns s.sto) x.1),∀b∈avR x,b∈rng new n++(l.flatMap λx=>tvR x.1)++ids:=by intro x D b w;obtain⟨y,A,rfl⟩:=jM.1 D;rw[jU]at w;simp only[cK];exact .inl (.inr (List.mem_flatMap.2 ⟨y,A,w⟩))
 have Z:Rb (· ∈rng new n++(l.flatMap λx=>tvR x.1)++ids) (kT (l.map λx=>aT (lns s.sto) x.1)) (JB s):=by rw[<-SH];exact MB L
 have M: ∀y∈ws,y.1∈rng new n++(l.flatMap λx=>tvR x.1)++ids:=by rw[<-SH]at G;exact MD (S:=(· ∈rng new n++(l.flatMap λx=>tvR x.1)++ids)) L G
 obtain⟨c1,O⟩:=tu (F:=F) (f:=f) (S:=(· ∈rng new n++(l.flatMap λx=>tvR x.1)++ids)) (n:=n) (new:=new) (λb w=>by simp[w]) M
  (λj B=>by simp only[cK];exact .inl (.inl (rW B))) V R P
 refine⟨oH (op:=.call f args n) (λj B=>by simp only[cK];exact .inl (.inl (rW B))) (bZ (YP _) λa r=>?_),λe g y A=>?_⟩;rw[I]at r;injection r with r;subst r;exact JGi G Z λ_=>c1;have g:=oN g;simp only[erp,opR]at g;obtain⟨a,r,g⟩:=bind_some g;rw[I]at r;injection r with r;subst r;obtain⟨ar,h1,h2⟩:=qa g;rw[G]at h1;injection h1 with h1;subst h1;exact O e h2 y A;rename_i f args n;obtain⟨l,E,h⟩:=iT h;unfold tcU at h;obtain⟨ids,hi,h⟩:=iT h;injection h with h;injection h with h1 h2;subst h1 h2;obtain⟨xs,ws,i0,i1,G,V,R,P⟩:=Ep hi;obtain⟨I,T⟩:=AA E;have L: ∀x∈l.map (λx=>aT (lns s.sto) x.1),∀b∈avR x,b∈rng new n++(l.flatMap λx=>tvR x.1)++ids:=by intro x D b w;obtain⟨y,A,rfl⟩:=jM.1 D;rw[jU]at w;simp only[cK];exact .inl (.inr (List.mem_flatMap.2 ⟨y,A,w⟩))
 rw[T]at G;have M: ∀y∈ws,y.1∈rng new n++(l.flatMap λx=>tvR x.1)++ids:=MD (S:=(· ∈rng new n++(l.flatMap λx=>tvR x.1)++ids)) L G;obtain⟨c1,O⟩:=tu (F:=F) (f:=f) (S:=(· ∈rng new n++(l.flatMap λx=>tvR x.1)++ids)) (n:=n) (new:=new) (λb w=>by simp[w]) M
  (λj B=>by simp only[cK];exact .inl (.inl (rW B))) V R P
 refine⟨oH (op:=.callo f args n) (λj B=>by simp only[cK];exact .inl (.inl (rW B))) (bZ (YP _) λa r=>?_),λe g y A=>?_⟩;rw[I]at r;injection r with r;subst r;refine bZ (MB L) λa r=>?_;rw[G]at r;injection r with r;subst r;exact c1;have g:=oN g;simp only[erp,opR]at g;obtain⟨a,r,g⟩:=bind_some g;rw[I]at r;injection r with r;subst r;obtain⟨a,r,g⟩:=bind_some g;rw[G]at r;injection r with r;subst r;exact O e g y A;rename_i own t bytes l c;injection h with h;injection h with h1 h2;subst h1 h2;refine⟨oH (op:=.mkslice own t bytes l c) (λj B=>rW B) (bZ (kU _) λa r=>bZ (kU _) λd hd=>?_),λe g y A=>?_⟩;split;split;split<;>exact bU _
 exact bH;exact bH;have g:=oN g;simp only[erp,opR]at g;obtain⟨a,r,g⟩:=bind_some g;obtain⟨d,hd,g⟩:=bind_some g;split at g;split at g;split at g;rename_i N;injection g with g;subst g;simp only[jK]at A;subst A;have:=rW (k:=cG (.mkslice own t bytes l c)) (new:=new) (j:=0) (by simp[cG,N]);simpa using this;injection g with g;subst g;simp at A;cases g;cases g;rename_i k x;obtain⟨v,C,h⟩:=iT h;injection h with h;injection h with h1 h2;subst h1 h2;refine⟨oH (op:=.conv k x) (λj B=>cK.2 (.inl (rW B))) (bZ (kU _) λa r=>?_),λe g y A=>?_⟩;have hr: ∀b∈avR a,b∈rng new (cG (.conv k x))++tvR v:=λb w=>by rw[lV C r,jU]at w;simp[w]
 split;exact bU _;exact bU _;refine bZ (ZN hr) λrows _=>?_;split<;>first|exact bU _|exact bH
 split<;>exact bU _
 exact bH;have g:=oN g;simp only[erp,opR]at g;obtain⟨a,r,g⟩:=bind_some g;split at g;injection g with g;subst g;simp at A;injection g with g;subst g;simp at A;obtain⟨rows,_,g⟩:=bind_some g;split at g;injection g with g;subst g;simp at A;cases g;split at g;rename_i N;injection g with g;subst g;simp only[jK]at A;subst A;simp[cG,N,rng];injection g with g;subst g;simp at A;cases g;cases h
abbrev oY:=Option (List Nat×List Nat)
section
variable {R:Type}
def Bk(i:jN)(s:TSt):Bool:=match i.g with|none=>false|some (g,e)=>if i.dst=some g then false else match tlk g s.env with|some (.a (.c (.d .b x)))=>if x=e then false else true|some (.tup [])=>true|_=>false
def uwI(i:jN)(new:Nat)(s s':TSt):oY:=if Bk i s'=true then some ([],[])else uw i.op new s
def OX(G:TG):List jN->Nat->TSt->List oY->(TSt->List oY->Option R)->Option R|[],_,s,l,k=>k s l|i::r,new,s,l,k=>UR G i new s λs'=>OX G r (new+cG i.op) s' (l++[uwI i new s s']) k
def tQ:oY->(List Nat×List Nat)->Prop|none,_=>True|some (U,W),x=>(∀b∈x.1,b∈U)/\ ∀b∈x.2,b∈W
def OG(l:List oY):List (Nat×Nat)->Bool
 |[]=>true
 |(i,j)::r=>(match l[i]?,l[j]? with
  |some (some a),some (some b)=>gT a.2 b.1&&gT a.2 b.2&&gT a.1 b.2
  |_,_=>false)&&OG l r
theorem MM{b:Nat}: ∀{l:List Loc},b∈jZ l->Loc.blk b∈l
 | .blk c::r,h=>by
  simp only[jZ,eR]at h;rcases h with rfl|h;simp;simp[MM h]
 | .slot n::r,h=>by simp only[jZ]at h;simp[MM h]
theorem tQ.snoc{l:List oY}{l0:Log}{x:oY}{y:List Nat×List Nat}(hl:l.length=l0.length)(ho: ∀(j:Nat) a b,l[j]?=some a->l0[j]?=some b->tQ a b)(hx:tQ x y)(j:Nat)(a:oY)(b:List Nat×List Nat)(ha:(l++[x])[j]?=some a)(hb:(l0++[y])[j]?=some b):tQ a b:=by
 rcases zQ3 j l.length with g|g;rw[rD g]at ha;rw[rD (by omega)]at hb;exact ho j a b ha hb;rw[mM g]at ha;rw[mM (by omega)]at hb;have e:j-l.length=0:=by have:=JA ha;simp at this;omega
 rw[e]at ha;rw[<-hl,e]at hb;simp at ha hb;subst ha hb;exact hx
theorem JIn{F:Orc}{i:jN}{new:Nat}{s s':TSt}{e:Eff}(h:(cE F (eri i) new).run (JB s)=some e)(hp:put i.dst e (JB s)=JB s'):tQ (uwI i new s s') (jZ ((cE F (eri i) new).reads (JB s)),e.ws.map (·.1)):=by
 unfold uwI;split;rename_i k;unfold Bk at k;split at k;cases k;rename_i g o C;split at k;cases k;rename_i G;have D:lk g (JB s').env=lk g (JB s).env:=(by rw[<-hp];unfold put;split;rename_i d B;show lk g ((d,e.val)::(JB s).env)=_;simp only[lk];rw[if_neg (λH=>G (by rw[B,H]))];rfl);have r: ∀v,tlk g s'.env=some v->lk g (JB s).env=some (aT (lns s'.sto) v):=λv z=>by rw[<-D];show lk g (gG _ s'.env)=_;rw[zV,z];rfl
 split at k;rename_i x w;split at k;cases k;rename_i E;have n:=r _ w;rw[e_b]at n;have hi:cE F (eri i) new=.slot g fun
  | .p (.b x)=>if x=o then opD F (eri i).op new else .ret ⟨gY,[]⟩
  | .tup []=>.ret ⟨gY,[]⟩
  |_=>.fail:=by unfold cE;rw[show(eri i).g=i.g from rfl,C];rfl
 rw[hi]at h⊢;refine⟨λb j=>?_,λb j=>?_⟩;have:=MM j;simp only[RM.reads,n,eR,if_neg E]at this;rcases this with this|this;cases this;simp at this;simp only[xG,n,JI,if_neg E,bI]at h;injection h with h;subst h;exact j;rename_i w;have n:=r _ w;have n:lk g (JB s).env=some (.tup []):=n;have hi:cE F (eri i) new=.slot g fun
  | .p (.b x)=>if x=o then opD F (eri i).op new else .ret ⟨gY,[]⟩
  | .tup []=>.ret ⟨gY,[]⟩
  |_=>.fail:=by unfold cE;rw[show(eri i).g=i.g from rfl,C];rfl
 rw[hi]at h⊢;refine⟨λb j=>?_,λb j=>?_⟩;have:=MM j;simp only[RM.reads,n,eR]at this;rcases this with this|this;cases this;simp at this;simp only[xG,n,JI,bI]at h;injection h with h;subst h;exact j;cases k;cases hu:uw i.op new s with
 |none=>trivial
 |some A=>
  obtain⟨U,W⟩:=A;obtain⟨h1,h2⟩:=JLj F hu;have I:Rb (· ∈U) (cE F (eri i) new) (JB s):=(by unfold cE;split;exact h1;refine ph λv z=>?_;split;split;exact h1;exact bU _;exact bU _;exact bH);refine⟨λb j=>I b (MM j),λb j=>?_⟩;obtain⟨y,q,rfl⟩:=jM.1 j;unfold cE at h;split at h;exact h2 e h y q;simp only[xG]at h;obtain⟨v,z,h⟩:=cR.1 h;split at h;split at h;exact h2 e h y q;injection h with h;subst h;simp at q;injection h with h;subst h;simp at q;cases h
theorem rq{F:Orc}{G:TG}(v:GOk F G): ∀{ins:List jN} {new:Nat} {s:TSt} {l:List oY} {l0:Log} {k:TSt->List oY->Option R} {r:R},l.length=l0.length->(∀(j:Nat) a b,l[j]?=some a->l0[j]?=some b->tQ a b)->
  OX G ins new s l k=some r-> ∃s' l' g,jW F (ins.map eri) new (JB s) l0=some (JB s',l')/\k s' g=some r/\g.length=l'.length/\ ∀(j:Nat) a b,g[j]?=some a->l'[j]?=some b->tQ a b
 |[],new,s,l,l0,k,r,n,o,h=>⟨s,l0,l,rfl,h,n,o⟩
 |i::q,new,s,l,l0,k,r,n,o,h=>by simp only[OX]at h;obtain⟨e,s1,h1,h2,h⟩:=o8 v h;obtain⟨w,l',g,h3,y,z,x⟩:=rq v (l0:=l0++[(jZ ((cE F (eri i) new).reads (JB s)),e.ws.map (·.1))]) (by rw[dS,dS,n];rfl) (tQ.snoc n o (JIn h1 h2)) h;refine⟨w,l',g,?_,y,z,x⟩;simp only[bP,jW,h1];rw[show put (eri i).dst e (JB s)=JB s1 from h2,show lR (eri i).op=cG i.op from LS _,h3]
theorem fi{a b e g:List Nat}(h:gT e g=true)(ha: ∀x∈a,x∈e)(hb: ∀x∈b,x∈g):gT a b=true:=by unfold gT at h⊢;rw[TW]at h⊢;intro x k;have:=h x (ha x k);simp only[mR,List.contains_eq_mem,decide_eq_false_iff_not]at this⊢;exact λj=>this (hb x j)
theorem rl{l:List oY}{l':Log}(hl:l.length=l'.length)(ho: ∀(j:Nat) a b,l[j]?=some a->l'[j]?=some b->tQ a b): ∀{ps:List (Nat×Nat)},OG l ps=true->FI l' ps=true
 |[],_=>rfl
 |(i,j)::r,h=>by
  simp only[OG,JZ]at h;obtain⟨h1,h2⟩:=h;simp only[FI,JZ];refine⟨?_,rl hl ho h2⟩;split at h1;rename_i a b n o;have hi:i<l'.length:=by have:=JA n;omega
  have k:j<l'.length:=by have:=JA o;omega
  have e:=ho i _ _ n (zQ9 hi);have g:=ho j _ _ o (zQ9 k);rw[zQ9 hi,zQ9 k];simp only[JZ]at h1⊢;exact⟨⟨fi h1.1.1 e.2 g.1,fi h1.1.2 e.2 g.2⟩,fi h1.2 e.1 g.2⟩;cases h1
def lr(G:TG)(pairs:List (Nat×Nat))(ins:List jN)(s:TSt)(k:TSt->Option R):Option R:=
 match pairs with
 |[]=>VD G ins s.sto.length (OL (KM ins) s) k
 |p::ps=>OX G ins s.sto.length (OL (KM ins) s) [] λs' l=>if OG l (p::ps)=true then k s' else none
theorem JIt{F:Orc}{G:TG}(e:GOk F G){pairs:List (Nat×Nat)}{ins:List jN}{s:TSt}{k:TSt->Option R}{r:R}(h:lr G pairs ins s k=some r): ∃s',region F pairs (ins.map eri) (JB s)=some (JB s')/\k s'=some r:=by
 have hlen:(JB s).sto.length=s.sto.length:=by simp[JB]
 unfold lr at h;split at h;obtain⟨s',h1,h2⟩:=qe e h;refine⟨s',?_,h2⟩;simp only[region,fj];rw[sd]at h1;rw[hlen];exact h1;obtain⟨s',l',q,h1,h2,h3,g⟩:=rq e (l0:=[]) rfl (λj a b o v=>by simp at o) h;split at h2;rename_i n;refine⟨s',?_,h2⟩;simp only[region,fj];rw[sd]at h1;rw[hlen,h1];simp only[rl h3 g n,if_true];cases h2
end
end Go.Am
end
section
namespace Go.Am
def wD(m:Nat)(ids:List Nat)(s:TSt):TC->Option TC
 | .ptr b p=>if b<m then some (.ptr b p)else match eX b ids m with|some k=>some (.ptr k p)|none=>none
 | .slr b=>if b<m then some (.slr b)else match eX b ids m with|some k=>some (.slr k)|none=>match s.sto[b]? with|some (.arr _ t rows)=>some (.d (.l t) rows)|_=>none
 | .slo b n=>if b<m then some (.slo b n)else match eX b ids m with|some k=>some (.slo k n)|none=>none
 | .ep b i p=>if b<m then some (.ep b i p)else match eX b ids m with|some k=>some (.ep k i p)|none=>none
 | .epo b e i p=>if b<m then some (.epo b e i p)else match eX b ids m with|some k=>some (.epo k e i p)|none=>none
 |x=>some x
def zJ(m:Nat)(ids:List Nat)(s:TSt):List TC->Option (List TC)|[]=>some []|x::r=>match wD m ids s x,zJ m ids s r with|some y,some l=>some (y::l)|_,_=>none
def EK(m:Nat)(ids:List Nat)(s:TSt):TA->Option TA
 | .c x=>match wD m ids s x with|some y=>some (.c y)|none=>none
 | .dt t x=>some (.dt t x)
 | .m t cs=>match zJ m ids s cs with
  |some l=>match asm t l with|some x=>some (.dt t x)|none=>if l.any UP=true then some (.m t l)else none
  |none=>none
 | .fn f a c=>match zJ m ids s a,zJ m ids s c with|some a,some c=>some (.fn f a c)|_,_=>none
def KN(m:Nat)(ids:List Nat)(s:TSt):List TA->Option (List TA)|[]=>some []|x::r=>match EK m ids s x,KN m ids s r with|some y,some l=>some (y::l)|_,_=>none
def me(m:Nat)(ids:List Nat)(s:TSt):TV->Option TV
 | .a x=>match EK m ids s x with|some y=>some (.a y)|none=>none
 | .tup vs=>match KN m ids s vs with|some l=>some (.tup l)|none=>none
def IX(m:Nat)(ids:List Nat)(s:TSt):TB->Option TB
 | .mbox t cs=>match zJ m ids s cs with|some l=>some (mkb t l)|none=>none
 |x=>some x
def wU(m:Nat)(ids:List Nat)(s:TSt):List TB->Option (List TB)|[]=>some []|x::r=>match IX m ids s x,wU m ids s r with|some y,some l=>some (y::l)|_,_=>none
def OP(m:Nat)(s:TSt):List (Nat×TV)->Option (List (Nat×TV))|[]=>some []|(k,x)::r=>match me m [] s x,OP m s r with|some y,some l=>some ((k,y)::l)|_,_=>none
def pY:List Nat->List (Nat×TV)->List (Nat×TV)|[],_=>[]|k::r,env=>match tlk k env with|some v=>(k,v)::pY r env|none=>pY r env
theorem MI(L:Nat->Nat)(env:List (Nat×TV)): ∀live:List Nat,restr live (gG L env)=gG L (pY live env)
 |[]=>rfl
 |k::r=>by
  simp only[restr,pY,zV];cases tlk k env with
  |none=>exact MI L env r
  |some v=>
   have ih:=MI L env r;grind [gG]
section
variable {m:Nat} {ids:List Nat} {s:TSt} {L':Nat->Nat} (h1: ∀b,b<m->L' b=lns s.sto b) (h2: ∀b k,eX b ids m=some k->L' k=lns s.sto b)
include h1 h2
theorem si{x y:TC}(h:wD m ids s x=some y):fin m ids (JB s).sto (aY (lns s.sto) x)=some (aY L' y):=by
 cases x with
 |ptr b p=>
  grind [wD,aY,fin]
 |slr b=>
  simp only[wD]at h;simp only[aY,fin];split at h;grind
  ·rename_i g;rw[if_neg g];split at h
   all_goals grind [fB,XR,oP,cel,hdP]
 |slo b n=>
  grind [wD,aY,fin]
 |ep b i p=>
  grind [wD,aY,fin]
 |epo b e i p=>
  grind [wD,aY,fin]
 |_=>injection h with h;subst h;rfl
theorem QV: ∀{xs e:List TC},zJ m ids s xs=some e->fin.finL m ids (JB s).sto (xs.map (aY (lns s.sto)))=some (e.map (aY L'))
 |[],e,h=>by injection h with h;subst h;rfl
 |x::r,e,h=>by
  simp only[zJ]at h;split at h;rename_i y l j g;injection h with h;subst h;simp only[bP,fin.finL,si h1 h2 j,QV g];cases h
theorem rj{x y:TA}(h:EK m ids s x=some y):fin m ids (JB s).sto (bY (lns s.sto) x)=some (bY L' y):=by
 cases x with
 |c x=>
  simp only[EK]at h;split at h;rename_i y j;injection h with h;subst h;exact si h1 h2 j;cases h
 |dt t x=>injection h with h;subst h;rfl
 |m t cs=>
  simp only[EK]at h;split at h;rename_i l g;have e:=QV h1 h2 g;grind [bY,fin,LG,MA,YY];cases h
 |fn f a c=>
  grind [EK,bY,fin,QV]
theorem gw: ∀{xs e:List TA},KN m ids s xs=some e->fin.finL m ids (JB s).sto (xs.map (bY (lns s.sto)))=some (e.map (bY L'))
 |[],e,h=>by injection h with h;subst h;rfl
 |x::r,e,h=>by
  simp only[KN]at h;split at h;rename_i y l j g;injection h with h;subst h;simp only[bP,fin.finL,rj h1 h2 j,gw g];cases h
theorem JFU{x y:TV}(h:me m ids s x=some y):fin m ids (JB s).sto (aT (lns s.sto) x)=some (aT L' y):=by cases x<;>grind [me,rj,aT,fin,gw]
theorem JEU{x y:TB}(h:IX m ids s x=some y):gN m ids (JB s).sto (bB (lns s.sto) x)=some (bB L' y):=by
 cases x with
 |mbox t cs=>
  grind [IX,LN,gN,QV,QM]
 |box t x=>injection h with h;grind [EU,gN,ui]
 |_=>injection h with h;subst h;rfl
theorem RZ: ∀{xs e:List TB},wU m ids s xs=some e->rG m ids (JB s).sto (xs.map (bB (lns s.sto)))=some (e.map (bB L'))
 |[],e,h=>by injection h with h;subst h;rfl
 |x::r,e,h=>by
  simp only[wU]at h;split at h;rename_i y l j g;injection h with h;subst h;simp only[bP,rG,JEU h1 h2 j,RZ g];cases h
end
theorem JDU{m:Nat}{ids:List Nat}{s:TSt}{x y:TB}(h:IX m ids s x=some y):lnB y=lnB x:=by
 cases x with
 |mbox t cs=>
  simp only[IX]at h;split at h;injection h with h;subst h;exact QD _ _;cases h
 |_=>injection h with h;subst h;rfl
theorem SG{m:Nat}{ids:List Nat}{s:TSt}: ∀{xs e:List TB},wU m ids s xs=some e->e.length=xs.length/\ ∀(k:Nat),lns e k=lns xs k
 |[],e,h=>by injection h with h;simp_all
 |x::r,e,h=>by
  simp only[wU]at h;split at h;rename_i y l j g;injection h with h;subst h;obtain⟨n,o⟩:=SG g;refine⟨by simp[n],λk=>?_⟩;cases k with
  |zero=>exact JDU j
  |succ k=>exact o k
  cases h
theorem qz{m:Nat}{s:TSt}{L':Nat->Nat}(h1: ∀b,b<m->L' b=lns s.sto b): ∀{env e:List (Nat×TV)},OP m s env=some e->vT m (JB s).sto (gG (lns s.sto) env)=some (gG L' e)
 |[],e,h=>by injection h with h;subst h;rfl
 |(k,x)::r,e,h=>by
  simp only[OP]at h;split at h;rename_i y l n j;injection h with h;subst h;simp only[gG,bP,vT];rw[JFU (ids:=[]) h1 (λb k g=>by cases g) n];have ih:=qz h1 j;grind [gG];cases h
def rT(n:Nat)(live:List Nat)(s:TSt):Option TSt:=
 if s.sto.length=n then some ⟨pY live s.env,s.sto⟩
 else match OP n s (pY live s.env),wU n [] s (s.sto.take n)with|some e,some l=>some ⟨e,l⟩|_,_=>none
theorem FU{n:Nat}{live:List Nat}{s s':TSt}(h:rT n live s=some s'):clean n live (JB s)=some (JB s'):=by
 unfold rT at h;have hlen:(JB s).sto.length=s.sto.length:=by simp[JB]
 split at h;grind [clean,JB,MI];rename_i o;split at h;rename_i e l q g;injection h with h;subst h;obtain⟨v,y⟩:=SG g;have hL: ∀b,b<n->lns l b=lns s.sto b:=λb r=>by
  grind [lns]
 unfold clean;rw[hlen,if_neg o];have x:=qz hL q;have w:=RZ (ids:=[]) hL (λb k j=>by cases j) g;grind [JB,MI,List.map_take];cases h
inductive zG where|tmp (t:Nat)|cell (t:Nat) (agg:Bool) (ty:Ty)
def erR:zG->vU| .tmp t=>.tmp t| .cell t agg ty=>.cell t agg ty.sz
def my(agg:Bool)(ty:Ty)(v:TV)(s:TSt):Option TA:=
 if agg=true\/ty.sz=1 then
  match v with
  | .a (.c (.ptr b []))=>match s.sto[b]? with
   |some (.box e x)=>if h:e=ty then(if agg=true then some (.dt ty (h▸x))else some (.c (.d ty (h▸x))))else none
   |some (.mbox _ cs)=>if cs.length=ty.sz then
    match mka agg ty cs with
    |some (.a x)=>some x
    |_=>none
    else none
   |_=>none
  |_=>none
 else none
theorem JET{agg:Bool}{ty:Ty}{v:TV}{s:TSt}{x:TA}(h:my agg ty v s=some x): ∃e,(gX agg ty.sz (aT (lns s.sto) v)).run (JB s)=some e/\e.val=bY (lns s.sto) x:=by
 unfold my at h;split at h;rename_i r;split at h;rename_i b;split at h;rename_i g y j;split at h;rename_i h0;subst h0;refine⟨⟨bY (lns s.sto) x,[]⟩,?_,rfl⟩;have w:lC agg ((cel g y).map .p)=oQ agg (cel g y):=by
  unfold lC oQ;split;rw[MA];cases hcel:cel g y with
  |nil=>rfl
  |cons a l=>cases l<;>rfl
 have k:sub (cel g y) 0 g.sz=some (cel g y):=YW (eP _ _);have q:=ER (lns s.sto) r y;simp only[kX,spo,gX,eU,fB,j,dU,JI,EU,FR,k,w,q,val,bI];unfold mkv;split at h;rename_i h1;injection h with h;subst h;rw[if_pos h1];rfl;rename_i h1;injection h with h;subst h;rw[if_neg h1];rfl;cases h;rename_i cs j;split at h;rename_i o;split at h;rename_i y n;injection h with h;subst h;have k:sub cs 0 ty.sz=some cs:=YW o;refine⟨⟨bY (lns s.sto) y,[]⟩,?_,rfl⟩;simp only[kX,spo,gX,eU,fB,j,dU,JI,LN,FR,k,EX (lns s.sto) n,val,bI];rfl;cases h;cases h;cases h;cases h;cases h
def DJ:List zG->TSt->Option (List TA)
 |[],_=>some []
 | .tmp t::r,s=>match tlk t s.env,DJ r s with|some (.a x),some l=>some (x::l)|_,_=>none
 | .cell t agg ty::r,s=>match tlk t s.env with
  |some v=>match my agg ty v s,DJ r s with|some x,some l=>some (x::l)|_,_=>none
  |none=>none
theorem py(s:TSt)(t:Nat):(RM.slot t RM.ret).run (JB s)=(tlk t s.env).map (aT (lns s.sto)):=by rw[xG];show(lk t (gG _ s.env)).bind _=_;simp[zV]
theorem ZJ{s:TSt}: ∀{k:List zG} {l:List TA},DJ k s=some l->(nU (k.map erR)).run (JB s)=some (l.map (bY (lns s.sto)))
 |[],l,h=>by injection h with h;subst h;rfl
 | .tmp t::r,l,h=>by
  simp only[DJ]at h;split at h;rename_i x l' j g;injection h with h;subst h;simp only[bP,erR,nU,run_bind,py,j,dU,JI,ZJ g,bI];rfl;cases h
 | .cell t agg ty::r,l,h=>by
  simp only[DJ]at h;split at h;rename_i v n;split at h;rename_i x l' j g;injection h with h;subst h;obtain⟨e,o,q⟩:=JET j;simp only[bP,erR,nU,run_bind,py,n,dU,JI,o,ZJ g,bI,q];cases h;cases h
def KK(s:TSt):List Nat->List Nat->Option (List Nat)
 |[],acc=>some acc
 |b::r,acc=>match s.sto[b]? with
  |some (.mbox _ cs)=>match wC cs acc with|some acc=>KK s r acc|none=>none
  |some _=>KK s r acc
  |none=>none
theorem RC{s:TSt}: ∀{r acc l:List Nat},KK s r acc=some l->rH (JB s).sto (r.map .whole) (acc.map .whole)=l.map .whole
 |[],acc,l,h=>by injection h with h;subst h;rfl
 |b::r,acc,l,h=>by
  simp only[KK]at h;split at h;rename_i cs e;split at h;rename_i g j;simp only[bP,rH,fB,e,dU,LN,ME (lns s.sto) j];exact RC h;cases h;rename_i x k e;simp only[bP,rH,fB,e,dU];cases x with
  |mbox t cs=>simp_all
  |box t x=>simp only[EU];rw[ua];exact RC h
  |_=>exact RC h
  cases h
def lX(m:Nat)(fresh:Bool)(s:TSt):List Nat->List Nat
 |[]=>[]
 |b::r=>if b<m then lX m fresh s r else
  match s.sto[b]? with
  |some (.box _ _)=>b::lX m fresh s r
  |some (.mbox _ _)=>b::lX m fresh s r
  |some (.arr _ _ _)=>if fresh=true then b::lX m fresh s r else lX m fresh s r
  |_=>lX m fresh s r
theorem vr{m:Nat}{fresh:Bool}{s:TSt}: ∀r:List Nat,kD m fresh (JB s).sto (r.map .whole)=lX m fresh s r
 |[]=>rfl
 |b::r=>by
  simp only[bP,kD,lX,fB];rw[vr r];split;rfl;cases s.sto[b]? with
  |none=>rfl
  |some x=>cases x<;>rfl
def OY(s:TSt):List Nat->Option (List TB)|[]=>some []|b::r=>match s.sto[b]?,OY s r with|some x,some l=>some (x::l)|_,_=>none
theorem qv{s:TSt}: ∀{ids:List Nat} {l:List TB},OY s ids=some l->wO (JB s).sto ids=some (l.map (bB (lns s.sto)))/\l.length=ids.length/\ ∀(j b:Nat),ids[j]?=some b->lns l j=lns s.sto b
 |[],l,h=>by injection h with h;simp_all
 |b::r,l,h=>by
  simp only[OY]at h;split at h;rename_i x l' o e;injection h with h;subst h;obtain⟨g,n,k⟩:=qv e;grind [wO,fB,lns];cases h
def HK:List TA->TV|[x]=>.a x|l=>.tup l
theorem pb(L:Nat->Nat)(l:List TA):one (l.map (bY L))=aT L (HK l):=by
 match l with
 |[]=>rfl
 |[x]=>rfl
 |x::y::r=>rfl
section
variable {R:Type}
def LP(res:List zG)(fresh:Bool)(m:Nat)(s:TSt)(E:TV->List TB->Option R):Option R:=
 match DJ res s with
 |none=>none
 |some vs=>
  if s.sto.length=m then E (HK vs) s.sto
  else match EW vs []with
   |none=>none
   |some e=>match KK s e e with
    |none=>none
    |some i1=>if jT (lX m fresh s i1)=true/\m<=s.sto.length then
     match KN m (lX m fresh s i1) s vs,wU m (lX m fresh s i1) s (s.sto.take m),OY s (lX m fresh s i1)with
     |some ws,some l,some q=>match wU m (lX m fresh s i1) s q with|some q'=>E (HK ws) (l++q')|none=>none
     |_,_,_=>none
     else none
theorem JCE{f:AFn}{res:List zG}{fresh:Bool}{m:Nat}{s:TSt}{E:TV->List TB->Option R}{r:R}(n:f.res=res.map erR)(J:f.fresh=fresh)(h:LP res fresh m s E=some r):
  ∃v out,iE f m (JB s)=some (aT (lns out) v,out.map (bB (lns out)))/\E v out=some r:=by
 unfold LP at h;have hlen:(JB s).sto.length=s.sto.length:=by simp[JB]
 split at h;cases h;rename_i vs hvs;have C:=ZJ hvs;split at h;rename_i z;refine⟨HK vs,s.sto,?_,h⟩;unfold iE;rw[n,C];dsimp only;rw[hlen,if_pos z,pb];rfl;rename_i z;split at h;cases h;rename_i B x;split at h;cases h;rename_i i1 o;split at h;rename_i j;obtain⟨L,hm⟩:=j;generalize g:lX m fresh s i1=ids at*;split at h;rename_i ws l q w y F;split at h;rename_i q' e;refine⟨HK ws,l++q',?_,h⟩;obtain⟨V,G⟩:=SG y;obtain⟨S,O,M⟩:=qv F;obtain⟨P,T⟩:=SG e;have I:l.length=m:=by simp_all
 have h1: ∀b,b<m->lns (l++q') b=lns s.sto b:=λb Y=>by
  have:=G b;grind [lns]
 have h2: ∀b k,eX b ids m=some k->lns (l++q') k=lns s.sto b:=λb k D=>by
  obtain⟨K,H⟩:=RT D;grind [lns]
 have e1:=gw h1 h2 w;have Z:=RZ h1 h2 y;have U:=RZ h1 h2 e;have W:cS.entsOfL (vs.map (bY (lns s.sto))) []=B.map .whole:=RW (lns s.sto) (l:=[]) x;have N:=RC o;have A:=vr (m:=m) (fresh:=fresh) (s:=s) i1;rw[g]at A;have Q:(JB s).sto.take m=(s.sto.take m).map (bB (lns s.sto)):=by simp[JB]
 grind [iE,pb];cases h;cases h;cases h
end
end Go.Am
end
section
namespace Go.Am
inductive ShC where
 |d (t:Ty)
 |sc (t:Ty)
 |np
 |nf
 |un
 |ptr (b:Nat) (p:List Sp)
 |cp (t:Ty) (p:List Sp)
 |slr (b:Nat)
 |fn (f:FuncId)
 deriving DecidableEq
inductive ShA where
 |c (x:ShC)
 |dt (t:Ty)
 |m (t:Ty) (cs:List ShC)
 |fn (f:FuncId) (a c:List ShC)
 deriving DecidableEq
inductive ShV where
 |a (x:ShA)
 |tup (vs:List ShA)
 deriving DecidableEq
inductive ShB where
 |dead
 |box (t:Ty)
 |mbox (t:Ty) (cs:List ShC)
 |arr (w:Bool) (t:Ty)
 deriving DecidableEq
structure ShS where
 env:List (Nat×ShV)
 sto:List ShB
 deriving DecidableEq
abbrev Lf:=(t:Ty)×t.D
def shC:TC->Option (ShC×List Lf)| .d t x=>some (.d t,[⟨t,x⟩])| .sc t rows=>some (.sc t,[⟨.l t,rows⟩])| .np=>some (.np,[])| .nf=>some (.nf,[])| .un=>some (.un,[])| .ptr b p=>if(tJ p).isSome=true then some (.ptr b p,[])else none| .cp t x p=>if(tJ p).isSome=true then some (.cp t p,[⟨t,x⟩])else none| .slr b=>some (.slr b,[])| .fn f=>some (.fn f,[])|_=>none
def lf1(t:Ty)(l:List Lf):Option (t.D×List Lf):=
 match l with
 |⟨t',x⟩::r=>if h:t'=t then some (h▸x,r)else none
 |[]=>none
def mkC:ShC->List Lf->Option (TC×List Lf)
 | .d t,l=>match lf1 t l with|some (x,r)=>some (.d t x,r)|none=>none
 | .sc t,l=>match lf1 (.l t) l with|some (x,r)=>some (.sc t x,r)|none=>none
 | .np,l=>some (.np,l)
 | .nf,l=>some (.nf,l)
 | .un,l=>some (.un,l)
 | .ptr b p,l=>some (.ptr b p,l)
 | .cp t p,l=>match lf1 t l with|some (x,r)=>some (.cp t x p,r)|none=>none
 | .slr b,l=>some (.slr b,l)
 | .fn f,l=>some (.fn f,l)
theorem KP(t:Ty)(x:t.D)(r:List Lf):lf1 t (⟨t,x⟩::r)=some (x,r):=by simp[lf1]
theorem LE{x:TC}{sh:ShC}{e:List Lf}(h:shC x=some (sh,e))(rest:List Lf):mkC sh (e++rest)=some (x,rest):=by
 cases x<;>simp only[shC]at h<;>first
  |(split at h
    simp only[Option.some.injEq,Prod.mk.injEq]at h;obtain⟨rfl,rfl⟩:=h;simp only[tK,lP,mkC,KP];cases h)
  |(simp only[Option.some.injEq,Prod.mk.injEq]at h
    obtain⟨rfl,rfl⟩:=h;simp only[tK,lP,mkC,KP])
  |cases h
def shL{α σ:Type}(f:α->Option (σ×List Lf)):List α->Option (List σ×List Lf)|[]=>some ([],[])|x::r=>match f x,shL f r with|some (s,l),some (q,k)=>some (s::q,l++k)|_,_=>none
def mkL{α σ:Type}(g:σ->List Lf->Option (α×List Lf)):List σ->List Lf->Option (List α×List Lf)
 |[],l=>some ([],l)
 |s::r,l=>match g s l with
  |some (x,l)=>match mkL g r l with|some (q,l)=>some (x::q,l)|none=>none
  |none=>none
theorem pV{α σ:Type}{f:α->Option (σ×List Lf)}{g:σ->List Lf->Option (α×List Lf)}(n: ∀{x:α} {s:σ} {e:List Lf},f x=some (s,e)-> ∀rest,g s (e++rest)=some (x,rest)):
  ∀{xs:List α} {j:List σ} {e:List Lf},shL f xs=some (j,e)-> ∀rest,mkL g j (e++rest)=some (xs,rest)
 |[],j,e,h,rest=>by injection h with h;injection h with h1 h2;subst h1 h2;rfl
 |x::r,j,e,h,rest=>by
  simp only[shL]at h;split at h;rename_i s l q k h1 h2;injection h with h;injection h with h3 h4;subst h3 h4;simp only[mkL,fM,n h1,pV n h2];cases h
def shA:TA->Option (ShA×List Lf)
 | .c x=>match shC x with|some (s,l)=>some (.c s,l)|none=>none
 | .dt t x=>some (.dt t,[⟨t,x⟩])
 | .m t cs=>match shL shC cs with|some (s,l)=>some (.m t s,l)|none=>none
 | .fn f a c=>match shL shC a,shL shC c with|some (s,l),some (q,k)=>some (.fn f s q,l++k)|_,_=>none
def mkA:ShA->List Lf->Option (TA×List Lf)
 | .c s,l=>match mkC s l with|some (x,l)=>some (.c x,l)|none=>none
 | .dt t,l=>match lf1 t l with|some (x,l)=>some (.dt t x,l)|none=>none
 | .m t s,l=>match mkL mkC s l with|some (x,l)=>some (.m t x,l)|none=>none
 | .fn f a c,l=>match mkL mkC a l with
  |some (x,l)=>match mkL mkC c l with|some (y,l)=>some (.fn f x y,l)|none=>none
  |none=>none
theorem YR{x:TA}{sh:ShA}{e:List Lf}(h:shA x=some (sh,e))(rest:List Lf):mkA sh (e++rest)=some (x,rest):=by
 cases x with
 |c x=>
  simp only[shA]at h;split at h;rename_i s l h1;injection h with h;injection h with h2 h3;subst h2 h3;simp only[mkA,LE h1];cases h
 |dt t x=>injection h with h;grind [mkA,KP]
 |m t cs=>
  simp only[shA]at h;split at h;rename_i s l h1;injection h with h;injection h with h2 h3;subst h2 h3;simp only[mkA,pV LE h1];cases h
 |fn f a c=>
  simp only[shA]at h;split at h;rename_i s l q k h1 h2;injection h with h;injection h with h3 h4;subst h3 h4;simp only[mkA,fM,pV LE h1,pV LE h2];cases h
def shV:TV->Option (ShV×List Lf)
 | .a x=>match shA x with|some (s,l)=>some (.a s,l)|none=>none
 | .tup vs=>match shL shA vs with|some (s,l)=>some (.tup s,l)|none=>none
def mkV:ShV->List Lf->Option (TV×List Lf)
 | .a s,l=>match mkA s l with|some (x,l)=>some (.a x,l)|none=>none
 | .tup s,l=>match mkL mkA s l with|some (x,l)=>some (.tup x,l)|none=>none
theorem D0{x:TV}{sh:ShV}{e:List Lf}(h:shV x=some (sh,e))(rest:List Lf):mkV sh (e++rest)=some (x,rest):=by
 cases x with
 |a x=>
  simp only[shV]at h;split at h;rename_i s l h1;injection h with h;injection h with h2 h3;subst h2 h3;simp only[mkV,YR h1];cases h
 |tup vs=>
  simp only[shV]at h;split at h;rename_i s l h1;injection h with h;injection h with h2 h3;subst h2 h3;simp only[mkV,pV YR h1];cases h
def shB:TB->Option (ShB×List Lf)
 | .dead=>some (.dead,[])
 | .box t x=>some (.box t,[⟨t,x⟩])
 | .mbox t cs=>match shL shC cs with|some (s,l)=>some (.mbox t s,l)|none=>none
 | .arr w t rows=>some (.arr w t,[⟨.l t,rows⟩])
def mkB:ShB->List Lf->Option (TB×List Lf)
 | .dead,l=>some (.dead,l)
 | .box t,l=>match lf1 t l with|some (x,l)=>some (.box t x,l)|none=>none
 | .mbox t s,l=>match mkL mkC s l with|some (x,l)=>some (.mbox t x,l)|none=>none
 | .arr w t,l=>match lf1 (.l t) l with|some (x,l)=>some (.arr w t x,l)|none=>none
theorem YB{x:TB}{sh:ShB}{e:List Lf}(h:shB x=some (sh,e))(rest:List Lf):mkB sh (e++rest)=some (x,rest):=by
 cases x with
 |dead=>injection h with h;injection h with h2 h3;subst h2 h3;rfl
 |box t x=>injection h with h;grind [mkB,KP]
 |mbox t cs=>
  simp only[shB]at h;split at h;rename_i s l h1;injection h with h;injection h with h2 h3;subst h2 h3;simp only[mkB,pV LE h1];cases h
 |arr w t rows=>injection h with h;grind [mkB,KP]
def shE(x:Nat×TV):Option ((Nat×ShV)×List Lf):=match shV x.2 with|some (s,l)=>some ((x.1,s),l)|none=>none
def mkE(x:Nat×ShV)(l:List Lf):Option ((Nat×TV)×List Lf):=match mkV x.2 l with|some (v,l)=>some ((x.1,v),l)|none=>none
theorem JJ5{x:Nat×TV}{sh:Nat×ShV}{e:List Lf}(h:shE x=some (sh,e))(rest:List Lf):mkE sh (e++rest)=some (x,rest):=by
 unfold shE at h;split at h;rename_i s l h1;injection h with h;injection h with h2 h3;subst h2 h3;simp only[mkE,D0 h1];cases h
def shS(s:TSt):Option (ShS×List Lf):=match shL shE s.env,shL shB s.sto with|some (a,l),some (c,k)=>some (⟨a,c⟩,l++k)|_,_=>none
def wB(s:ShS)(l:List Lf):Option TSt:=match mkL mkE s.env l with
 |some (a,l)=>match mkL mkB s.sto l with|some (c,[])=>some ⟨a,c⟩|_=>none
 |none=>none
theorem qi{x:TSt}{sh:ShS}{g:List Lf}(h:shS x=some (sh,g)):wB sh g=some x:=by
 unfold shS at h;split at h;rename_i a l c k h1 h2;injection h with h;injection h with h3 h4;subst h3 h4;have e:=pV YB h2 [];rw[kO]at e;simp only[wB,pV JJ5 h1,e];cases h
def tyL:List Ty->Ty|[]=>.u|[t]=>t|t::t'::r=>.pr t (tyL (t'::r))
def DV:(e:List Lf)->(tyL (e.map (·.1))).D|[]=>()|[x]=>x.2|x::y::r=>(x.2,DV (y::r))
def oC:(ts:List Ty)->(tyL ts).D->List Lf|[],_=>[]|[t],x=>[⟨t,x⟩]|t::t'::r,x=>⟨t,x.1⟩::oC (t'::r) x.2
theorem gp: ∀e:List Lf,oC (e.map (·.1)) (DV e)=e
 |[]=>rfl
 |[x]=>rfl
 |x::y::r=>by
  have:=gp (y::r);grind [oC,DV]
def asL(ts:List Ty)(e:List Lf):Option (tyL ts).D:=if h:e.map (·.1)=ts then some (h▸DV e)else none
theorem YD{ts:List Ty}{e:List Lf}{x:(tyL ts).D}(h:asL ts e=some x):oC ts x=e:=by
 grind [asL,gp]
def DE(sh:ShS)(ts:List Ty)(s:TSt):Option (tyL ts).D:=match shS s with|some (e,g)=>if e=sh then asL ts g else none|none=>none
theorem Ef{sh:ShS}{ts:List Ty}{s:TSt}{x:(tyL ts).D}(h:DE sh ts s=some x):wB sh (oC ts x)=some s:=by
 grind [DE,YD,qi]
inductive TCo where|skip|bad|reg (draw:Bool) (pairs:List (Nat×Nat)) (ins:List jN)|seq (a b:TCo)|cond (c:TO) (a b:TCo)|block (id:Nat) (c:TCo)|loop (live:List Nat) (c:TCo)|scope (c:TCo)|exit (id:Nat)|ret|keep (live:List Nat) (c:TCo)|tidy (live:List Nat) (c:TCo)|jn (sh:ShS) (ts:List Ty) (a b:TCo)
def erc:TCo->cF| .skip=>.skip| .bad=>.bad| .reg d p ins=>.reg d p (ins.map eri)| .seq a b=>.seq (erc a) (erc b)| .cond c a b=>.cond (erO c) (erc a) (erc b)| .block id c=>.block id (erc c)| .loop live c=>.loop live (erc c)| .scope c=>.scope (erc c)| .exit id=>.exit id| .ret=>.ret| .keep live c=>.keep live (erc c)| .tidy live c=>.tidy live (erc c)| .jn sh _ a b=>.seq (erc a) (.keep (sh.env.map (·.1)) (erc b))
structure TK(R:Type) where
 n:TSt->Option R
 x:Nat->TSt->Option R
 r:TSt->Option R
def TK.at'{R:Type}(K:TK R):AX->TSt->Option R| .normal=>K.n| .exit i=>K.x i| .ret=>K.r
def rbO(c:TO)(v:Bool)(s:TSt):TSt:=match c with| .t n=>rb n (vb v) s| .c _=>s
def jnO{σ R:Type}(m:Option (σ⊕R))(f:σ->Option R):Option R:=match m with|some (.inl x)=>f x|some (.inr r)=>some r|none=>none
def inl?{σ R:Type}(m:Option σ):Option (σ⊕R):=match m with|some x=>some (.inl x)|none=>none
def onO{α R:Type}(m:Option α)(k:α->Option R):Option R:=match m with|some x=>k x|none=>none
theorem sC{α R:Type}{m:Option α}{k:α->Option R}{r:R}(h:onO m k=some r): ∃x,m=some x/\k x=some r:=by
 cases m with
 |none=>cases h
 |some x=>exact⟨x,rfl,h⟩
def UB{R:Type}(clean:TSt->Option TSt)(body:(TSt->Option R)->TSt->Option R):Nat->TSt->Option R|0,_=>none|k+1,s=>body (λs'=>onO (clean s') (UB clean body k)) s
def orO{σ R:Type}(m:Option σ)(f:Unit->Option R):Option (σ⊕R):=match m with|some x=>some (.inl x)|none=>(f ()).map .inr
noncomputable def trc(G:TG):TCo->(R:Type)->TK R->TSt->Option R
 | .skip,_,K,s=>K.n s
 | .bad,_,_,_=>none
 | .reg _ p ins,_,K,s=>lr G p ins s K.n
 | .seq a b,R,K,s=>trc G a R ⟨λs=>trc G b R K s,K.x,K.r⟩ s
 | .cond c a b,R,K,s=>match tev c s with|some (.a (.c (.d .b x)))=>if x=true then trc G a R K (rbO c true s)else trc G b R K (rbO c false s)|_=>none
 | .block id c,R,K,s=>trc G c R ⟨K.n,λi s=>if i=id then K.n s else K.x i s,K.r⟩ s
 | .loop live c,R,K,s=>onO (shS ⟨pY live s.env,s.sto⟩) fun(sh,e)=>
   Jd (λx:(tyL (e.map (·.1))).D=>onO (wB sh (oC (e.map (·.1)) x)) λs1=>
    trc G c ((tyL (e.map (·.1))).D⊕R) ⟨λs'=>onO (rT s.sto.length live s') λs'=>orO (DE sh (e.map (·.1)) s') λ_=>UB (rT s.sto.length live) (λagain s=>trc G c R ⟨again,K.x,K.r⟩ s) 3 s',λi s'=>(K.x i s').map .inr,λs'=>(K.r s').map .inr⟩ s1) (DV e)
 | .scope c,R,K,s=>trc G c R K s
 | .exit id,_,K,s=>K.x id s
 | .ret,_,K,s=>K.r s
 | .keep live c,R,K,s=>trc G c R K ⟨pY live s.env,s.sto⟩
 | .tidy live c,R,K,s=>trc G c R ⟨λs'=>onO (rT s.sto.length live s') K.n,λi s'=>onO (rT s.sto.length live s') (K.x i),λs'=>onO (rT s.sto.length live s') K.r⟩ s
 | .jn sh ts a b,R,K,s=>jnO (trc G a ((tyL ts).D⊕R) ⟨λs'=>inl? (DE sh ts ⟨pY (sh.env.map (·.1)) s'.env,s'.sto⟩),λi s'=>(K.x i s').map .inr,λs'=>(K.r s').map .inr⟩ s)
   λx=>onO (wB sh (oC ts x)) λs1=>trc G b R K s1
theorem db(live:List Nat)(s:TSt):JB ⟨pY live s.env,s.sto⟩=⟨restr live (JB s).env,(JB s).sto⟩:=by simp[JB,MI]
theorem Da{c:TO}{x:Bool}{s:TSt}(h:tev c s=some (vb x)):rbO c x s=s:=by
 cases c with
 |t n=>exact YF h
 |c v=>rfl
theorem JFL{σ R:Type}{m:Option σ}{o:σ⊕R}(h:inl? m=some o): ∃x,m=some x/\o=.inl x:=by
 cases m with
 |none=>cases h
 |some x=>injection h with h;simp_all
theorem lU{T:eO}{G:TG}(n:GOk (AF T) G): ∀{c:TCo} {R:Type} {K:TK R} {s:TSt} {r:R},trc G c R K s=some r-> ∃o s',X T (erc c) (JB s)=some (o,JB s')/\K.at' o s'=some r
 | .skip,R,K,s,r,h=>⟨.normal,s,by simp[erc],h⟩
 | .bad,R,K,s,r,h=>by cases h
 | .reg d p ins,R,K,s,r,h=>by obtain⟨s',h1,h2⟩:=JIt n h;exact⟨.normal,s',by simp_all [erc,Cv],h2⟩
 | .seq a b,R,K,s,r,h=>by
  obtain⟨o,s1,h1,h2⟩:=lU n (c:=a) h;rw[erc,C3,h1];cases o with
  |normal=>obtain⟨o,j,h3,g⟩:=lU n (c:=b) h2;exact⟨o,j,h3,g⟩
  |exit i=>exact⟨.exit i,s1,rfl,h2⟩
  |ret=>exact⟨.ret,s1,rfl,h2⟩
 | .cond c a b,R,K,s,r,h=>by
  unfold trc at h;split at h;rename_i x q;have e:evv (erO c) (JB s).env=some (.p (.b x)):=by rw[<-PD (erO c) (JB s),cA q];rfl
  rw[erc,JIN,e,Cu];split at h;rename_i z;subst z;rw[Da q]at h;simp only[if_true];exact lU n (c:=a) h;rename_i z;have:x=false:=by simpa using z
  subst this;rw[Da q]at h;simp only[eL,if_false];exact lU n (c:=b) h;cases h
 | .block id c,R,K,s,r,h=>by
  obtain⟨o,s1,h1,h2⟩:=lU n (c:=c) h;rw[erc,JHo,h1];cases o with
  |normal=>exact⟨.normal,s1,rfl,h2⟩
  |exit i=>
   simp only[ro];simp only[TK.at']at h2;split at h2;rename_i hi;rw[if_pos hi];exact⟨.normal,s1,rfl,h2⟩;rename_i hi;rw[if_neg hi];exact⟨.exit i,s1,rfl,h2⟩
  |ret=>exact⟨.ret,s1,rfl,h2⟩
 | .loop live c,R,K,s,r,h=>by
  unfold trc at h;obtain⟨⟨sh,v⟩,M,h⟩:=sC h;dsimp only at h;have E: ∀(k:Nat) {j:TSt} {r:R},UB (rT s.sto.length live) (λagain s=>trc G c R ⟨again,K.x,K.r⟩ s) k j=some r->
    ∃o s',X T (.lp s.sto.length live (erc c)) (JB j)=some (o,JB s')/\K.at' o s'=some r:=by
   intro k
   induction k with
   |zero=>intro j r h;cases h
   |succ k ih=>
    intro j r h;obtain⟨o,A,h1,h2⟩:=lU n (c:=c) h;rw[kz,h1];cases o with
    |normal=>
     obtain⟨N,C,h2⟩:=sC h2;grind [MK,FU]
    |exit i=>exact⟨.exit i,A,rfl,h2⟩
    |ret=>exact⟨.ret,A,rfl,h2⟩
  have B: ∀{x:(tyL (v.map (·.1))).D} {r:R},Jd (λx:(tyL (v.map (·.1))).D=>onO (wB sh (oC (v.map (·.1)) x)) λs1=>
    trc G c ((tyL (v.map (·.1))).D⊕R) ⟨λs'=>onO (rT s.sto.length live s') λs'=>orO (DE sh (v.map (·.1)) s') λ_=>UB (rT s.sto.length live) (λagain s=>trc G c R ⟨again,K.x,K.r⟩ s) 3 s',λi s'=>(K.x i s').map .inr,λs'=>(K.r s').map .inr⟩ s1) x=some r->
    ∃st,wB sh (oC (v.map (·.1)) x)=some st/\ ∃o s',X T (.lp s.sto.length live (erc c)) (JB st)=some (o,JB s')/\K.at' o s'=some r:=by
   intro x r L;refine fv (P:=fun(x:(tyL (v.map (·.1))).D) (r:R)=> ∃st,wB sh (oC (v.map (·.1)) x)=some st/\ ∃o s',X T (.lp s.sto.length live (erc c)) (JB st)=some (o,JB s')/\K.at' o s'=some r) ?_ ?_ L;intro x r q;obtain⟨st,w,q⟩:=sC q;obtain⟨o,s1,h1,h2⟩:=lU n (c:=c) q;refine⟨st,w,?_⟩;rw[kz,h1];cases o with
   |normal=>
    obtain⟨j,C,h2⟩:=sC h2;unfold orO at h2;grind [Option.map_eq_some_iff,MK,FU]
   |exit i=>obtain⟨r',h3,g⟩:=gM.1 h2;injection g with g;subst g;exact⟨.exit i,s1,rfl,h3⟩
   |ret=>obtain⟨r',h3,g⟩:=gM.1 h2;injection g with g;subst g;exact⟨.ret,s1,rfl,h3⟩
   rintro x y r q ⟨st',I,o,A,J,H⟩;obtain⟨st,w,q⟩:=sC q;obtain⟨F,s1,h1,h2⟩:=lU n (c:=c) q;refine⟨st,w,?_⟩;rw[kz,h1];cases F with
   |normal=>
    obtain⟨j,C,h2⟩:=sC h2;unfold orO at h2;grind [Ef,MK,FU,Option.map_eq_some_iff]
   |exit i=>obtain⟨r',_,g⟩:=gM.1 h2;cases g
   |ret=>obtain⟨r',_,g⟩:=gM.1 h2;cases g
  obtain⟨st,w,o,s',h1,h2⟩:=B h;rw[gp,qi M]at w;grind [erc,JB,JJT,db]
 | .scope c,R,K,s,r,h=>by
  obtain⟨o,s1,h1,h2⟩:=lU n (c:=c) h;grind [erc,JHL]
 | .exit id,R,K,s,r,h=>⟨.exit id,s,by simp[erc],h⟩
 | .ret,R,K,s,r,h=>⟨.ret,s,by rw[erc,Z0],h⟩
 | .keep live c,R,K,s,r,h=>by
  obtain⟨o,s1,h1,h2⟩:=lU n (c:=c) h;grind [erc,Dd,db]
 | .tidy live c,R,K,s,r,h=>by
  obtain⟨o,s1,h1,h2⟩:=lU n (c:=c) h;rw[erc,JJk,h1,H0,show(JB s).sto.length=s.sto.length by simp[JB]];cases o with
  |normal=>obtain⟨j,h3,g⟩:=sC h2;rw[FU h3];exact⟨.normal,j,rfl,g⟩
  |exit i=>obtain⟨j,h3,g⟩:=sC h2;rw[FU h3];exact⟨.exit i,j,rfl,g⟩
  |ret=>obtain⟨j,h3,g⟩:=sC h2;rw[FU h3];exact⟨.ret,j,rfl,g⟩
 | .jn sh ts a b,R,K,s,r,h=>by
  unfold trc at h;rw[erc,C3];cases ho:trc G a ((tyL ts).D⊕R) ⟨λs'=>inl? (DE sh ts ⟨pY (sh.env.map (·.1)) s'.env,s'.sto⟩),λi s'=>(K.x i s').map .inr,λs'=>(K.r s').map .inr⟩ s with
  |none=>rw[ho]at h;cases h
  |some res=>
   rw[ho]at h;obtain⟨o,s1,h1,h2⟩:=lU n (c:=a) ho;rw[h1];cases o with
   |normal=>
    obtain⟨x,q,rfl⟩:=JFL h2;obtain⟨j,h3,g⟩:=sC h;rw[Ef q]at h3;injection h3 with h3;subst h3;obtain⟨o,A,J,H⟩:=lU n (c:=b) g;grind [MK,Dd,db]
   |exit i=>obtain⟨r',h3,g⟩:=gM.1 h2;subst g;injection h with h;subst h;exact⟨.exit i,s1,rfl,h3⟩
   |ret=>obtain⟨r',h3,g⟩:=gM.1 h2;subst g;injection h with h;subst h;exact⟨.ret,s1,rfl,h3⟩
end Go.Am
end
section
namespace Go.Am
structure TFn where
 np:Nat
 nt:Nat
 body:TCo
 res:List zG
 fresh:Bool
def aN(f:TFn):AFn:=⟨f.np,f.nt,erc f.body,f.res.map erR,f.fresh⟩
def KI:Nat->List TA->List (Nat×TV)|_,[]=>[]|k,x::r=>(k,.a x)::KI (k+1) r
theorem rz(L:Nat->Nat): ∀(k:Nat) (xs:List TA),jO k (xs.map (bY L))=gG L (KI k xs)|_,[]=>rfl|k,x::r=>by have:=rz L (k+1) r;simp only[bP,jO,KI,gG,this];rfl
noncomputable def vP(G:TG)(f:TFn){R:Type}(xs:List TA)(bl:List TB)(E:TV->List TB->Option R):Option R:=if xs.length=f.np then trc G f.body R ⟨λs=>LP f.res f.fresh bl.length s E,λ_ _=>none,λs=>LP f.res f.fresh bl.length s E⟩ ⟨KI 0 xs,bl⟩else none
theorem JI8{T:eO}{G:TG}(e:GOk (AF T) G){g:FuncId}{f:TFn}(hf:T g=some (.fn (aN f))){R:Type}{xs:List TA}{bl:List TB}{E:TV->List TB->Option R}{r:R}(h:vP G f xs bl E=some r):
  ∃v out,AF T g (xs.map (bY (lns bl))) (bl.map (bB (lns bl)))=some (aT (lns out) v,out.map (bB (lns out)))/\E v out=some r:=by
 unfold vP at h;split at h;rename_i x;obtain⟨o,s',h1,h2⟩:=lU e h;have j:JB ⟨KI 0 xs,bl⟩=⟨jO 0 (xs.map (bY (lns bl))),bl.map (bB (lns bl))⟩:=by simp[JB,rz]
 rw[j]at h1;have fin:LP f.res f.fresh bl.length s' E=some r-> ∃v out,iE (aN f) bl.length (JB s')=some (aT (lns out) v,out.map (bB (lns out)))/\E v out=some r:=
  λh=>JCE rfl rfl h
 have y: ∀q,iE (aN f) bl.length (JB s')=some q->(o=.normal\/o=.ret)->AF T g (xs.map (bY (lns bl))) (bl.map (bB (lns bl)))=some q:=by intro q k w;rw[JLN T hf,if_pos (by rw[fE];exact x),show(aN f).body=erc f.body from rfl,h1,fE];rcases w with rfl|rfl<;>exact k
 cases o with
 |normal=>
  obtain⟨v,out,h3,n⟩:=fin h2;grind
 |exit i=>cases h2
 |ret=>
  obtain⟨v,out,h3,n⟩:=fin h2;grind
 cases h
structure TE where
 f:FuncId
 go: ∀{R:Type},List TA->List TB->(TV->List (Bool×TB)->Option R)->Option R
 fit:List TA->List TB->Bool
structure EOk(F:Orc)(e:TE):Prop where
 ok: ∀{R:Type} {xs:List TA} {bl:List TB} {kk:TV->List (Bool×TB)->Option R} {r:R},e.go xs bl kk=some r->
  ∃v out,F e.f (xs.map (bY (lns bl))) (bl.map (bB (lns bl)))=some (aT (qZ out) v,out.map λx=>bB (qZ out) x.2)/\
   (∀(k:Nat) x,out[k]?=some (true,x)->k<bl.length->lnB x=lns bl k)/\kk v out=some r
def goE{R:Type}(f:FuncId)(xs:List TA)(bl:List TB)(kk:TV->List (Bool×TB)->Option R):List TE->Option R|[]=>none|e::r=>if f=e.f/\e.fit xs bl=true then e.go xs bl kk else goE f xs bl kk r
def TG.of(l:List TE):TG:=⟨λf xs bl kk=>goE f xs bl kk l⟩
def zF(F:Orc):List TE->Prop|[]=>True|e::r=>EOk F e/\zF F r
theorem Dj{F:Orc}{R:Type}{f:FuncId}{xs:List TA}{bl:List TB}{kk:TV->List (Bool×TB)->Option R}{r:R}: ∀{l:List TE},zF F l->goE f xs bl kk l=some r->
  ∃v out,F f (xs.map (bY (lns bl))) (bl.map (bB (lns bl)))=some (aT (qZ out) v,out.map λx=>bB (qZ out) x.2)/\
   (∀(k:Nat) x,out[k]?=some (true,x)->k<bl.length->lnB x=lns bl k)/\kk v out=some r
 |[],_,h=>by cases h
 |e::l,g,h=>by
  simp only[goE]at h;split at h;rename_i j;obtain⟨rfl,_⟩:=j;exact g.1.ok h;exact Dj g.2 h
theorem JKk{F:Orc}{l:List TE}(h:zF F l):GOk F (TG.of l):=⟨λe=>Dj h e⟩
structure Sig where
 args:List ShA
 blks:List ShB
 ti:List Ty
 res:ShV
 out:List ShB
 same:List Bool
 to:List Ty
def nT(g:Sig)(x:(tyL g.ti).D):Option (List TA×List TB):=match mkL mkA g.args (oC g.ti x)with
 |some (xs,l)=>match mkL mkB g.blks l with|some (bl,[])=>some (xs,bl)|_=>none
 |none=>none
def yX(g:Sig)(xs:List TA)(bl:List TB):Option (tyL g.ti).D:=match shL shA xs,shL shB bl with|some (a,l),some (c,k)=>if a=g.args/\c=g.blks then asL g.ti (l++k)else none|_,_=>none
theorem JHW{g:Sig}{xs:List TA}{bl:List TB}{x:(tyL g.ti).D}(h:yX g xs bl=some x):nT g x=some (xs,bl):=by
 unfold yX at h;split at h;rename_i a l c k h1 h2;split at h;rename_i h0;obtain⟨rfl,rfl⟩:=h0;have e:=pV YB h2 [];rw[kO]at e;unfold nT;rw[YD h,pV YR h1 k];simp only[e];cases h;cases h
def IZ(g:Sig)(y:(tyL g.to).D):Option (TV×List TB):=match mkV g.res (oC g.to y)with
 |some (v,l)=>match mkL mkB g.out l with|some (out,[])=>some (v,out)|_=>none
 |none=>none
def pT(g:Sig)(v:TV)(out:List TB):Option (tyL g.to).D:=match shV v,shL shB out with|some (a,l),some (c,k)=>if a=g.res/\c=g.out then asL g.to (l++k)else none|_,_=>none
theorem JGe{g:Sig}{v:TV}{out:List TB}{y:(tyL g.to).D}(h:pT g v out=some y):IZ g y=some (v,out):=by
 unfold pT at h;split at h;rename_i a l c k h1 h2;split at h;rename_i h0;obtain⟨rfl,rfl⟩:=h0;have e:=pV YB h2 [];rw[kO]at e;unfold IZ;rw[YD h,D0 h1 k];simp only[e];cases h;cases h
def flg(same:List Bool)(out:List TB):List (Bool×TB):=match same,out with|b::r,x::l=>(b,x)::flg r l|[],x::l=>(false,x)::flg [] l|_,[]=>[]
theorem LW: ∀(same:List Bool) (out:List TB),(flg same out).map (·.2)=out|[],[]=>rfl|[],x::l=>by simp only[flg,bP,LW [] l]|b::r,[]=>rfl|b::r,x::l=>by simp only[flg,bP,LW r l]
def aG(f:FuncId)(g:Sig)(S:(tyL g.ti).D->Option (tyL g.to).D):TE:=
 ⟨f,λxs bl kk=>match yX g xs bl with
  |some x=>(S x).bind λy=>match IZ g y with|some (v,out)=>kk v (flg g.same out)|none=>none
  |none=>none,λxs bl=>(yX g xs bl).isSome⟩
def lu:ShB->Bool| .arr _ _=>false|_=>true
def EZ(g:Sig):Bool:=(List.range g.same.length).all λk=>match g.same[k]?,g.blks[k]?,g.out[k]? with|some true,some a,some c=>lu a&&lu c|some true,some _,none=>false|_,_,_=>true
theorem rn{x:TB}{s:ShB}{e:List Lf}(h:shB x=some (s,e))(hb:lu s=true):lnB x=0:=by
 cases x with
 |arr w t rows=>injection h with h;injection h with h1;subst h1;cases hb
 |_=>rfl
theorem XM{α σ:Type}{f:α->Option (σ×List Lf)}: ∀{xs:List α} {e:List σ} {j:List Lf},shL f xs=some (e,j)-> ∀(k:Nat) x,xs[k]?=some x-> ∃s l,e[k]?=some s/\f x=some (s,l)
 |[],_,_,_,k,x,g=>by simp at g
 |y::r,e,j,h,k,x,g=>by
  simp only[shL]at h;split at h;rename_i s l q k' h1 h2;injection h with h;injection h with h3 h4;subst h3 h4;cases k with
  |zero=>simp_all
  |succ k=>exact XM h2 k x (by simpa using g)
  cases h
theorem YS: ∀{same:List Bool} {out:List TB} {k:Nat} {x:TB},(flg same out)[k]?=some (true,x)->same[k]?=some true/\out[k]?=some x
 |[],[],k,x,h=>by simp[flg]at h
 |[],y::l,k,x,h=>by
  cases k with
  |zero=>simp[flg]at h
  |succ k=>simp only[flg,List.getElem?_cons_succ]at h;have:=YS (same:=[]) h;simp at this
 |b::r,[],k,x,h=>by simp[flg]at h
 |b::r,y::l,k,x,h=>by
  cases k with
  |zero=>grind [flg]
  |succ k=>simp only[flg,List.getElem?_cons_succ]at h;simpa using YS h
theorem LB{T:eO}{f:FuncId}{g:Sig}{S:(tyL g.ti).D->Option (tyL g.to).D}(hs:EZ g=true)
  (h: ∀x xs bl y,nT g x=some (xs,bl)->S x=some y-> ∃v out,AF T f (xs.map (bY (lns bl))) (bl.map (bB (lns bl)))=some (aT (lns out) v,out.map (bB (lns out)))/\pT g v out=some y):EOk (AF T) (aG f g S):=by
 refine⟨fun{R xs bl kk r} j=>?_⟩;simp only[aG]at j;split at j;rename_i x n;obtain⟨y,L,j⟩:=cR.1 j;split at j;rename_i v out o;obtain⟨C,e,h1,h2⟩:=h x xs bl y (JHW n) L;rw[JGe h2]at o;injection o with o;injection o with hv1 hv2;subst hv1 hv2;refine⟨C,flg g.same e,?_,λk z K A=>?_,j⟩;unfold qZ;rw[LW];have:(flg g.same e).map (λx=>bB (lns e) x.2)=e.map (bB (lns e)):=by
  conv=>rhs;rw[<-LW g.same e,zH]
  simp[LW]
 rw[this];exact h1;obtain⟨q,w⟩:=YS K;unfold EZ at hs;rw[TW]at hs;have hs:=hs k (by grind);unfold yX at n;split at n;rename_i a l c k' V J;split at n;rename_i H;obtain⟨U,lb,I,M⟩:=XM J k _ (zQ9 A);unfold pT at h2;split at h2;rename_i W Y O P Q G;split at h2;rename_i B;obtain⟨sc,N,F,E⟩:=XM G k z w;rw[q,<-H.2,I,<-B.2,F]at hs;simp only[JZ]at hs;rw[rn E hs.2];unfold lns;rw[zQ9 A];exact(rn M hs.1).symm;cases h2;cases h2;cases n;cases n;cases j;cases j
theorem m6{T:eO}{f:FuncId}{g:Sig}{fn:TFn}{S:(tyL g.ti).D->Option (tyL g.to).D}{l:List TE}(hf:T f=some (.fn (aN fn)))(hl:zF (AF T) l)(hs:EZ g=true)
  (h: ∀x,onO (nT g x) (λy=>vP (TG.of l) fn y.1 y.2 (pT g))=S x):EOk (AF T) (aG f g S):=by
 refine LB hs λx xs bl y j e=>?_;have h0:=h x;rw[j,e]at h0;exact JI8 (JKk hl) hf h0
def qV{α β:Type}(S:(α->Option β)->α->Option β):Nat->α->Option β|0=>λ_=>none|n+1=>S (qV S n)
theorem YQ{T:eO}{f:FuncId}{g:Sig}{fn:TFn}{S:((tyL g.ti).D->Option (tyL g.to).D)->(tyL g.ti).D->Option (tyL g.to).D}{l:List TE}(hf:T f=some (.fn (aN fn)))(hl:zF (AF T) l)(hs:EZ g=true)
  (h: ∀r x,onO (nT g x) (λy=>vP (TG.of (aG f g r::l)) fn y.1 y.2 (pT g))=S r x): ∀n,EOk (AF T) (aG f g (qV S n))
 |0=>LB hs λx xs bl y j e=>by cases e
 |n+1=>m6 hf (l:=aG f g (qV S n)::l) (And.intro (YQ hf hl hs h n) hl) hs (h (qV S n))
end Go.Am
end
section
namespace Go.Am
end Go.Am
end
section
namespace Go.Am
theorem JGg(t:Ty)(x:t.D)(r:List Lf):lf1 t (⟨t,x⟩::r)=some (x,r):=by simp[lf1]
end Go.Am
end
