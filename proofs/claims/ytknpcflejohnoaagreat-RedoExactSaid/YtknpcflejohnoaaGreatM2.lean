/-
  Parts of a proof.
-/
import Derived.Orders
import Derived.LoopN
import Derived.Scope
import Derived.Below
import Derived.Test.YtknpcflejohnoaaGreatM1
set_option linter.unusedSimpArgs false
set_option linter.unusedVariables false
section
namespace Go.Am
section
variable {P:Program} {F:Orc} {s:Sn} {a:Act} {env:List (Nat×AV)} {o:Oper} {new:Nat} {e:Eff}
theorem pv{q:List Blk}(hi:Inv s)(A:Frz q s.σ){x:AV}{y:AV×List (Nat×Blk)}{v:Value}(h:(jA x).run ⟨env,q⟩=some y)(hr:JL s x v):
  ∃g',Inv ⟨upd y.2 s.σ,g',s.w⟩/\bB s ⟨upd y.2 s.σ,g',s.w⟩/\Frz s.σ (upd y.2 s.σ)/\JL ⟨upd y.2 s.σ,g',s.w⟩ y.1 v:=by
 have same: ∀{z:AV},(RM.ret (z,[]):RM (AV×List (Nat×Blk))).run ⟨env,q⟩=some y->JL s z v-> ∃g',Inv ⟨upd y.2 s.σ,g',s.w⟩/\bB s ⟨upd y.2 s.σ,g',s.w⟩/\Frz s.σ (upd y.2 s.σ)/\JL ⟨upd y.2 s.σ,g',s.w⟩ y.1 v:=(by intro z j hr;simp only[RM.run]at j;injection j with j;subst j;exact⟨s.g,hi,.refl s,.refl _,hr⟩);cases x with
 |slr b i n=>
  simp only[jA]at h;obtain⟨B,h1,h⟩:=bind_some h;obtain⟨g',k,r,o,c,H,D⟩:=LO hi A h1 hr;rw[H]at h;simp only[RM.run]at h;injection h with h;subst h;exact⟨g',k,r,o,.p _ _ D⟩
 |agg cs=>
  simp only[jA]at h;obtain⟨B,h1,h⟩:=bind_some h;simp only[RM.run]at h;injection h with h;subst h;obtain⟨g',k,r,o,E,C⟩:=XY hi A h1 hr;cases hr with
  |agg _ vs h1 h0 h2=>exact⟨g',k,r,o,.data _ _ E λi x v F G=>C i x v F G⟩
 |tup=>grind [jA,RM.run]
 |p c=>exact same h hr
 |data cs=>exact same h hr
 |ptr b off=>exact same h hr
 |cp cs off=>exact same h hr
 |ep b e i off=>exact same h hr
 |fn f first caps=>exact same h hr
 |unk=>exact same h hr
theorem rn{q:List Blk}: ∀{xs:List AV} {s:Sn} {y:List AV×List (Nat×Blk)} {vs:List Value},Inv s->Frz q s.σ->(jZ xs).run ⟨env,q⟩=some y->xs.length=vs.length->
  (∀(i:Nat) x v,xs[i]?=some x->vs[i]?=some v->JL s x v)->
  ∃g',Inv ⟨upd y.2 s.σ,g',s.w⟩/\bB s ⟨upd y.2 s.σ,g',s.w⟩/\Frz s.σ (upd y.2 s.σ)/\y.1.length=vs.length/\
   ∀(i:Nat) x v,y.1[i]?=some x->vs[i]?=some v->JL ⟨upd y.2 s.σ,g',s.w⟩ x v
 |[],s,y,vs,hi,j,h,e,k=>by
  simp only[jZ,RM.run]at h;injection h with h;subst h;exact⟨s.g,hi,.refl s,.refl _,by simpa using e,λi c v G=>by simp at G⟩
 |x::xs,s,y,[],hi,j,h,e,k=>by simp at e
 |x::xs,s,y,v::vs,hi,j,h,e,k=>by
  simp only[jZ]at h;obtain⟨z,h1,h⟩:=bind_some h;obtain⟨L,h2,h⟩:=bind_some h;simp only[RM.run]at h;injection h with h;subst h;obtain⟨C,i1,o,n,J⟩:=pv hi j h1 (k 0 x v rfl rfl);obtain⟨B,i2,r,A,F,K⟩:=rn (s:=⟨upd z.2 s.σ,C,s.w⟩) i1 (j.trans n) h2 (by simpa using e) λi x v D E=>(k (i+1) x v (by simpa using D) (by simpa using E)).mono hi o;refine⟨B,by grind [fE],by rw[fE];exact o.trans r,by rw[fE];exact n.trans A,by simp[F],λi c' I hc' H=>?_⟩;grind [JL.mono,upd]
def Cc(s1:Sn)(es:List Ent)(new:Nat)(e:Ent)(x:Blk)(y:Nat×Blk):Prop:=
 y.1=e.id/\match e with
 | .whole _=>(∃cs l,x=.box cs/\bk.bkL es new cs=some l/\y.2=.box l)\/(∃w esz rows,x=.arr w esz rows/\y.2=.arr w esz rows)
 | .elem b _ i=> ∃w esz rows g,s1.σ[b]?=some (.arr w esz rows)/\x=.box (g.map .p)/\y.2=.arr w esz (rows.set i g)
theorem JC7{g:List Blk}{ws:List (Nat×Blk)}(k:s.σ=upd ws g){es:List Ent}{en:Ent}{x:Blk}{y:Nat×Blk}(h:(sW ws es new en x).run ⟨env,g⟩=some y):Cc s es new en x y:=by
 unfold sW at h;split at h;rename_i b cs;split at h;rename_i l o;simp only[RM.run]at h;injection h with h;subst h;exact⟨rfl,.inl ⟨cs,l,rfl,o,rfl⟩⟩;cases h;simp only[RM.run]at h;injection h with h;subst h;exact⟨rfl,.inr ⟨_,_,_,rfl,rfl⟩⟩;rename_i b ext i cs;obtain⟨z,h1,h⟩:=bind_some h;have j:=ZX h1;rw[<-k]at j;cases z with
 |arr w esz rows=>
  dsimp only at h;split at h;rename_i e n;simp only[RM.run]at h;injection h with h;subst h;exact⟨rfl,w,esz,rows,e,j,by grind [QK],rfl⟩;cases h
 |_=>cases h
 cases h
theorem tq{j:List Blk}{ws:List (Nat×Blk)}(n:s.σ=upd ws j){es:List Ent}: ∀{e:List Ent} {xs:List Blk} {g:List (Nat×Blk)},(iU ws es new e xs).run ⟨env,j⟩=some g->
  e.length=g.length/\e.length<=xs.length/\ ∀(k:Nat) en x y,e[k]?=some en->xs[k]?=some x->g[k]?=some y->Cc s es new en x y
 |[],xs,g,h=>by grind [iU,RM.run]
 |_::_,[],g,h=>by cases h
 |en::e,x::xs,g,h=>by
  simp only[iU]at h;obtain⟨y,h1,h⟩:=bind_some h;obtain⟨l,h2,h⟩:=bind_some h;simp only[RM.run]at h;injection h with h;subst h;obtain⟨o,q,r⟩:=tq n h2;grind [JC7]
theorem gl{es:List Ent}: ∀{xs:List Blk} {g:Nat} {e:List (Nat×Blk)},hI es new g xs=some e->
  xs.length=e.length/\ ∀(j:Nat) x y,xs[j]?=some x->e[j]?=some y->y.1=g+j/\((∃cs l,x=.box cs/\bk.bkL es new cs=some l/\y.2=.box l)\/(∃w esz rows,x=.arr w esz rows/\y.2=.arr w esz rows))
 |[],g,e,h=>by grind [hI]
 | .dead::_,g,e,h=>by grind [hI]
 | .box cs::xs,g,e,h=>by
  simp only[hI]at h;split at h;rename_i c l q k;injection h with h;subst h;obtain⟨n,o⟩:=gl k;grind;cases h
 | .arr w esz rows::xs,g,e,h=>by
  simp only[hI]at h;split at h;rename_i l k;injection h with h;subst h;obtain⟨n,o⟩:=gl k;grind;cases h
theorem rg(b:Nat)(p q:List (Nat×Blk)):jG b (p++q)=match jG b q with
  |some y=>some y
  |none=>jG b p:=by
 induction p with
 |nil=>grind [jG]
 |cons x p ih=>
  grind [jG]
theorem cu{b:Nat}{x:Blk}: ∀{ws:List (Nat×Blk)},(ws.map (·.1)).Nodup-> ∀{k:Nat},ws[k]?=some (b,x)->jG b ws=some x
 |[],_,k,h=>by simp at h
 |(c,z)::r,hn,k,h=>by
  obtain⟨h1,h2⟩:=List.nodup_cons.1 hn;simp only[jG];cases k with
  |zero=>
   grind [wG]
  |succ k=>rw[cu h2 (k:=k) (by simpa using h)]
theorem Fz(n k:Nat):((List.range k).map (n+ ·)).Nodup:=by
 grind [List.nodup_range]
theorem rk(hF:jN P F){f:FuncId}{ar:List AV×List (Nat×Blk)}{q:Nat}{vals:Array Value}(H: ∀j,j<q->s.σ[new+j]?=some .dead)
  {g1:Gh} (i1:Inv ⟨upd ar.2 s.σ,g1,s.w⟩) (t1:bB s ⟨upd ar.2 s.σ,g1,s.w⟩) (f1:Frz s.σ (upd ar.2 s.σ)) (l1:ar.1.length=vals.toList.length)
  (r1: ∀(i:Nat) x v,ar.1[i]?=some x->vals.toList[i]?=some v->JL ⟨upd ar.2 s.σ,g1,s.w⟩ x v)
  (h:(fW F f ar q new).run ⟨env,s.σ⟩=some e)
  (ah: ∀fn,P.funcs[f]?=some fn→fn.body.isSome=true→(fn.name== "runtime.NumGoroutine")=false→(execOp a.eval o).run P s.w=.ok (.enter f vals) s.w):bP P o a s e:=by
 unfold fW at h;obtain⟨b6,h2,h⟩:=bind_some h;obtain⟨es,h3,h⟩:=bind_some h;split at h;rename_i ag;split at h;cases h;rename_i N a6;obtain⟨blks,h4,h⟩:=bind_some h;split at h;cases h;rename_i r a8;split at h;rename_i V;obtain⟨k,hlen,hk⟩: ∃k,r.2.length=es.length+k/\k<=q:=⟨r.2.length-es.length,by omega,by omega⟩;have M: ∀j,j<k->s.σ[new+j]?=some .dead:=λj hj=>H j (by omega);clear V;split at h;rename_i v fresh hv K;obtain⟨n,h5,h⟩:=bind_some h;simp only[RM.run]at h;injection h with h;subst h
 let s1:Sn:=⟨upd ar.2 s.σ,g1,s.w⟩
 obtain⟨bl,a5⟩:=s6 (s:=s1) rfl h4;have cin:XR s1 es blks:=⟨i1,RK ag,bl,a5⟩;obtain⟨⟨fn,ae,O,S⟩,R⟩:=hF f N blks r a8;obtain⟨q1,q2⟩:=tN a6;have ci:=JKX cin;have hc:=R (hQ s1 es blks).g s.w vals ci (by grind) (λi x v hx hv=>by have A:=JC hx;have Y:ar.1[i]?=some (ar.1[i]'(by omega)):=zQ9 _;exact B2 cin (r1 i _ v Y (by simpa using hv)) (q2 i _ x Y hx));intro next Q T;simp only[Oper.wp,ah fn ae O S,Oper.upon];refine hc.mono ?_;rintro e w' ⟨rv,g',rfl,a7,I,a2⟩;simp only;obtain⟨b1,b2,b3⟩:=tq (s:=s1) rfl h5;obtain⟨n1,n2⟩:=gl K;have B: ∀j,j<k->s1.σ[new+j]?=some .dead:=λj hj=>f1.2 _ _ (M j hj) (by simp);have b9:(r.2.drop es.length).length=k:=by simp;omega
 have ac:n.map (·.1)=es.map Ent.id:=(by apply zQ6;intro i;rw[fS,fS];by_cases A:i<es.length;have G:es[i]?=some es[i]:=zQ9 A;have L:n[i]?=some (n[i]'(by omega)):=zQ9 _;have E:r.2[i]?=some (r.2[i]'(by omega)):=zQ9 _;have:=(b3 i _ _ _ G E L).1;grind;grind);have ab: ∀j,j<k->fresh[j]?=some (new+j,(fresh[j]?.map (·.2)).getD .dead):=(by grind);have al:(fresh.map (·.1)).Nodup:=(by have:fresh.map (·.1)=(List.range k).map (new+ ·):=(by apply zQ6;grind);grind [Fz]);have ak: ∀b,b∈fresh.map (·.1)↔new<=b/\b<new+k:=(by intro b;constructor;grind [List.getElem?_of_mem];intro hm;have:=ab (b-new) (by omega);grind);have W:(upd (n++fresh) s1.σ).length=s1.σ.length:=yU _ _;have U: ∀{q:Nat} {en:Ent},es[q]?=some en->en.id<s1.σ.length/\ ¬(new<=en.id/\en.id<new+k):=by
  intro q en C;obtain⟨x,_,Z⟩:=qK cin C;have z: ∃y,s1.σ[en.id]?=some y/\y≠.dead:=by
   cases en with
   |whole b=>
    rcases Z with⟨cs',l,h1,h2,rfl⟩|⟨w,a1,rows',h1,rfl⟩;exact⟨_,h1,by simp⟩;exact⟨_,h1,by simp⟩
   |elem b ext i=>obtain⟨a1,rows',row,h1,h2,h3,rfl⟩:=Z;exact⟨_,h1,by simp⟩
  obtain⟨y,z,hd⟩:=z;refine⟨JC z,λhm=>?_⟩;have:=B (en.id-new) (by omega);rw[show new+(en.id-new)=en.id by omega,z]at this;grind
 have aa: ∀{q:Nat} {en:Ent} {y:Nat×Blk},es[q]?=some en->n[q]?=some y->(upd (n++fresh) s1.σ)[en.id]?=some y.2:=by intro q en y C z;obtain⟨A,b7⟩:=U C;have E:r.2[q]?=some (r.2[q]'(by grind)):=zQ9 _;have af:=(b3 q en _ y C E z).1;rw[vT _ _ _ A,rg,wG (by grind)];simp only;rw[cu (x:=y.2) (by rw[ac];exact cin.nodup) (k:=q) (by grind)]
 have au: ∀{j:Nat} {y:Nat×Blk},j<k->fresh[j]?=some y->(upd (n++fresh) s1.σ)[new+j]?=some y.2:=(by grind [vT,rg,cu]);have co:De s1 es blks new k ⟨r.2,g',w'⟩ (upd (n++fresh) s1.σ):=by
  refine⟨cin,a7,I,hlen,W,B,λq y z=>?_,λb bb b8=>?_⟩;have z:r.2[q]?=some y:=z;unfold oO;cases C:es[q]? with
  |some en=>
   have A:=JC C;have L:n[q]?=some (n[q]'(by omega)):=zQ9 _;obtain⟨af,a0⟩:=b3 q en y _ C z L;have hg:=aa C L;cases en with
   |whole b=>
    rcases a0 with⟨cs,l,G,E,J⟩|⟨w,esz,rows,G,J⟩;exact .inl ⟨cs,l,G,E,by rw[<-J];exact hg⟩;exact .inr ⟨w,esz,rows,G,by rw[<-J];exact hg⟩
   |elem b ext i=>obtain⟨w,esz,rows,a4,G,E,J⟩:=a0;exact⟨w,esz,rows,a4,G,E,by rw[<-J];exact hg⟩
  |none=>
   have ba:es.length<=q:=(by grind);have A:=JC z;have L:fresh[q-es.length]?=some (fresh[q-es.length]'(by omega)):=zQ9 _;grind
  grind [vT,wG]
 have oi:=JI7 co;have ot:=qv co;have D:upd (ar.2++n++fresh) s.σ=upd (n++fresh) s1.σ:=by grind [fE]
 refine T rv w' (fN s1 es new k ⟨r.2,g',w'⟩ (upd (n++fresh) s1.σ)).g ?_ ?_ ?_;rw[D];exact oi;rw[D];exact t1.trans ot;rw[D];exact Ek co a2 hv;cases h;cases h;cases h
theorem Dk{f:FuncId}{args:List AV}{k:Nat}{s:St}(h:(iC F f args k new).run s=some e): ∃ar,(jZ args).run s=some ar/\(fW F f ar k new).run s=some e:=by
 unfold iC at h;obtain⟨ar,h1,h⟩:=bind_some h;obtain⟨v,h2,h⟩:=bind_some h;obtain⟨es,h3,h⟩:=bind_some h;refine⟨ar,h1,?_⟩;unfold fW;rw[run_bind,h2,JQ,run_bind,h3,JQ];split at h;rename_i n;rw[if_pos n];split at h;cases h;rename_i o g;obtain⟨blks,q,h⟩:=bind_some h
 try rw[g]
 try dsimp only
 rw[run_bind,q,JQ];split at h;cases h;rename_i r j
 try rw[j]
 try dsimp only
 split at h;grind;cases h;cases h
theorem Do(A:jN P F)(hi:Inv s){f:FuncId}{args:List AV}{k:Nat}{vals:Array Value}(g: ∀j,j<k->s.σ[new+j]?=some .dead)
  (h:(iC F f args k new).run ⟨env,s.σ⟩=some e) (hl:args.length=vals.size) (hr: ∀(i:Nat) x v,args[i]?=some x->vals[i]?=some v->JL s x v)
  (r: ∀fn,P.funcs[f]?=some fn→fn.body.isSome=true→(fn.name== "runtime.NumGoroutine")=false→(execOp a.eval o).run P s.w=.ok (.enter f vals) s.w):bP P o a s e:=by
 obtain⟨ar,h1,h2⟩:=Dk h;obtain⟨D,i1,B,z,C,y⟩:=rn (vs:=vals.toList) hi (.refl _) h1 (by simpa using hl) (λi x v n q=>hr i x v n (by simpa using q));grind [rk]
theorem JDE{r:List Blk}: ∀{m:List Bool} {xs:List AV} {s:Sn} {y:List AV×List (Nat×Blk)} {vs:List Value},Inv s->Frz r s.σ->(fM m xs).run ⟨env,r⟩=some y->xs.length=vs.length->
  (∀(i:Nat) x v,xs[i]?=some x->vs[i]?=some v->JL s x v)->
  ∃g',Inv ⟨upd y.2 s.σ,g',s.w⟩/\bB s ⟨upd y.2 s.σ,g',s.w⟩/\Frz s.σ (upd y.2 s.σ)/\y.1.length=vs.length/\
   ∀(i:Nat) x v,y.1[i]?=some x->vs[i]?=some v->JL ⟨upd y.2 s.σ,g',s.w⟩ x v:=by
 intro m xs
 induction xs generalizing m with
 |nil=>
  intro s y vs hi q h j k;have h:(RM.ret ([],[]):RM (List AV×List (Nat×Blk))).run ⟨env,r⟩=some y:=by cases m<;>exact h
  simp only[RM.run]at h;injection h with h;subst h;exact⟨s.g,hi,.refl s,.refl _,by simpa using j,λi c v M=>by simp at M⟩
 |cons x xs ih=>
  intro s y vs hi q h j k;cases vs with
  |nil=>simp at j
  |cons v vs=>
   have z: ∀{A:List Bool},((jA x).bind λa=>(fM A xs).bind λc=>.ret (a.1::c.1,a.2++c.2)).run ⟨env,r⟩=some y->
     ∃g',Inv ⟨upd y.2 s.σ,g',s.w⟩/\bB s ⟨upd y.2 s.σ,g',s.w⟩/\Frz s.σ (upd y.2 s.σ)/\y.1.length=(v::vs).length/\
      ∀(i:Nat) x o,y.1[i]?=some x->(v::vs)[i]?=some o->JL ⟨upd y.2 s.σ,g',s.w⟩ x o:=by
    intro A h;obtain⟨I,h1,h⟩:=bind_some h;obtain⟨K,h2,h⟩:=bind_some h;simp only[RM.run]at h;injection h with h;subst h;obtain⟨L,i1,H,G,N⟩:=pv hi q h1 (k 0 x v rfl rfl);obtain⟨C,i2,n,B,F,J⟩:=ih (m:=A) (s:=⟨upd I.2 s.σ,L,s.w⟩) i1 (q.trans G) h2 (by simpa using j) λi x v D E=>(k (i+1) x v (by simpa using D) (by simpa using E)).mono hi H;refine⟨C,by grind [fE],by rw[fE];exact H.trans n,by rw[fE];exact G.trans B,by simp[F],λi c' o hc' e=>?_⟩;grind [JL.mono,upd]
   cases m with
   |nil=>exact z h
   |cons b m=>
    cases b with
    |false=>exact z h
    |true=>
     simp only[fM]at h;obtain⟨K,h2,h⟩:=bind_some h;simp only[RM.run]at h;injection h with h;subst h;obtain⟨C,i2,n,B,F,J⟩:=ih (m:=m) hi q h2 (by simpa using j) λi x v D E=>k (i+1) x v (by simpa using D) (by simpa using E);refine⟨C,i2,n,B,by simp[F],λi c' o hc' e=>?_⟩;cases i with
     |zero=>simp at hc' e;subst hc' e;exact(k 0 x v rfl rfl).mono hi n
     |succ i=>grind
theorem g9{f:FuncId}{args:Array Value}{fn:Func}(h1:P.funcs[f]?=some fn)(h2:fn.body.isSome=true)(h3:(fn.name== "runtime.NumGoroutine")=false)(w:World):
  (callFunc f args).run P w=.ok (.enter f args) w:=by
 have e:fn.name≠ "runtime.NumGoroutine" :=by simpa using h3
 have g:fn.body≠none:=by grind
 simp_all [callFunc]
theorem JIp(y:jN P F)(hi:Inv s)(he:bQ s a.tmps env){f args k}(n: ∀j,j<k->s.σ[new+j]?=some .dead)(h:(opR F (.call f args k) new).run ⟨env,s.σ⟩=some e)
  (hc:aU P (.call f args k) o.op=true):bP P o a s e:=by
 simp only[opR]at h;obtain⟨vs,h1,w⟩:=bind_some h;clear h;unfold aU at hc;simp only at hc;split at hc;rename_i c C;split at hc;rename_i g z;simp only[aS,beq_iff_eq]at hc;obtain⟨rfl,q⟩:=hc;obtain⟨l,r⟩:=EJ he h1 q;refine Do y hi n w (vals:=c.args.map a.eval) (by simpa using l) (λi x v A B=>r i x v A (by simpa using B)) λfn G E D=>?_;simp_all [execOp,resolve,Act.eval,Deferred.ofValue,invoke,g9];cases hc;cases hc
theorem JF7(A:jN P F)(hi:Inv s)(he:bQ s a.tmps env){f keep args k}(n: ∀j,j<k->s.σ[new+j]?=some .dead)(h:(opR F (.callo f keep args k) new).run ⟨env,s.σ⟩=some e)
  (hc:aU P (.callo f keep args k) o.op=true):bP P o a s e:=by
 simp only[opR]at h;obtain⟨vs,h1,w⟩:=bind_some h;obtain⟨ar,h2,h3⟩:=bind_some w;clear h w;unfold aU at hc;simp only at hc;split at hc;rename_i c I;split at hc;rename_i g B;simp only[aS,beq_iff_eq]at hc;obtain⟨rfl,q⟩:=hc;obtain⟨l,r⟩:=EJ he h1 q;obtain⟨E,i1,C,z,D,y⟩:=JDE (vs:=(c.args.map a.eval).toList) hi (.refl _) h2 (by simpa using l) (λi x v G H=>r i x v G (by simpa using H));refine rk A n (vals:=c.args.map a.eval) i1 C z D y h3 λfn E K J=>?_;simp_all [execOp,resolve,Act.eval,Deferred.ofValue,invoke,g9];cases hc;cases hc
theorem JF1(C:jN P F)(hi:Inv s)(he:bQ s a.tmps env){x args k}(g: ∀j,j<k->s.σ[new+j]?=some .dead)(h:(opR F (.callv x args k) new).run ⟨env,s.σ⟩=some e)
  (hc:aU P (.callv x args k) o.op=true):bP P o a s e:=by
 simp only[opR]at h;obtain⟨u,h0,q⟩:=bind_some h;clear h;unfold aU at hc;simp only at hc;split at hc;rename_i c E;split at hc;rename_i y D;simp only[aS]at hc;obtain⟨B,n⟩:=hc;have A:=bL he h0 B;cases u with
 |fn f first caps=>
  dsimp only at q;obtain⟨vs,h1,w⟩:=bind_some q;obtain⟨l,r⟩:=EJ he h1 n;generalize M:a.eval y=z at A;cases A with
  |fn _ _ _ fs cs J I G H=>
   have l':vs.length=c.args.size:=by simpa using l
   refine Do C hi g w (vals:=fs++c.args.map a.eval++cs) (by simp;omega) (λi x v B O=>?_) λfn N L K=>?_;grind;grind [execOp,resolve,Deferred.ofValue,invoke,g9]
 |_=>cases q
 cases hc;cases hc
end
end Go.Am
end
section
namespace Go.Am
section
variable {P:Program} {F:Orc} {s:Sn} {a:Act} {env:List (Nat×AV)} {o:Oper} {new:Nat} {e:Eff}
theorem df: ∀(os:List (Nat×Nat)) (n:Nat) {s:Sn},Inv s->(∀j,j<os.length->s.σ[n+j]?=some .dead)->
  ∃g',Inv ⟨upd (gY os n) s.σ,g',s.w⟩/\bB s ⟨upd (gY os n) s.σ,g',s.w⟩/\
   (∀j,j<os.length->(∃esz,(upd (gY os n) s.σ)[n+j]?=some (.arr true esz []))/\g'.μ (n+j)=none)/\
   (∀b,b<n\/n+os.length<=b->(upd (gY os n) s.σ)[b]?=s.σ[b]?/\g'.μ b=s.g.μ b)
 |[],n,s,hi,_=>⟨s.g,hi,.refl s,λj e=>by simp at e,λb _=>⟨rfl,rfl⟩⟩
 |(off,esz)::r,n,s,hi,hd=>by
  obtain⟨i1,v⟩:=PZ hi (hd 0 (by simp)) esz;obtain⟨g',i2,q,h1,h2⟩:=df r (n+1) (s:=⟨s.σ.set n (.arr true esz []),fI s.g n none,s.w⟩) i1 (λj e=>by
   show(s.σ.set n _)[n+1+j]?=_;rw[rD (by omega)];have:=hd (j+1) (by simp;omega);grind)
  refine⟨g',i2,v.trans q,λj e=>?_,λb x=>?_⟩;cases j with
  |zero=>
   obtain⟨o,k⟩:=h2 n (.inl (by omega));refine⟨⟨esz,?_⟩,?_⟩;grind [upd,gY];rw[xO,k];exact if_pos rfl
  |succ j=>have:=h1 j (by simpa using e);rw[show n+(j+1)=n+1+j by omega];exact this
  obtain⟨o,k⟩:=h2 b (by grind);have h:n≠b:=by grind
  exact⟨o.trans (rD h),k.trans (if_neg (Ne.symm h))⟩
theorem s9{t:TypeId}{os:List (Nat×Nat)}{v:Value}(hv:zeT P t=some v)(h:OI P t os=true): ∀x∈os,v.cells[x.1]?=some (.slice none 0 0):=by
 grind [OI]
theorem de{cells:Array Value}: ∀(os:List (Nat×Nat)) (n:Nat) {cs:List AV},(∀x∈os,cells[x.1]?=some (.slice none 0 0))->
  (∀j,j<os.length->(∃esz,s.σ[n+j]?=some (.arr true esz []))/\s.g.μ (n+j)=none)->
  (∀(i:Nat) x,cs[i]?=some x-> ∃u,cells[i]?=some u/\JL s x u/\u.oneCell'=true)->
  ∀(i:Nat) x,(lT os n cs)[i]?=some x-> ∃u,cells[i]?=some u/\JL s x u/\u.oneCell'=true
 |[],_,_,_,_,h=>h
 |(off,esz)::r,n,cs,hz,ha,h=>by
  refine de r (n+1) (λx e=>hz x (by simp[e])) (λj q=>by
   have:=ha (j+1) (by simpa using q);grind) λi x e=>?_
  by_cases hi:off=i;subst hi;have k:=JC e;rw[List.length_set]at k;rw[CN k]at e;injection e with e;subst e;obtain⟨⟨o,h1⟩,h2⟩:=ha 0 (by simp);rw[xO]at h1 h2;exact⟨.slice none 0 0,hz (off,esz) (by simp),.slr n 0 0 _ true o [] ⟨none,0,rfl,.inl rfl⟩ h1 (zQ0 _) λ_=>.inl ⟨h2,rfl,rfl,rfl⟩,rfl⟩;simp_all
theorem ZY: ∀(os:List (Nat×Nat)) (n:Nat) (cs:List AV),(lT os n cs).length=cs.length|[],_,_=>rfl|_::r,n,cs=>(ZY r (n+1) _).trans (by simp)
theorem JAT(hi:Inv s){zero os}(n: ∀j,j<os.length+1->s.σ[new+j]?=some .dead)(h:(opR F (.newboxo zero os) new).run ⟨env,s.σ⟩=some e)(hc:aU P (.newboxo zero os) o.op=true):bP P o a s e:=by
 simp only[opR,RM.run]at h;injection h with h;subst h;unfold aU at hc;simp only at hc;split at hc;rename_i t K;simp only[aS]at hc;obtain⟨D,G⟩:=hc;obtain⟨v,H,M,E⟩:=tP D;obtain⟨y,i1,A,h1,h2⟩:=df os new hi λj O=>n j (by omega);have r:(upd (gY os new) s.σ)[new+os.length]?=some .dead:=((h2 _ (.inr (zQ0 _))).1).trans (n _ (by omega))
 let s1:Sn:=⟨upd (gY os new) s.σ,y,s.w⟩
 obtain⟨B,t'⟩:=PR (s0:=s1) i1 r (blk:=.box (lT os new (zero.map .p))) (c:=v.cells) (e:=t) (fz:=(0,0)) (w':={s.w with heap:=s.w.heap.push (.cells v.cells t)}) rfl rfl rfl
  (λo _ _ h=>by simp at h) (λ_ _ _ h=>by cases h) ⟨by grind [ZY],λi x q=>by
   obtain⟨u,N,L,J⟩:=de (s:=s1) (cells:=v.cells) os new (s9 H G) h1 (λi x q=>by
    rw[fS]at q;cases hzi:zero[i]? with
    |none=>simp_all
    |some c=>
     simp[hzi]at q;subst q;have I:=JC hzi;have z:i<v.cells.size:=by omega
     have:=E (w:=s1.w) (C:=s1.g.C) i c v.cells[i] hzi (by simp);exact⟨v.cells[i],by simp,.p _ _ this,this.one⟩) i x q
   simp_all⟩
 have k:upd (gY os new++[(new+os.length,Blk.box (lT os new (zero.map .p)))]) s.σ=(upd (gY os new) s.σ).set (new+os.length) (.box (lT os new (zero.map .p))):=by rw[fE];rfl
 refine hH (e:=⟨.ptr (new+os.length) 0,gY os new++[(new+os.length,.box (lT os new (zero.map .p)))]⟩) (v:=.pointer (some ⟨s.w.heap.size,0,none⟩)) (g':=fI y (new+os.length) (some (s.w.heap.size,0))) ?_
  (by rw[k];exact B) (by rw[k];exact A.trans t') (by rw[k];exact .ptr (new+os.length) 0 _ 0 (if_pos rfl) ⟨_,jV r⟩)
 simp_all [execOp,Instr.alloc,EP,newVar,newRow];cases hc
theorem JDB(hi:Inv s)(he:bQ s a.tmps env)(hn:s.σ[new]?=some .dead){esz x}(h:(opR F (.storen esz x) new).run ⟨env,s.σ⟩=some e)(hc:aU P (.storen esz x) o.op=true):bP P o a s e:=by
 simp only[opR]at h;obtain⟨u,h1,L⟩:=bind_some h;obtain⟨H,h2,h3⟩:=bind_some L;clear h L;simp only[RM.run]at h3;injection h3 with h3;subst h3;obtain⟨J,Q⟩:=PZ hi hn esz;unfold aU at hc;simp only at hc;split at hc;rename_i t M ag;simp only[aS,beq_iff_eq]at hc;obtain⟨hs,hx⟩:=hc;have v:=bL he h1 hx;have N: ∀{r n:Nat} {w':World},a.eval M=.pointer (some ⟨r,n,none⟩)->(storeVar t ⟨r,n,none⟩ (.slice none 0 0)).run P s.w=.ok () w'->(execOp a.eval o).run P s.w=.ok .skip w':=by intro r n w' R a9;have ac:a.eval (.const (.slice none 0 0))=.slice none 0 0:=rfl;simp_all [execOp,Instr.storeAt,Instr.sureAddr]
 unfold iE at h2;split at h2;rename_i b off;simp only[RM.run]at h2;split at h2;rename_i blk G;split at h2;rename_i cs;split at h2;rename_i l hl;split at h2;rename_i a6;split at h2;rename_i cs' C;simp only[RM.run]at h2;injection h2 with h2;subst h2;have G:s.σ[b]?=some (.box cs):=G;have O:new≠b:=λe=>by simp_all
 let s1:Sn:=⟨s.σ.set new (.arr true esz []),fI s.g new none,s.w⟩
 have B:s1.σ[b]?=some (.box cs):=(rD O).trans G;have Z:JL s1 (.slr new 0 0) (.slice none 0 0):=
  .slr new 0 0 _ true esz [] ⟨none,0,rfl,.inl rfl⟩ (jV hn) (zQ0 _) λ_=>.inl ⟨if_pos rfl,rfl,rfl,rfl⟩
 generalize R:a.eval M=z at v;have v:=JL.mono (s:=s1) hi Q v;cases v with
 |ptr _ _ r n m aa=>
  obtain⟨k1,I,Y⟩:=RW hl Z;obtain⟨S,j2,U,j4⟩:=PI C;obtain⟨r1,o1,c,W,fz,A,D,ad,ab,hf⟩:=J.box b cs B;rw[m]at A;injection A with A;injection A with m1 m2;subst m1 m2;have q:=MD (vs:=(Value.slice none 0 0).cells.toList) (o:=n+off) D (by simp;omega);have hlen:(Value.slice none 0 0).cells.toList.length=l.length:=by simp[k1]
  obtain⟨i',t'⟩:=ff (s0:=s1) J (blk:=.box cs') B q (λk h1 h2=>by
   grind [Wr1]) (.box _ _ S) (λa7 j E=>by
   injection j with j;subst j;obtain⟨c0,e0,af,c',y,T,p3,p4,V,p6⟩:=q.there;rw[D]at y;injection y with y;injection y with q1 q2 q3;subst q1 q2 q3;refine⟨r,n,c',W,fz,m,T,by omega,λi x K=>?_,by simp_all⟩;by_cases ah:off<=i/\i<off+l.length;have H:cs'[off+(i-off)]?=l[i-off]?:=U (i-off) (by omega);rw[show off+(i-off)=i by omega,K]at H;have a8:i-off<(Value.slice none 0 0).cells.size:=by omega
   have e2:=V (i-off) (Value.slice none 0 0).cells[i-off] (by simp);refine⟨(Value.slice none 0 0).cells[i-off],by rw[<-e2];congr 1;omega,E (Y (i-off) x _ H.symm (by simp)),I _ (by simp)⟩;grind)
   (λ_ _ j=>by cases j)
  refine eu (e:=⟨gM,(new,.arr true esz [])::[(b,.box cs')]⟩) (N R (gz (by simp_all) D (by omega) (λk h1 h2=>hf k (by omega) (by omega)) I)) rfl i' (Q.trans t')
 cases h2;cases h2;cases h2;cases h2;cases h2;rename_i b ext i off;have ae:(fz (.slr new 0 0)).run ⟨env,s.σ⟩=none:=(by grind [fz,RM.run]);simp only[RM.run]at h2;split at h2;split at h2;split at h2;split at h2;grind [run_bind];cases h2;cases h2;cases h2;cases h2;cases h2;cases hc
theorem JDX(hi:Inv s)(he:bQ s a.tmps env){zero parts os}(G: ∀j,j<os.length->s.σ[new+j]?=some .dead)(h:(opR F (.buildo zero parts os) new).run ⟨env,s.σ⟩=some e)
  (hc:aU P (.buildo zero parts os) o.op=true):bP P o a s e:=by
 simp only[opR]at h;obtain⟨l,h1,q⟩:=bind_some h;clear h;unfold aU at hc;simp only at hc;split at hc;rename_i t ps ab;simp only[aS]at hc;obtain⟨⟨hz,hn⟩,E⟩:=hc;obtain⟨z,O,ac,R⟩:=tP hz;obtain⟨T,i1,Q,L,ad⟩:=df os new hi G;split at q;rename_i cs hcs;split at q;rename_i r h3;simp only[RM.run]at q;injection q with q;subst q
 let s1:Sn:=⟨upd (gY os new) s.σ,T,s.w⟩
 have H: ∀(i:Nat) x,(lT os new (zero.map AV.p))[i]?=some x-> ∃u,z.cells[i]?=some u/\JL s1 x u/\u.oneCell'=true:=
  de (s:=s1) (cells:=z.cells) os new (s9 O hn) L (by
   intro i x K;rw[fS]at K;cases hzi:zero[i]? with
   |none=>simp_all
   |some c=>
    simp[hzi]at K;subst K;have M:=JC hzi;have a0:i<z.cells.size:=by omega
    have:=R (w:=s1.w) (C:=s1.g.C) i c z.cells[i] hzi (by simp);exact⟨z.cells[i],by simp,.p _ _ this,this.one⟩)
 have fin: ∀{place:Nat->Option (Nat×Nat)},qZ place parts ps.toList=true->
   ∃n,Instr.fill place z.cells (ps.toList.map λx=>(x.1,a.eval x.2))=some n/\JL s1 r (.agg n):=by
  intro place D;obtain⟨W,k2⟩:=fy he h1 D;obtain⟨n,N,f2,f3⟩:=ej (s:=s1) (cells:=z.cells) hcs W (λk off size cs i v hk I=>by obtain⟨p1,Z,V,Y⟩:=k2 k off size cs i v hk I;exact⟨p1,Z,V,λj y u U J=>(Y j y u U J).mono hi Q⟩) (by grind [ZY]) H;refine⟨n,N,?_⟩;have:=OP (s:=s1) (vs:=n.toList) h3 (by simpa using f2) (λv I=>by
    obtain⟨i,A⟩:=mA I;have A:n[i]?=some v:=by simpa using A
    have M:=RL A;obtain⟨u,J,_,h1⟩:=f3 i cs[i] (by simp_all);simp_all)
   (λi y v U I=>by
    grind)
  simp_all
 have ae:(ps.map λx=>(x.1,a.eval x.2)).toList=ps.toList.map λx=>(x.1,a.eval x.2):=by simp
 split at E;rename_i fs J;simp only[aS]at E;obtain⟨B,D⟩:=E;obtain⟨n,N,hr⟩:=fin D;have aa:(λi=>(fs.map λf=>(f.offset,(szT P f.type).getD 0))[i]?)=EK P fs:=by
  funext i
  simp only[EK,Array.getElem?_map];cases hfi:fs[i]? with
  |none=>rfl
  |some f=>have:=UD.1 B f (Array.mem_of_getElem? hfi);cases hq:szT P f.type<;>simp[hq]at this⊢
 have a4:(fs.mapM λf=>do pure (f.offset,<-sizeOf f.type):Sem (Array (Nat×Nat))).run P s.w=.ok (fs.map λf=>(f.offset,(szT P f.type).getD 0)) s.w:=by
  rw[Array.mapM_eq_mapM_toList];simp only[Sem.run_map,gd (P:=P) (fs:=fs.toList) (λf S=>UD.1 B f (by simpa using S)),sI]
  congr 1
  grind
 have S:Instr.fill (λi=>(fs.map λf=>(f.offset,(szT P f.type).getD 0))[i]?) z.cells (ps.map λx=>(x.1,a.eval x.2)).toList=some n:=by simp_all
 have hb:(Instr.build t (ps.map λx=>(x.1,a.eval x.2))).run P s.w=.ok (.agg n) s.w:=by simp_all [Instr.build,EP,run_underlying]
 refine hH (e:=⟨r,gY os new⟩) (v:=.agg n) (g':=T) ?_ i1 Q hr;simp_all [execOp];cases E;cases q;cases q;cases hc
end
end Go.Am
end
section
namespace Go.Am
theorem oa{new:Nat}{env:List (Nat×AV)}{σ:List Blk}: ∀{k new:Nat} {u:Unit},(sO new k).run ⟨env,σ⟩=some u-> ∀j,j<k->σ[new+j]?=some .dead
 |0,_,_,_,j,hj=>by omega
 |k+1,new,u,h,j,hj=>by
  simp only[sO,RM.run]at h;split at h;rename_i x e;cases x with
  |dead=>
   dsimp only at h;cases j with
   |zero=>exact e
   |succ j=>have:=oa (new:=0) h j (by omega);grind
  |box=>cases h
  |arr=>cases h
  cases h
section
variable {P:Program} {F:Orc} {s:Sn} {a:Act} {env:List (Nat×AV)} {o:Oper} {new:Nat} {e:Eff}
theorem JLF(q:jN P F)(hi:Inv s)(he:bQ s a.tmps env){n:AOp}(h:(opD F n new).run ⟨env,s.σ⟩=some e)(hc:aU P n o.op=true):bP P o a s e:=by
 unfold opD at h;obtain⟨u,r,h⟩:=bind_some h;have g:=oa (new:=0) r;clear r;have j:lA n=1->s.σ[new]?=some .dead:=λh1=>g 0 (by omega);cases n with
 |mv x=>grind [JLm]
 |mkarr esz x=>exact JFq hi (j rfl) h hc
 |pick=>grind [JHR]
 |newbox=>exact JDY hi (j rfl) h hc
 |box=>exact JJh hi he (j rfl) h hc
 |build=>grind [JFx]
 |lits=>grind [JIx,lA]
 |load=>grind [JID]
 |store=>grind [JGe]
 |nilchk=>grind [JDd]
 |bin op t x y=>cases t<;>grind [Ka,Ha,E6,Eq,Fe,Et]
 |un=>grind [JLd]
 |conv k x=>
  grind [JBZ,lA,JIr]
 |mkslice=>grind [JBx,lA]
 |slice=>grind [JFp]
 |faddr=>grind [JFA]
 |field=>grind [JFM]
 |iaddr=>grind [JGq]
 |aaddr=>grind [JGL]
 |sidx=>grind [JHZ]
 |aidx=>grind [JIu]
 |extr=>grind [JIz]
 |call=>exact JIp q hi he g h hc
 |callv=>exact JF1 q hi he g h hc
 |len=>grind [JJe]
 |alen=>grind [JIX]
 |app=>grind [JJq]
 |appz=>grind [JIU]
 |appn=>exact JIv hi he (j rfl) h hc
 |appc=>exact JHM hi he (j rfl) h hc
 |mm=>grind [Z9]
 |mkfn=>grind [JHX]
 |newboxo=>exact JAT hi g h hc
 |buildo=>exact JDX hi he g h hc
 |storen=>exact JDB hi he (j rfl) h hc
 |callo=>exact JF7 q hi he g h hc
end
def yN(P:Program)(N:Nat)(ops:Array Oper)(i:cA)(o:Oper):Bool:=
 aU P i.op o.op&&i.dst==o.dst&&(match i.dst with
  |some d=>decide (d<N)
  |none=>true)&&(match i.g,o.guard with
  |none,none=>true
  |some (g,w),some (j,w')=>w==w'&&(ops[j]?).bind (·.dst)==some g
  |_,_=>false)
def Sim(N:Nat)(E:Sn)(st:St)(a:Act)(w:World):Prop:=a.tmps.size=N/\a.defers=[]/\ ∃g,Inv ⟨st.sto,g,w⟩/\bQ ⟨st.sto,g,w⟩ a.tmps st.env/\bB E ⟨st.sto,g,w⟩
theorem bQ.put{s:Sn}{tmps:Array Value}{env:List (Nat×AV)}(he:bQ s tmps env){d:Nat}(hd:d<tmps.size){x:AV}{v:Value}(hv:JL s x v):
  bQ s (tmps.setIfInBounds d v) ((d,x)::env):=by
 intro n y e;simp only[lk]at e;split at e;simp_all;rename_i g;obtain⟨u,h1,h2⟩:=he n y e;grind
theorem Sim.putd{N:Nat}{E:Sn}{st:St}{a:Act}{w w':World}{g g':Gh}{e:Eff}{v:Value}{d:Option Nat}
  (h1:a.tmps.size=N) (h2:a.defers=[]) (hi:Inv ⟨st.sto,g,w⟩) (he:bQ ⟨st.sto,g,w⟩ a.tmps st.env) (n:bB E ⟨st.sto,g,w⟩) (hd: ∀x,d=some x->x<N)
  (j:Inv ⟨upd e.ws st.sto,g',w'⟩) (h:bB ⟨st.sto,g,w⟩ ⟨upd e.ws st.sto,g',w'⟩) (hv:JL ⟨upd e.ws st.sto,g',w'⟩ e.val v):
  Sim N E (Am.put d e st) (a.put d v) w':=by
 have k:=he.mono hi h;cases d with
 |none=>exact⟨h1,h2,g',j,k,n.trans h⟩
 |some d=>exact⟨by grind [Act.put],h2,g',j,k.put (by simp_all) hv,n.trans h⟩
section
variable {P:Program} {F:Orc} {N:Nat} {E:Sn} {st:St} {a:Act} {w:World} {ops:Array Oper} {i:cA} {o:Oper} {e:Eff} {new k:Nat} {Q:Exit->Act->World->Prop} {K:Act->World->Prop}
theorem JBj{s:Sn}:JL s gM undef:=.tup _ _ rfl λi x v h=>by simp at h
theorem Cw(G:jN P F)(hs:Sim N E st a w)(ho:ops[k]?=some o)(hc:yN P N ops i o=true)(h:(cB F i new).run st=some e)
  (next: ∀n w',Sim N E (Am.put i.dst e st) n w'->K n w'):wpOp P ops Q k K a w:=by
 obtain⟨h1,h2,g,hi,y,D⟩:=hs;simp only[yN,aS,beq_iff_eq]at hc;obtain⟨⟨⟨hc,I⟩,M⟩,q⟩:=hc;have z: ∀x,i.dst=some x->x<N:=(by grind);have run: ∀{e:Eff},(opD F i.op new).run st=some e->(∀n w',Sim N E (Am.put i.dst e st) n w'->K n w')->o.wp P a w K Q:=(by intro e h next;refine JLF (s:=⟨st.sto,g,w⟩) (env:=st.env) G hi y h hc K Q λv w' g' J L A=>next _ _ ?_;grind [Sim.putd]);have skip:(∀n w',Sim N E (Am.put i.dst ⟨gM,[]⟩ st) n w'->K n w')->K (a.put o.dst undef) w:=by intro next;refine next _ _ ?_;rw[<-I];exact Sim.putd (e:=⟨gM,[]⟩) h1 h2 hi y D z hi (.refl _) JBj
 unfold wpOp;rw[ho];dsimp only;unfold cB at h;cases hig:i.g with
 |none=>
  grind [Region.wanted]
 |some H=>
  obtain⟨O,C⟩:=H;rw[hig]at h q;cases hog:o.guard with
  |none=>simp_all
  |some x=>
   obtain⟨j,B⟩:=x;rw[hog]at q;simp only[aS,beq_iff_eq]at q;obtain⟨rfl,U⟩:=q;simp only[RM.run]at h;split at h;rename_i v A;obtain⟨u,T,r⟩:=y _ _ A;split at h;rename_i b;cases r with
   |p _ _ r=>
    cases r with
    |b x=>
     have S:yielded ops a.tmps j=some b:=by grind [yielded]
     grind [Region.wanted,RM.run]
   cases r with
   |tup _ vs R _=>
    grind [yielded,Region.wanted,RM.run]
   cases h;cases h
end
theorem pe{σ:List Blk}{n b:Nat}{x:Blk}(h:(σ++List.replicate n Blk.dead)[b]?=some x)(hx:x≠.dead):σ[b]?=some x:=by
 grind
theorem rp{σ:List Blk}{n b:Nat}{x:Blk}(h:σ[b]?=some x):(σ++List.replicate n Blk.dead)[b]?=some x:=by
 grind
theorem PK{σ:List Blk}{g:Gh}{w:World}{n b r o:Nat}:Wr1 ⟨σ++List.replicate n .dead,g,w⟩ b r o↔Wr1 ⟨σ,g,w⟩ b r o:=by
 grind [Wr1]
theorem gg{σ:List Blk}{g:Gh}{w:World}{n:Nat}:bB ⟨σ,g,w⟩ ⟨σ++List.replicate n .dead,g,w⟩ where
 keep:=.refl _ _
 cmono _ _ h:=h
 cnew _ _ h:=.inl h
 wnew _ _ h:=let⟨b,e⟩:=h;.inl ⟨b,PK.1 e⟩
 len:=by simp
 box b cs h:=⟨⟨cs,rp h,rfl⟩,rfl⟩
 arr b wm esz rows h:=⟨wm,rows,rp h,id,zQ0 _,λ_=>rfl⟩
theorem JHb{σ:List Blk}{g:Gh}{w:World}{n:Nat}(hi:Inv ⟨σ,g,w⟩):Inv ⟨σ++List.replicate n .dead,g,w⟩:=by
 have t:=gg (σ:=σ) (g:=g) (w:=w) (n:=n);refine⟨λb cs h=>?_,λb wm esz rows h=>?_,λb1 b2 r o h1 h2=>hi.apart b1 b2 r o (PK.1 h1) (PK.1 h2),λr o j=>⟨(hi.const r o j).1,λb B=>(hi.const r o j).2 b (PK.1 B)⟩⟩;obtain⟨r,o,c,e,fz,C,F,D,z,y⟩:=hi.box b cs (pe h (by simp));exact⟨r,o,c,e,fz,C,F,D,λi x E=>let⟨v,k,A,q⟩:=z i x E;⟨v,k,A.mono hi t,q⟩,y⟩;exact hi.arr b wm esz rows (pe h (by simp))
theorem Sim.room{N:Nat}{E:Sn}{st:St}{a:Act}{w:World}(h:Sim N E st a w)(n:Nat):Sim N E ⟨st.env,room n st.sto⟩ a w:=by
 unfold Am.room;split;exact h;obtain⟨h1,h2,g,hi,j,e⟩:=h;exact⟨h1,h2,g,JHb hi,j.mono hi gg,e.trans gg⟩
theorem Sim.heap{N:Nat}{E:Sn}{st:St}{a:Act}{w w':World}(h:Sim N E st a w)(e:w'.heap=w.heap)(ho:w'.os=w.os)(hp:w'.output=w.output):Sim N E st a w':=by obtain⟨h1,h2,g,hi,n,k⟩:=h;obtain⟨j,t'⟩:=ew hi e ho hp;exact⟨h1,h2,g,j,n.mono hi t',k.trans t'⟩
theorem Sim.congr{N:Nat}{E:Sn}{st st':St}{a:Act}{w:World}(h:Sim N E st a w)(he: ∀m,lk m st'.env=lk m st.env)(hs:st'.sto=st.sto):Sim N E st' a w:=by obtain⟨h1,h2,g,hi,j,e⟩:=h;refine⟨h1,h2,g,?_⟩;rw[hs];exact⟨hi,λn x k=>j n x (by simp_all),e⟩
end Go.Am
end
section
namespace Go.Am
def fD(P:Program)(N:Nat)(ops:Array Oper):List cA->List Oper->Bool|[],[]=>true|i::r,o::q=>yN P N ops i o&&fD P N ops r q|_,_=>false
def RP(x y:cA):Bool:=
 (match x.dst with
 |none=>true
 |some m=>y.dst !=some m&& !(wA y).contains m)&&(match y.dst with
 |none=>true
 |some m=> !(wA x).contains m)
def QR(x y:cA):Bool:=(!yA x.op|| !GW y.op)&&(!yA y.op|| !GW x.op)
def IB:List Nat->List Nat->List Nat|[],acc=>acc|x::r,acc=>match acc.contains x with|true=>IB r acc|false=>IB r (x::acc)
theorem fh{i:Nat}: ∀{l acc:List Nat},i∈IB l acc->i∈l\/i∈acc
 |[],_,h=>.inr h
 |x::r,acc,h=>by
  simp only[IB]at h;split at h;exact(fh h).imp (xU _) id
  ·rcases fh h with h|h
   all_goals grind
def Bt(l:List Nat):List Nat:=IB l []
theorem JEP{i:Nat}{l:List Nat}(h:i∈Bt l):i∈l:=(fh h).resolve_right (by simp)
def B1(acc:List (List Nat))(o:Oper):List Nat:=Bt<|(o.after.toList.filter λe=>Region.binds .any e).flatMap λe=>e.on::(acc[e.on]?).getD []
def ll(acc:List (List Nat)):List Oper->List (List Nat)|[]=>acc|o::r=>ll (acc++[B1 acc o]) r
def YX(e:List (List Nat))(pairs:List (Nat×Nat))(i j:Nat)(x y:cA):Bool:=
 ((e[j]?).getD []).contains i||(RP x y&&(QR x y||pairs.contains (i,j)))
def LF(e:List (List Nat))(pairs:List (Nat×Nat))(j:Nat)(y:cA):Nat->List cA->Bool|_,[]=>true|i,x::r=>(decide (j<=i)||YX e pairs i j x y)&&LF e pairs j y (i+1) r
def PM(g:List (List Nat))(pairs:List (Nat×Nat))(e:List cA):Nat->List cA->Bool|_,[]=>true|j,y::r=>LF g pairs j y 0 e&&PM g pairs e (j+1) r
def QC:Nat->List Oper->Bool|_,[]=>true|j,o::r=>(o.after.all λe=> !Region.binds .any e||decide (e.on<j))&&QC (j+1) r
def WX(P:Program)(N:Nat)(draw:Bool)(pairs:List (Nat×Nat))(ins:List cA)(ops:Array Oper):Bool:=
 fD P N ops ins ops.toList&&(!draw||(QC 0 ops.toList&&PM (ll [] ops.toList) pairs ins 0 ins))
section
variable {P:Program} {F:Orc} {N:Nat} {E:Sn} {st st':St} {a:Act} {w:World} {ops:Array Oper} {Q:Exit->Act->World->Prop}
theorem qw: ∀{ins:List cA} {os:List Oper},fD P N ops ins os=true->ins.length=os.length/\ ∀(k:Nat) i,ins[k]?=some i-> ∃o,os[k]?=some o/\yN P N ops i o=true
 |[],[],_=>⟨rfl,by simp⟩
 |i::r,o::q,h=>by
  simp only[fD,aS]at h;obtain⟨h1,h2⟩:=qw h.2;grind
 |[],_::_,h=>by grind [fD]
 |_::_,[],h=>by grind [fD]
theorem rq(v:jN P F): ∀{r:List cA} {k new:Nat} {st:St} {a:Act} {w:World},(∀(j:Nat) i,r[j]?=some i-> ∃o,ops[k+j]?=some o/\yN P N ops i o=true)->
  gB F r new st=some st'->Sim N E st a w->(∀n w',Sim N E st' n w'->Q .normal n w')->wpOps P ops Q (List.range' k r.length) a w
 |[],k,new,st,a,w,_,h,q,next=>by simp only[gB]at h;cases h;exact next a w q
 |i::r,k,new,st,a,w,y,h,q,next=>by
  simp only[gB]at h;split at h;rename_i e A;obtain⟨o,x,g⟩:=y 0 i rfl;rw[uL,List.range'_succ,wpOps_cons];refine Cw v q x g A λn w' hs'=>rq v (λj i z=>?_) h hs' next;obtain⟨o,x,g⟩:=y (j+1) i (by simpa using z);grind;cases h
theorem B5: ∀{ins:List cA} {g:Nat} {st:St},gB F ins g st=some st'->
  ∃(new:Nat->Nat) (S:Nat->St) (eff:Nat->Eff),Run F ins new S eff/\S 0=st/\S ins.length=st'
 |[],g,st,h=>by
  simp only[gB]at h;injection h with h;subst h;exact⟨λ_=>0,λ_=>st,λ_=>⟨gM,[]⟩,⟨by simp⟩,rfl,rfl⟩
 |i::r,g,st,h=>by
  simp only[gB]at h;split at h;rename_i e q;obtain⟨new,S,eff,n,h0,j⟩:=B5 h;refine⟨fun|0=>g|k+1=>new k,fun|0=>st|k+1=>S k,fun|0=>e|k+1=>eff k,⟨λk x o=>?_⟩,rfl,j⟩;cases k with
  |zero=>simp_all
  |succ k=>exact n.step k x (by simpa using o)
  cases h
theorem Cu: ∀{ins:List cA} {g:Nat} {st:St} {l l':Log},jM F ins g st l=some (st',l')->
  ∃(new:Nat->Nat) (S:Nat->St) (eff:Nat->Eff),Run F ins new S eff/\S 0=st/\S ins.length=st'/\
   (∀k,k<l.length->l'[k]?=l[k]?)/\ ∀(k:Nat) i,ins[k]?=some i->l'[l.length+k]?=some (jO ((cB F i (new k)).reads (S k)),(eff k).ws.map (·.1))
 |[],g,st,l,l',h=>by
  simp only[jM]at h;injection h with h;injection h with h1 h2;subst h1 h2;exact⟨λ_=>0,λ_=>st,λ_=>⟨gM,[]⟩,⟨by simp⟩,rfl,rfl,λ_ _=>rfl,by simp⟩
 |i::r,g,st,l,l',h=>by
  simp only[jM]at h;split at h
  ·rename_i e w;obtain⟨new,S,eff,o,h0,n,v,y⟩:=Cu h;refine⟨fun|0=>g|k+1=>new k,fun|0=>st|k+1=>S k,fun|0=>e|k+1=>eff k,⟨λk x j=>?_⟩,rfl,n,λk q=>?_,λk x j=>?_⟩
   cases k with
   |zero=>simp_all
   |succ k=>exact o.step k x (by simpa using j)
   all_goals grind
  cases h
theorem RJ{b:Nat}: ∀{l:List Loc},Loc.blk b∈l->b∈jO l
 | .blk c::r,h=>by
  simp only[jO,dZ]at*;rcases h with h|h;simp_all;exact .inr (RJ h)
 | .slot n::r,h=>by simp only[jO];refine RJ ?_;simpa using h
 |[],h=>by simp at h
theorem ZV{a b:List Nat}(h:gG a b=true){x:Nat}(hx:x∈a):x∉b:=by
 grind [gG]
theorem sw{l:Log}: ∀{ps:List (Nat×Nat)} {i j:Nat},EI l ps=true->(i,j)∈ps->
  ∃x y,l[i]?=some x/\l[j]?=some y/\gG x.2 y.1=true/\gG x.2 y.2=true/\gG x.1 y.2=true
 |[],i,j,_,h=>by simp at h
 |(p,q)::r,i,j,h,hm=>by
  simp only[EI,aS]at h;obtain⟨h1,h2⟩:=h;rcases dZ.1 hm with e|e;grind;exact sw h2 e
def YQ(ops:Array Oper)(D:Nat->Bool)(k:Nat):Prop:= ∀o,ops[k]?=some o-> ∀e∈o.after,Region.binds .any e=true->D e.on=true
def Cf(ops:Array Oper)(D:Nat->Bool):Prop:= ∀k,D k=true->YQ ops D k
def jw(ops:Array Oper)(k i:Nat):Prop:= ∀D,Cf ops D->YQ ops D k->D i=true
theorem Cl: ∀{os:List Oper} {acc:List (List Nat)},(∀(j:Nat) o,os[j]?=some o->ops[acc.length+j]?=some o)->(∀(k:Nat) l i,acc[k]?=some l->i∈l->jw ops k i)->
  ∀(k:Nat) l i,(ll acc os)[k]?=some l->i∈l->jw ops k i
 |[],acc,_,n=>n
 |o::r,acc,y,n=>by
  refine Cl (os:=r) (acc:=acc++[B1 acc o]) (λj x A=>?_) λk l i g hi=>?_;have:=y (j+1) x (by simpa using A);grind;rcases KR g with g|⟨B,g⟩;simp_all;have q:k=acc.length:=(by grind);subst q;simp at g;subst g;intro D hD z;replace hi:=JEP hi;simp only[List.mem_flatMap,List.mem_filter]at hi;obtain⟨e,⟨w,v⟩,hi⟩:=hi;have h:=z o (by simpa using y 0 o rfl) e (by simpa using w) v;rcases dZ.1 hi with rfl|hi;exact h;cases hac:acc[e.on]? with
  |none=>simp_all
  |some l=>rw[hac]at hi;exact n _ l i hac hi D hD (hD _ h)
theorem tm{g:List (List Nat)}{pairs:List (Nat×Nat)}{j:Nat}{y:cA}: ∀{r:List cA} {e:Nat},LF g pairs j y e r=true-> ∀(k:Nat) x,r[k]?=some x->e+k<j->YX g pairs (e+k) j x y=true
 |[],e,_,k,x,n,_=>by simp at n
 |z::r,e,h,k,x,n,o=>by
  simp only[LF,aS,BY,decide_eq_true_eq]at h;cases k with
  |zero=>grind
  |succ k=>
   have:=tm h.2 k x (by simpa using n) (by omega);grind
theorem ss{j:List (List Nat)}{pairs:List (Nat×Nat)}{g:List cA}: ∀{r:List cA} {e:Nat},PM j pairs g e r=true-> ∀(k:Nat) y,r[k]?=some y->LF j pairs (e+k) y 0 g=true
 |[],e,_,k,y,n=>by simp at n
 |z::r,e,h,k,y,n=>by
  simp only[PM,aS]at h;cases k with
  |zero=>simp_all
  |succ k=>
   have:=ss h.2 k y (by simpa using n);grind
theorem tl: ∀{r:List Oper} {g:Nat},QC g r=true-> ∀(k:Nat) o,r[k]?=some o-> ∀e∈o.after,Region.binds .any e=true->e.on<g+k
 |[],g,_,k,o,j=>by simp at j
 |z::r,g,h,k,o,j=>by
  simp only[QC,aS]at h;cases k with
  |zero=>
   grind [Array.all_eq_true_iff_forall_mem]
  |succ k=>intro e n q;have:=tl h.2 k o (by simpa using j) e n q;omega
theorem JG3{x y:cA}(h:RP x y=true):(∀m,x.dst=some m->y.dst≠some m/\m∉wA y)/\(∀m,y.dst=some m->m∉wA x):=by
 grind [RP]
variable {ins:List cA} {new:Nat->Nat} {S:Nat->St} {eff:Nat->Eff}
theorem JGU(hr:Run F ins new S eff){i j:Nat}(hi:i<ins.length)(hj:j<ins.length)(h1:RP ins[i] ins[j]=true)
  (h2:QR ins[i] ins[j]=true\/(gG ((eff i).ws.map (·.1)) (jO ((cB F ins[j] (new j)).reads (S j)))=true/\
   gG ((eff i).ws.map (·.1)) ((eff j).ws.map (·.1))=true/\gG (jO ((cB F ins[i] (new i)).reads (S i))) ((eff j).ws.map (·.1))=true)):OG F ins new S eff i j:=by
 obtain⟨s1,C⟩:=JG3 h1;have q:ins[i]?=some ins[i]:=zQ9 hi;have o:ins[j]?=some ins[j]:=zQ9 hj;obtain⟨z,_⟩:=hr.step i _ q;obtain⟨v,_⟩:=hr.step j _ o;refine⟨λx y m g e r=>?_,λx y m g e r n=>?_,λy b e k=>?_,λx b g k n=>?_⟩;rw[q]at g;cases g;rw[o]at e;cases e;exact⟨(s1 m r).1,λn=>(s1 m r).2 (nz F _ _ _ _ n)⟩;rw[q]at g;cases g;rw[o]at e;cases e;exact C m r (nz F _ _ _ _ n);rw[o]at e;cases e;rcases h2 with h2|⟨w,A,B⟩;simp only[QR,aS,BY,lX]at h2;rcases h2.1 with h|h;rw[YV F _ _ h _ _ z]at k;simp at k;refine⟨?_,o6 F _ _ h _ _ v b⟩;rw[YV F _ _ (Cd h) _ _ v];simp;exact⟨ZV A k,λn=>ZV w k (RJ n)⟩;rw[q]at g;cases g;rcases h2 with h2|⟨w,A,B⟩;simp only[QR,aS,BY,lX]at h2;rcases h2.2 with h|h;rw[YV F _ _ h _ _ v]at k;simp at k;exact o6 F _ _ h _ _ z b n;grind [ZV,RJ]
def Dl(e:Array Bool):Nat->Bool:=λj=>e.getD j false
theorem Cn{e:Array Bool}{i:Nat}(hi:i<e.size):Dl (e.setIfInBounds i true)=λj=>if j=i then true else Dl e j:=by
 funext j
 unfold Dl;by_cases h:j=i
 all_goals simp_all [Ne.symm]
theorem sn{l:Array Bool}{i:Nat}(hi:i<l.size)(h:l.getD i false=false):(l.setIfInBounds i true).count false+1=l.count false:=by
 have e:l[i]=false:=by simp_all
 grind [Array.getElem_mem]
theorem s4{l:Array Bool}(h:l.count false=0){i:Nat}(hi:i<l.size):l.getD i false=true:=by
 grind [sn]
theorem Be{l:Array Bool}: ∀m,m<=l.size->(∀j,j<m->Dl l j=true)\/ ∃k,k<m/\Dl l k=false/\ ∀j,j<k->Dl l j=true
 |0,_=>.inl λj e=>by omega
 |m+1,h=>by
  rcases Be (l:=l) m (by omega)with h1|⟨k,a,b,c⟩
  all_goals grind
theorem JE1{l:Array Bool}{j:Nat}(hj:j<l.size):l.getD j true=l.getD j false:=by simp[hj]
theorem JKW(hF:jN P F)(hr:Run F ins new S eff)(hlen:ins.length=ops.size)(hc: ∀(k:Nat) i,ins[k]?=some i-> ∃o,ops[k]?=some o/\yN P N ops i o=true)
  (G: ∀(k:Nat) o,ops[k]?=some o-> ∀e∈o.after,Region.binds .any e=true->e.on<k)
  (K: ∀i j,i<j->j<ins.length->jw ops j i\/OG F ins new S eff i j)
  (next: ∀H w',Sim N E (S ins.length) H w'->Q .normal H w'):
  ∀(n:Nat) (g:Array Bool) (st:St) (a:Act) (w:World),g.size=ops.size->Agree ins eff (S 0) (Dl g) st->Sim N E st a w->Cf ops (Dl g)->g.count false=n->
   wpAny P .any ops Q n g a w:=by
 intro n
 induction n with
 |zero=>
  intro g st a w L C R r B;refine⟨?_,?_⟩;cases hre:Region.ready .any ops g with
  |nil=>rfl
  |cons j l=>
   exfalso;have h:j∈Region.ready .any ops g:=by rw[hre];simp
   grind [mem_ready,s4]
  ·obtain⟨e1,e2⟩:=JDx hr C λj x=>s4 B (by omega);exact next a w (R.congr (λm=>(e1 m).symm) e2.symm)
 |succ n ih=>
  intro g st a w L C R r B;refine⟨λa2=>?_,λk I=>?_⟩;exfalso;rcases Be (l:=g) ops.size (by omega)with z|⟨k,I,D,M⟩;have:g.count false=0:=(by rw[Array.count_eq_zero];intro h;obtain⟨i,hi,y⟩:=Array.getElem_of_mem h;have:=z i (by omega);unfold Dl at this;simp[hi,y]at this);omega;have h:k∈Region.ready .any ops g:=(by rw[mem_ready];refine⟨by rw[JE1 (by omega)];exact D,ops[k],by simp[I],λe y A=>?_⟩;exact M _ (G k ops[k] (by simp[I]) e y A));simp_all;obtain⟨h1,o,Y,z⟩:=mem_ready.1 I;have a0:k<ops.size:=(oI.1 Y).1;have D:Dl g k=false:=by grind [Dl]
  have T:ins[k]?=some (ins[k]'(by omega)):=zQ9 _;obtain⟨o',W,U⟩:=hc k _ T;have q:YQ ops (Dl g) k:=by intro O v e y A;rw[Y]at v;cases v;exact z e y A
  obtain⟨Z,r2⟩:=JGr hr C T D (λj x hDj=>by
   rcases K j k x (by omega)with h|h;have:=h _ r q;simp_all;exact h) (λj x V hDj=>by
   rcases K k j x V with h|h;have:=h _ r (r j hDj);simp_all;exact h)
  refine Cw hF R W U Z λH w' hs'=>ih _ _ H w' (by simp[L]) ?_ hs' ?_ ?_;grind [Cn];rw[Cn (by omega)];intro j x O v e y A;dsimp only at x⊢;have h:Dl g e.on=true->(if e.on=k then true else Dl g e.on)=true:=by simp_all
  by_cases J:j=k;subst J;exact h (q O v e y A);rw[if_neg J]at x;exact h (r j x O v e y A);grind [sn]
theorem JJD(Y:jN P F)(G:P.follows .mixedOrders=true){id:Nat}{draw:Bool}{pairs:List (Nat×Nat)}{ins:List cA}(h:region F pairs ins st=some st')
  (hc:WX P N draw pairs ins ops=true) (hs:Sim N E st a w) (next: ∀T w',Sim N E st' T w'->Q .normal T w'):(Code.region id ops draw).wp P Q a w:=by
 simp only[WX,aS,BY,lX]at hc;obtain⟨J,B⟩:=hc;obtain⟨hlen,D⟩:=qw J;have hlen:ins.length=ops.size:=by simp_all
 have D: ∀(k:Nat) i,ins[k]?=some i-> ∃o,ops[k]?=some o/\yN P N ops i o=true:=λk i hi=>by simp_all
 have R:=hs.room (news ins);have I: ∃(new:Nat->Nat) (S:Nat->St) (eff:Nat->Eff),Run F ins new S eff/\S 0=⟨st.env,room (news ins) st.sto⟩/\S ins.length=st'/\
   ∀i j,(i,j)∈pairs-> ∃x y,ins[i]?=some x/\ins[j]?=some y/\gG ((eff i).ws.map (·.1)) (jO ((cB F y (new j)).reads (S j)))=true/\
   gG ((eff i).ws.map (·.1)) ((eff j).ws.map (·.1))=true/\gG (jO ((cB F x (new i)).reads (S i))) ((eff j).ws.map (·.1))=true:=by
  unfold region at h;split at h;grind [B5];split at h;rename_i s' l n;split at h;rename_i L;cases h;obtain⟨new,S,eff,C,h0,M,_,q⟩:=Cu n;refine⟨new,S,eff,C,h0,M,λi j hm=>?_⟩;obtain⟨x,y,W,V,d1,d2,d3⟩:=sw L hm;have O: ∀(k:Nat) z,l[k]?=some z->k<ins.length:=by
   intro k z hk;have:=JC hk;have a6:l.length=ins.length:=by
    clear q C h0 M L W V;have: ∀{r:List cA} {e:Nat} {s0:St} {A v:Log} {s1:St},jM F r e s0 A=some (s1,v)->v.length=A.length+r.length:=by
     intro r
     induction r with
     |nil=>simp[jM]
     |cons i r ih=>
      grind [jM]
    grind
   omega
  have hi:=O i x W;have g:=O j y V;have K:ins[i]?=some ins[i]:=zQ9 hi;have H:ins[j]?=some ins[j]:=zQ9 g;have Z:=q i _ K;have qj:=q j _ H;simp only[List.length_nil,kY]at Z qj;grind;cases h;cases h
 obtain⟨new,S,eff,C,h0,M,L⟩:=I;cases draw with
 |false=>
  refine wp_region ?_;rw[List.range_eq_range',<-hlen];have a7: ∃e,gB F ins e ⟨st.env,room (news ins) st.sto⟩=some st':=by
   unfold region at h;split at h;grind;split at h;rename_i s' l n;split at h;cases h;have: ∀{r:List cA} {e:Nat} {s0:St} {A v:Log} {s1:St},jM F r e s0 A=some (s1,v)->gB F r e s0=some s1:=by
    intro r
    induction r with
    |nil=>intro e s0 A v s1 h;simp only[jM]at h;injection h with h;injection h with h1 h2;subst h1;rfl
    |cons i r ih=>
     grind [jM,gB]
   grind;cases h;cases h
  grind [rq]
 |true=>
  obtain⟨he,hd⟩:=B.resolve_left (by simp);refine wp_region_any G ?_;have U:Sim N E (S 0) a {w with drawn:=w.drawn+1}:=by rw[h0];exact R.heap rfl rfl rfl
  refine JKW Y C hlen D (λk o ho=>?_) (λi j a8 g=>?_) (by simp_all) ops.size _ (S 0) a _ (by simp) ?_ U ?_ ?_;have:=tl he k o (by simpa using ho);simp_all;have K:ins[i]?=some (ins[i]'(by omega)):=zQ9 _;have H:ins[j]?=some ins[j]:=zQ9 g;have h1:=ss hd j _ H;rw[kY]at h1;have h2:=tm h1 i _ K (by omega);rw[kY]at h2;simp only[YX,BY,aS]at h2;rcases h2 with h2|⟨h2,h3⟩;grind [Cl];grind [JGU];have:Dl (Array.replicate ops.size false)=λ_=>false:=by
   funext j;unfold Dl;simp[Array.getElem?_replicate];split<;>rfl
  rw[this];exact Fk;intro j g;unfold Dl at g;simp[Array.getElem?_replicate]at g;grind;simp
end
end Go.Am
end
section
namespace Go.Am
def dH(P:Program)(N:Nat):cC->Code->Bool
 | .bad,_=>true
 | .skip,c=>match c with| .skip=>true| .label _=>true|_=>false
 | .reg draw pairs ins,c=>match c with| .region _ ops d=>draw==d&&WX P N draw pairs ins ops|_=>false
 | .seq a b,c=>match c with| .seq x y=>dH P N a x&&dH P N b y|_=>false
 | .cond o a b,c=>match c with| .cond p x y=>bN o p&&dH P N a x&&dH P N b y|_=>false
 | .block id a,c=>match c with| .block e x=>id==e&&dH P N a x|_=>false
 | .loop _ a,c=>match c with| .loop x=>dH P N a x|_=>false
 | .lp _ _ _,_=>false
 | .scope a,c=>match c with| .scope x=>dH P N a x|_=>false
 | .exit id,c=>match c with| .exit e=>id==e|_=>false
 | .ret,c=>match c with| .ret=>true|_=>false
 | .keep _ a,c=>dH P N a c
 | .tidy _ a,c=>dH P N a c
 | .br _ pre o a b rest,c=>match c with| .seq (.seq p (.cond q x y)) z=>dH P N pre p&&bN o q&&dH P N a x&&dH P N b y&&dH P N rest z|_=>false
def qP:AX->Exit| .normal=>.normal| .exit id=>.exit id| .ret=>.ret
def KN(P:Program)(c:cC)(st:St)(r:Out):Prop:=
 match c with
 | .lp n _ b=> ∃k,∀(N:Nat) (e:Code) (E:Sn) (a:Act) (w:World) (Q:Exit->Act->World->Prop),dH P N b e=true->E.σ.length<=n->n<=st.sto.length->Sim N E st a w->
   (∀g w',Sim N E r.2 g w'->Q (qP r.1) g w')->Code.rounds P e Q k a w
 |c=> ∀(N:Nat) (e:Code) (E:Sn) (a:Act) (w:World) (Q:Exit->Act->World->Prop),dH P N c e=true->Sim N E st a w->
  (∀g w',Sim N E r.2 g w'->Q (qP r.1) g w')->e.wp P Q a w
theorem KN.get{P:Program}{c:cC}{st:St}{r:Out}(h:KN P c st r){N:Nat}{e:Code}{E:Sn}{a:Act}{w:World}{Q:Exit->Act->World->Prop}(hc:dH P N c e=true)(hs:Sim N E st a w)
  (next: ∀g w',Sim N E r.2 g w'->Q (qP r.1) g w'):e.wp P Q a w:=by
 cases c<;>first|exact h N e E a w Q hc hs next|grind [dH]
theorem QF{env:List (Nat×AV)}{n:Nat}{x:AV}: ∀{live:List Nat},lk n (restr live env)=some x->lk n env=some x
 |[],h=>by grind [restr,lk]
 |k::r,h=>by
  simp only[restr]at h;split at h;rename_i v e;simp only[lk]at h;split at h;simp_all;exact QF h;exact QF h
theorem D6{m:Nat}{sto:List Blk}{n:Nat}{y:AV}: ∀{env g:List (Nat×AV)},uM m sto env=some g->lk n g=some y-> ∃x,lk n env=some x/\fin m [] sto x=some y
 |[],g,h,hy=>by grind [uM,lk]
 |(k,x)::r,g,h,hy=>by
  simp only[uM]at h;split at h;rename_i z l q j;injection h with h;subst h;simp only[lk]at hy⊢;split at hy;simp_all;rename_i e;obtain⟨o,h1,h2⟩:=D6 j hy;simp_all;cases h
section
variable {P:Program} {N:Nat} {E:Sn} {st st':St} {a:Act} {w:World}
theorem Sim.restr(h:Sim N E st a w)(live:List Nat):Sim N E ⟨restr live st.env,st.sto⟩ a w:=by obtain⟨h1,h2,g,hi,j,e⟩:=h;exact⟨h1,h2,g,hi,λn x k=>j n x (QF k),e⟩
theorem QE{n:Nat}{live:List Nat}(h:Sim N E st a w)(hc:clean n live st=some st')(r:E.σ.length<=n)(hn:n<=st.sto.length):Sim N E st' a w/\st'.sto.length=n:=by
 unfold clean at hc;split at hc;rename_i e;injection hc with hc;subst hc;exact⟨h.restr live,e⟩;split at hc;rename_i ev l o B;injection hc with hc;subst hc;obtain⟨h1,h2,g,hi,D,q⟩:=h;obtain⟨H,I⟩:=RH B;have hlen:l.length=n:=by simp_all
 have j:lm ⟨st.sto,g,w⟩ n [] l:=(by refine⟨hi,hn,List.nodup_nil,λb z=>by simp at z,by simp[hlen],λk x J=>?_⟩;grind [tF]);refine⟨⟨h1,h2,(kE ⟨st.sto,g,w⟩ n [] l).g,Da j,λk y C=>?_,ra j q r⟩,hlen⟩;obtain⟨x,F,A⟩:=D6 o C;obtain⟨v,G,hrel⟩:=D k x (QF F);exact⟨v,G,YI j hrel A⟩;cases hc
def nP(P:Program):List uN->List ResultVar->Bool|[],[]=>true| .tmp t::r,.tmp t'::q=>t==t'&&nP P r q| .cell t agg size::r,.cell t' ty::q=>t==t'&&agT P ty==some agg&&szT P ty==some size&&nP P r q|_,_=>false
def TZ(tmps:Array Value):ResultVar->Sem Value| .tmp t=>pure (tmps.getD t undef)| .cell a t=>do loadVar t (<-asAddr (tmps.getD a undef))
theorem YL{s:Sn}{env:List (Nat×AV)}{tmps:Array Value}(hi:Inv s)(he:bQ s tmps env): ∀{B:List uN} {C:List ResultVar} {vs:List AV},nP P B C=true->(mZ B).run ⟨env,s.σ⟩=some vs->
  ∃j:List Value,(C.mapM (TZ tmps)).run P s.w=.ok j s.w/\vs.length=j.length/\ ∀(i:Nat) x v,vs[i]?=some x->j[i]?=some v->JL s x v
 |[],[],vs,_,h=>by simp_all [mZ,RM.run]
 | .tmp t::r,.tmp t'::q,vs,g,h=>by
  simp only[nP,aS,beq_iff_eq]at g;obtain⟨rfl,g⟩:=g;simp only[mZ]at h;obtain⟨x,h1,h⟩:=bind_some h;obtain⟨l,h2,h⟩:=bind_some h;simp only[RM.run]at h;injection h with h;subst h;simp only[RM.run]at h1;split at h1;rename_i y A;injection h1 with h1;subst h1;obtain⟨v,L,E⟩:=he _ _ A;obtain⟨j,F,n,G⟩:=YL hi he g h2;refine⟨v::j,?_,by simp[n],λi x u K J=>?_⟩;simp_all [TZ];grind;cases h1
 | .cell t agg size::r,.cell t' ty::q,vs,g,h=>by
  simp only[nP,aS,beq_iff_eq]at g;obtain⟨⟨⟨rfl,M⟩,D⟩,g⟩:=g;simp only[mZ]at h;obtain⟨x,h1,h⟩:=bind_some h;obtain⟨e,h3,h⟩:=bind_some h;obtain⟨l,h2,h⟩:=bind_some h;simp only[RM.run]at h;injection h with h;subst h;simp only[RM.run]at h1;split at h1;rename_i y A;injection h1 with h1;subst h1;obtain⟨v,L,E⟩:=he _ _ A;obtain⟨j,F,n,G⟩:=YL hi he g h2;obtain⟨H,o,ws,R,N,I,_,O⟩:=rc hi h3 E;obtain⟨Q,S⟩:=tk (P:=P) M D N I;have k: ∃u,(loadVar ty ⟨H,o,none⟩).run P s.w=.ok u s.w/\JL s e.val u:=(by grind);obtain⟨u,J,hrel⟩:=k;refine⟨u::j,?_,by simp[n],λi x z K D=>?_⟩;simp_all [TZ,asAddr];grind;cases h1
 |[],_::_,_,g,_=>by grind [nP]
 | .tmp _::_,[],_,g,_=>by grind [nP]
 | .cell _ _ _::_,[],_,g,_=>by grind [nP]
 | .tmp _::_,.cell _ _::_,_,g,_=>by grind [nP]
 | .cell _ _ _::_,.tmp _::_,_,g,_=>by grind [nP]
theorem QW{m:Nat}{fresh:Bool}{sto:List Blk}: ∀{es:List Ent},∀b∈jP m fresh sto es,m<=b
 |[],b,h=>by grind [jP]
 | .elem _ _ _::r,b,h=>QW (es:=r) b (by simpa[jP]using h)
 | .whole c::r,b,h=>by
  simp only[jP]at h;split at h;exact QW (es:=r) b h;rename_i g;have e:b∈c::jP m fresh sto r->m<=b:=(by intro h;rcases dZ.1 h with rfl|h;omega;exact QW (es:=r) b h);grind
theorem C8{s:Sn}{vs:List AV}{e:List Value}(hl:vs.length=e.length)(hr: ∀(i:Nat) x v,vs[i]?=some x->e[i]?=some v->JL s x v):
  JL s (one vs) (if h:e.toArray.size=1 then e.toArray[0]else .tuple e.toArray):=by
 by_cases h:e.toArray.size=1;rw[dif_pos h];cases e with
 |nil=>simp at h
 |cons u q=>
  cases vs with
  |nil=>simp at hl
  |cons x p=>
   have j:q=[]:=by simpa using h
   subst j;have g:p=[]:=by simpa using hl
   subst g;exact hr 0 x u rfl rfl
 rw[dif_neg h];have:one vs=.tup vs:=by
  match vs,hl with
  |[],_=>rfl
  |[x],hl=>simp_all
  |_::_::_,_=>rfl
 rw[this];exact .tup _ _ (by simpa using hl) λi x v n k=>hr i x v n (by simpa using k)
theorem ri{e:AFn}{fn:Func}{m:Nat}{r:Res}(hs:Sim N E st a w)(hm:E.σ.length=m)(h:hA e m st=some r)(hc:nP P e.res fn.results.toList=true):
  a.defers=[]/\ ∃v,(results fn a.tmps).run P w=.ok v w/\ ∃g',Inv ⟨r.2,g',w⟩/\bB E ⟨r.2,g',w⟩/\JL ⟨r.2,g',w⟩ r.1 v:=by
 obtain⟨h1,h2,g,hi,L,C⟩:=hs;refine⟨h2,?_⟩;unfold hA at h;cases hvs:(mZ e.res).run st with
 |none=>simp_all
 |some vs=>
  rw[hvs]at h;dsimp only at h;obtain⟨y,S,W,I⟩:=YL (P:=P) (s:=⟨st.sto,g,w⟩) (env:=st.env) hi L hc hvs;have n:(results fn a.tmps).run P w=.ok (if h:y.toArray.size=1 then y.toArray[0]else .tuple y.toArray) w:=by
   have:results fn a.tmps=(do
    let vs<-fn.results.mapM (TZ a.tmps)
    pure (if h:vs.size=1 then vs[0]else .tuple vs)):=rfl
   simp_all [Array.mapM_eq_mapM_toList]
  refine⟨_,n,?_⟩;split at h;grind [C8];split at h;rename_i D;have z:=QW (m:=m) (fresh:=e.fresh) (sto:=st.sto) (es:=qG st.sto (cQ.entsOfL vs []) (cQ.entsOfL vs []));generalize jP m e.fresh st.sto (qG st.sto (cQ.entsOfL vs []) (cQ.entsOfL vs []))=ids at*;split at h;rename_i ws l q B K J;split at h;rename_i q' F;injection h with h;subst h;obtain⟨Y,O⟩:=tK B;obtain⟨b1,b2⟩:=RH K;obtain⟨c1,V⟩:=sx J;obtain⟨U,T⟩:=RH F;have G:m<=st.sto.length:=by rw[<-hm];exact C.len
  have hlen:l.length=m:=by simp_all
  have o:lm ⟨st.sto,g,w⟩ m ids (l++q'):=(by refine⟨hi,G,RK D,z,by simp;omega,λk x A=>?_⟩;rcases KR A with A|⟨Q,A⟩;grind [tF];grind [gH]);refine⟨_,Da o,ra o C (by omega),C8 (by omega) λi x v H M=>?_⟩;have R:=JC H;have j:vs[i]?=some (vs[i]'(by omega)):=zQ9 _;exact YI o (I i _ v j M) (O i _ x j H);cases h;cases h;cases h
def lC(P:Program)(f:FuncId)(e:AFn):Bool:=
 match P.funcs[f]? with
 |none=>false
 |some fn=>match fn.body with
  |none=>false
  |some g=>fn.name != "runtime.NumGoroutine" &&e.nt==e.np+(fn.ntmps-e.np)&&nP P e.res fn.results.toList&&dH P e.nt e.body g
theorem ZE: ∀{args:List AV} {k n:Nat} {x:AV},lk n (jD k args)=some x->k<=n/\args[n-k]?=some x
 |[],k,n,x,h=>by grind [jD,lk]
 |y::r,k,n,x,h=>by
  simp only[jD,lk]at h;split at h;simp_all;rename_i e;obtain⟨h1,h2⟩:=ZE h;grind
end
section
variable {P:Program} {T:eN}
theorem JFD{f:FuncId}{j:AFn}{args:List AV}{blks:List Blk}{r:Res}(hc:lC P f j=true)(L:args.length=j.np)
  (h: ∀(k:Code) (g:Gh) (w:World) (a:Act) (Q:Exit->Act->World->Prop),dH P j.nt j.body k=true->Sim j.nt ⟨blks,g,w⟩ ⟨jD 0 args,blks⟩ a w->
   (∀e s o w',(e=.normal\/e=.ret)->hA j blks.length s=some r->Sim j.nt ⟨blks,g,w⟩ s o w'->Q (qP e) o w')->k.wp P Q a w):J5O P f args blks r:=by
 unfold lC at hc;split at hc;cases hc;rename_i fn A;split at hc;cases hc;rename_i k E;simp only[aS,beq_iff_eq,bne_iff_ne,ne_eq]at hc;obtain⟨⟨⟨G,K⟩,H⟩,z⟩:=hc;refine⟨⟨fn,A,by simp[E],by simp_all⟩,λg w vals B hlen hrel=>?_⟩;refine calls_of_wp A E ?_;have D:Sim j.nt ⟨blks,g,w⟩ ⟨jD 0 args,blks⟩ {tmps:=vals++Array.replicate (fn.ntmps-vals.size) undef,defers:=[]} w:=(by refine⟨by simp;omega,rfl,g,B,λn x y=>?_,.refl _⟩;obtain⟨_,y⟩:=ZE y;rw[uX]at y;have J:=JC y;refine⟨vals[n]'(by omega),?_,hrel n x _ y (CV _)⟩;grind);have fin: ∀{s},hA j blks.length s=some r-> ∀o w',Sim j.nt ⟨blks,g,w⟩ s o w'->o.defers=[]/\ ∃v,(results fn o.tmps).run P w'=.ok v w'/\ ∃C g',Ending.returned v=.returned C/\
   Inv ⟨r.2,g',w'⟩/\bB ⟨blks,g,w⟩ ⟨r.2,g',w'⟩/\JL ⟨r.2,g',w'⟩ r.1 C:=by
  grind [ri]
 refine h k g w _ _ z D λe s o w' I q F=>?_;rcases I with rfl|rfl;exact fin q o w' F;exact fin q o w' F
theorem JGO{R:cC->St->Option Out}(ih: ∀c s r,R c s=some r->KN P c s r){f:FuncId}{k:oE}{args:List AV}{blks:List Blk}{r:Res}(hc:lC P f k.af=true)(L:args.length=k.np)
  (h:DL R k args blks=some r):J5O P f args blks r:=by
 refine JFD hc L λq g w a Q n A fin=>?_;simp only[oE.af]at n fin A;cases q<;>simp only[dH,eK]at n;rename_i T S;simp only[aS]at n;obtain⟨G,x⟩:=n;unfold DL at h;split at h
 rename_i s0 J;split at h;rename_i s1 C;refine wp_seq ((ih _ _ _ J).get G A λa0 w0 y=>?_);split at x;rename_i cp I cx cy U;simp only[aS]at x;obtain⟨⟨⟨⟨Z,M⟩,hx⟩,hy⟩,Y⟩:=x;simp only[qP,Exit.then];refine wp_seq (wp_seq ((ih _ _ _ C).get Z y λF D y=>?_));have a2: ∀{c:cC} {q:Code},dH P k.nt c q=true->xL k.af blks.length (thn (R c s1) λs=>R k.rest s)=some r->
   q.wp P (Exit.then (U.wp P Q) Q) F D:=by
  intro c q hc j;cases hR:R c s1 with
  |none=>rw[hR]at j;cases j
  |some o=>
   obtain⟨e,H⟩:=o;rw[hR]at j;refine(ih _ _ _ hR).get hc y λz w' hs'=>?_;cases e with
   |normal=>
    simp only[thn]at j;cases hR2:R k.rest H with
    |none=>rw[hR2]at j;cases j
    |some V=>
     obtain⟨W,K⟩:=V;rw[hR2]at j;simp only[qP,Exit.then];refine(ih _ _ _ hR2).get Y hs' λz w' hs'=>?_;cases W with
     |normal=>exact fin .normal K z w' (.inl rfl) j hs'
     |ret=>exact fin .ret K z w' (.inr rfl) j hs'
     |exit id=>cases j
   |exit id=>cases j
   |ret=>exact fin .ret H z w' (.inr rfl) j hs'
 have B:=y;obtain⟨_,_,g,hi,N,_⟩:=B;simp only[qP,Exit.then];split at h;rename_i b E;have hrel:=bL (s:=⟨s1.sto,g,D⟩) (env:=s1.env) N E M;generalize O:F.eval I=v at hrel;cases hrel with
 |p _ _ hrel=>cases hrel<;>grind [wp_cond]
 rename_i E;have hrel:=bL (s:=⟨s1.sto,g,D⟩) (env:=s1.env) N E M;generalize O:F.eval I=v at hrel;cases hrel with
 |unk t=>
  refine wp_cond O ?_;unfold IM at h;grind
 cases h;cases x;cases h;cases h
theorem qn{R:cC->St->Option Out}(ih: ∀c s r,R c s=some r->KN P c s r)(H: ∀f j,T f=some (.fn j)->lC P f j=true)
  (N: ∀f g,T f=some (.prim g)-> ∀args blks r,g args blks=some r->J5O P f args blks r) (M: ∀f k,T f=some (.fork k)->lC P f k.af=true):jN P (qH T R):=by
 intro f args blks r h;unfold qH at h;cases hTf:T f with
 |none=>simp_all
 |some en=>
  rw[hTf]at h;cases en with
  |prim g=>simp_all
  |fork k=>
   grind [JGO]
  |fn j=>
   dsimp only at h;split at h;rename_i K;have o:=H f j hTf;unfold lC at o;split at o;cases o;rename_i fn A;split at o;cases o;rename_i G E;simp only[aS,beq_iff_eq,bne_iff_ne,ne_eq]at o;obtain⟨⟨⟨F,L⟩,I⟩,q⟩:=o;refine⟨⟨fn,A,by simp[E],by simp_all⟩,λg w vals B hlen hrel=>?_⟩;refine calls_of_wp A E ?_;have z:Sim j.nt ⟨blks,g,w⟩ ⟨jD 0 args,blks⟩ {tmps:=vals++Array.replicate (fn.ntmps-vals.size) undef,defers:=[]} w:=(by refine⟨by simp;omega,rfl,g,B,λn x y=>?_,.refl _⟩;obtain⟨_,y⟩:=ZE y;rw[uX]at y;have J:=JC y;refine⟨vals[n]'(by omega),?_,hrel n x _ y (CV _)⟩;grind);have fin: ∀{s},hA j blks.length s=some r-> ∀e w',Sim j.nt ⟨blks,g,w⟩ s e w'->e.defers=[]/\ ∃v,(results fn e.tmps).run P w'=.ok v w'/\ ∃D g',Ending.returned v=.returned D/\
     Inv ⟨r.2,g',w'⟩/\bB ⟨blks,g,w⟩ ⟨r.2,g',w'⟩/\JL ⟨r.2,g',w'⟩ r.1 D:=by
    grind [ri]
   split at h;rename_i s hR;exact(ih _ _ _ hR).get q z λe w' C=>fin h e w' C;rename_i s hR;exact(ih _ _ _ hR).get q z λe w' C=>fin h e w' C;cases h;cases h
theorem JHU(a5:P.follows .mixedOrders=true)(hT: ∀f af,T f=some (.fn af)->lC P f af=true)
  (hP: ∀f g,T f=some (.prim g)-> ∀args blks r,g args blks=some r->J5O P f args blks r) (hK: ∀f k,T f=some (.fork k)->lC P f k.af=true): ∀c s r,X T c s=some r->KN P c s r:=by
 refine Zz T _ ?_;intro R ih c s r h;have hF:jN P (qH T R):=qn ih hT hP hK;cases c with
 |skip=>
  simp only[step]at h;injection h with h;subst h;intro N j E a w Q q z next;cases j<;>first
   |exact wp_skip (next a w z)
   |exact wp_label (next a w z)
   |grind [dH]
 |bad=>grind [step]
 |reg d pairs ins=>
  simp only[step]at h;split at h;rename_i s' a3;injection h with h;subst h;intro N j E a w Q q z next;cases j<;>simp only[dH,eK]at q;simp only[aS,beq_iff_eq]at q;obtain⟨rfl,q⟩:=q;exact JJD hF a5 a3 q z next
  cases h
 |seq x y=>
  simp only[step]at h;intro N j E a w Q q z next;cases j<;>simp only[dH,eK]at q;simp only[aS]at q;refine wp_seq ?_;split at h
  rename_i s' F;refine(ih _ _ _ F).get q.1 z λB w' hs'=>?_;exact(ih _ _ _ h).get q.2 hs' next;rename_i Z;refine(ih _ _ _ h).get q.1 z λB w' hs'=>?_;obtain⟨e,s'⟩:=r;cases e with
  |normal=>simp_all
  |exit id=>exact next B w' hs'
  |ret=>exact next B w' hs'
 |cond c x y=>
  simp only[step]at h;intro N j E a w Q q z next;cases j<;>simp only[dH,eK]at q;simp only[aS]at q;obtain⟨⟨a0,F⟩,hy⟩:=q;have hs':=z;obtain⟨_,_,g,hi,D,_⟩:=hs';split at h
  rename_i b I;have hrel:=bL (s:=⟨s.sto,g,w⟩) (env:=s.env) D I a0;generalize K:a.eval _=v at hrel;cases hrel with
  |p _ _ hrel=>
   cases hrel with
   |b=>
    refine wp_cond K ?_;cases b with
    |true=>exact(ih _ _ _ (by simpa using h)).get F z next
    |false=>exact(ih _ _ _ (by simpa using h)).get hy z next
  rename_i I;have hrel:=bL (s:=⟨s.sto,g,w⟩) (env:=s.env) D I a0;generalize K:a.eval _=v at hrel;cases hrel with
  |unk t=>
   refine wp_cond K ?_;unfold same at h;split at h;rename_i r1 r2 e1 e2;split at h;rename_i O;injection h with h;subst h;cases t with
   |true=>exact(ih _ _ _ e1).get F z next
   |false=>rw[O]at next;exact(ih _ _ _ e2).get hy z next
   cases h;cases h
  cases h
 |block id x=>
  simp only[step]at h;intro N j E a w Q q z next;cases j<;>simp only[dH,eK]at q;simp only[aS,beq_iff_eq]at q;obtain⟨rfl,q⟩:=q;refine wp_block ?_;split at h
  rename_i k s' F;refine(ih _ _ _ F).get q z λB w' hs'=>?_;grind [qP,Exit.inBlock];rename_i Z;refine(ih _ _ _ h).get q z λB w' hs'=>?_;obtain⟨e,s'⟩:=r;cases e with
  |normal=>exact next B w' hs'
  |exit id=>simp_all
  |ret=>exact next B w' hs'
 |loop live x=>
  simp only[step]at h;intro N j E a w Q q z next;cases j<;>simp only[dH,eK]at q;split at h
  rename_i s' C;obtain⟨k,hk⟩:=ih _ _ _ h;have J:E.σ.length<=s.sto.length:=by obtain⟨_,_,g,_,_,A⟩:=z;exact A.len
  obtain⟨hs',hl⟩:=QE z C J (zQ0 _);exact wp_loop_rounds k (hk N _ E a w Q q J (by omega) hs' next);cases h
 |lp n live x=>
  simp only[step]at h;split at h
  ·rename_i s' F;split at h
   ·rename_i aw C;obtain⟨k,hk⟩:=ih _ _ _ h;refine⟨k+1,λN j E a w Q q J hn z next=>?_⟩;rw[rounds_succ];obtain⟨h1,h2,g,hi,D,A⟩:=z;have G:Sim N ⟨s.sto,g,w⟩ s a w:=⟨h1,h2,g,hi,D,.refl _⟩;refine(ih _ _ _ F).get q G λB w' hs'=>?_;obtain⟨V,S,g',L,M,H⟩:=hs';have hlen:s.sto.length<=s'.sto.length:=H.len;have aa:Sim N E s' B w':=⟨V,S,g',L,M,A.trans H⟩;obtain⟨ab,hl⟩:=QE aa C J (by omega);exact hk N j E B w' Q q J (by omega) ab next
   cases h
  ·rename_i Z;refine⟨1,λN j E a w Q q J hn z next=>?_⟩;rw[rounds_succ];refine(ih _ _ _ h).get q z λB w' hs'=>?_;obtain⟨e,s'⟩:=r;cases e with|normal=>simp_all|exit id=>exact next B w' hs'|ret=>exact next B w' hs'
 |scope x=>simp only[step]at h;intro N j E a w Q q z next;cases j<;>simp only[dH,eK]at q;refine wp_scope_straight ((ih _ _ _ h).get q z λB w' hs'=>?_);have:=next B w' hs';obtain⟨e,s'⟩:=r;cases e<;>exact this
 |exit id=>
  simp only[step]at h;injection h with h;subst h;intro N j E a w Q q z next;cases j<;>simp only[dH,eK]at q;simp only[beq_iff_eq]at q;subst q;exact wp_exit (next a w z)
 |ret=>
  simp only[step]at h;injection h with h;subst h;intro N j E a w Q q z next;cases j<;>simp only[dH,eK]at q;exact wp_ret (next a w z)
 |keep live x=>simp only[step]at h;intro N j E a w Q q z next;exact(ih _ _ _ h).get (by grind [dH]) (z.restr live) next
 |tidy live x=>
  simp only[step,mB]at h;intro N j E a w Q q z next;split at h;rename_i e W O;split at h;rename_i s3 C;injection h with h;subst h;obtain⟨h1,h2,g,hi,D,A⟩:=z;have G:Sim N ⟨s.sto,g,w⟩ s a w:=⟨h1,h2,g,hi,D,.refl _⟩;refine(ih _ _ _ O).get (by grind [dH]) G λB w' hs'=>next B w' ?_;obtain⟨V,S,g',L,M,H⟩:=hs';exact(QE (st:=W) (st':=s3) ⟨V,S,g',L,M,A.trans H⟩ C A.len H.len).1;cases h;cases h
 |br live pre o x y rest=>
  simp only[step]at h;intro N j E a w Q q z next;unfold dH at q;split at q;rename_i cp cq cx cy cz;simp only[aS]at q;obtain⟨⟨⟨⟨hp,ho⟩,F⟩,hy⟩,hz⟩:=q;split at h;rename_i s1 a7;refine wp_seq (wp_seq ((ih _ _ _ a7).get hp z λY U a2=>?_));have ae: ∀{c:cC} {j:Code} {r':Out},dH P N c j=true->thn (R c s1) (λs=>R rest s)=some r'->
    ∀{E:Sn} {a:Act} {w:World} {Q:Exit->Act->World->Prop},Sim N E s1 a w->(∀B w',Sim N E r'.2 B w'->Q (qP r'.1) B w')->j.wp P (Exit.then (cz.wp P Q) Q) a w:=by
   intro c j r' q A E a w Q z next;cases hR:R c s1 with
   |none=>rw[hR]at A;cases A
   |some o=>
    obtain⟨e,W⟩:=o;rw[hR]at A;refine(ih _ _ _ hR).get q z λB w' hs'=>?_;cases e with
    |normal=>exact(ih _ _ _ A).get hz hs' next
    |exit id=>injection A with A;subst A;exact next B w' hs'
    |ret=>injection A with A;subst A;exact next B w' hs'
  have ai: ∀{c:cC} {j:Code},dH P N c j=true->mB s1.sto.length live (thn (R c s1) λs=>R rest s)=some r->j.wp P (Exit.then (cz.wp P Q) Q) Y U:=(by intro c j q A;unfold mB at A;split at A;rename_i e W O;split at A;rename_i s3 C;injection A with A;subst A;obtain⟨h1,h2,g,hi,D,A⟩:=a2;have G:Sim N ⟨s1.sto,g,U⟩ s1 Y U:=⟨h1,h2,g,hi,D,.refl _⟩;refine ae q O G λB w' hs'=>next B w' ?_;obtain⟨V,S,g',L,M,H⟩:=hs';exact(QE (st:=W) (st':=s3) ⟨V,S,g',L,M,A.trans H⟩ C A.len H.len).1;cases A;cases A);have a4:=a2;obtain⟨_,_,g,hi,D,_⟩:=a4;simp only[qP,Exit.then];split at h;rename_i b I;have hrel:=bL (s:=⟨s1.sto,g,U⟩) (env:=s1.env) D I ho;generalize K:Y.eval cq=v at hrel;cases hrel with
  |p _ _ hrel=>cases hrel<;>grind [wp_cond]
  rename_i I;have hrel:=bL (s:=⟨s1.sto,g,U⟩) (env:=s1.env) D I ho;generalize K:Y.eval cq=v at hrel;cases hrel with
  |unk t=>
   refine wp_cond K ?_;unfold same at h;grind
  cases h;cases h;cases q
theorem Br(e:P.follows .mixedOrders=true)(j: ∀f o,T f=some (.fn o)->lC P f o=true)
  (h: ∀f g,T f=some (.prim g)-> ∀args blks r,g args blks=some r->J5O P f args blks r) (n: ∀f k,T f=some (.fork k)->lC P f k.af=true):jN P (AF T):=
 qn (JHU e j h n) j h n
end
end Go.Am
end
section
namespace Go.Am
@[congr] theorem JLT{o e:Option Out}{k:St->Option Out}(h:o=e):thn o k=thn e k:=by rw[h]
@[congr] theorem JL0{α β:Type}{o e:RM α}{f:α->RM β}(h:o=e):o.bind f=e.bind f:=by rw[h]
@[congr] theorem JL1{α β:Type}{o e:Option α}{f:α->Option β}(h:o=e):o.bind f=e.bind f:=by rw[h]
@[simp] theorem LN(s k):thn (some (.normal,s)) k=k s:=rfl
@[simp] theorem JG8(i s k):thn (some (.exit i,s)) k=some (.exit i,s):=rfl
@[simp] theorem JHS(s k):thn (some (.ret,s)) k=some (.ret,s):=rfl
@[simp] theorem JES(k):thn none k=none:=rfl
def GU(o:Option Out)(k:St->Option Out):Option Out:=
 match o with
 |some (.normal,s)=>k s
 |_=>none
@[congr] theorem JL5{o e:Option Out}{k:St->Option Out}(h:o=e):GU o k=GU e k:=by rw[h]
@[simp] theorem Gz(s k):GU (some (.normal,s)) k=k s:=rfl
def blo(id:Nat)(o:Option Out):Option Out:=
 match o with
 |some (.exit k,s)=>if k=id then some (.normal,s)else some (.exit k,s)
 |o=>o
@[simp] theorem JCn(id s):blo id (some (.normal,s))=some (.normal,s):=rfl
@[simp] theorem qa(id i s):blo id (some (.exit i,s))=if i=id then some (.normal,s)else some (.exit i,s):=rfl
@[simp] theorem JII(id s):blo id (some (.ret,s))=some (.ret,s):=rfl
@[simp] theorem JFG(id):blo id none=none:=rfl
def nrm(o:Option St):Option Out:=match o with|some s=>some (.normal,s)|none=>none
@[simp] theorem JHa(s):nrm (some s)=some (.normal,s):=rfl
@[simp] theorem JGp:nrm none=none:=rfl
def evv(x:Opd)(env:List (Nat×AV)):Option AV:=match x with| .t n=>lk n env| .c v=>some v
@[simp] theorem JMo(n env):evv (.t n) env=lk n env:=rfl
@[simp] theorem JMp(v env):evv (.c v) env=some v:=rfl
theorem OW(x:Opd)(s:St):(ev x).run s=evv x s.env:=by cases x<;>grind [ev,RM.run,evv]
section
variable (T:eN)
@[simp ↓] theorem JMj(s):X T .skip s=some (.normal,s):=by rw[lU];rfl
@[simp ↓] theorem Bv(a b s):X T (.seq a b) s=thn (X T a s) λs=>X T b s:=by
 rw[lU];simp only[step];cases X T a s with
 |none=>rfl
 |some o=>obtain⟨e,s'⟩:=o;cases e<;>rfl
theorem Bo(d ps ins s):X T (.reg d ps ins) s=nrm (region (AF T) ps ins s):=by rw[lU];simp only[step];show(match region (AF T) ps ins s with|some s'=>some (AX.normal,s')|none=>none)=_;cases region (AF T) ps ins s<;>rfl
@[simp ↓] theorem JMl(d ins env sto):X T (.reg d [] ins) ⟨env,sto⟩=nrm (gB (AF T) ins sto.length ⟨env,room (news ins) sto⟩):=by rw[Bo];rfl
def cnd(x:Option AV)(a b:Option Out)(c:Unit->Option Out):Option Out:=
 match x with
 |some (.p (.b x))=>if x=true then a else b
 |some .unk=>c ()
 |_=>none
@[congr] theorem JLR{x e:Option AV}{a b:Option Out}{c:Unit->Option Out}(h:x=e):cnd x a b c=cnd e a b c:=by rw[h]
@[simp] theorem Bn(x a b c):cnd (some (.p (.b x))) a b c=if x=true then a else b:=rfl
@[simp] theorem JIQ(a b c):cnd (some .unk) a b c=c ():=rfl
@[simp ↓] theorem JJ1(x a b s):X T (.cond x a b) s=cnd (evv x s.env) (X T a s) (X T b s) λ_=>same (X T a s) (X T b s):=by
 rw[lU];simp only[step,OW];cases evv x s.env with
 |none=>rfl
 |some v=>
  cases v with
  |p c=>cases c<;>rfl
  |_=>rfl
@[simp ↓] theorem JHG(id c s):X T (.block id c) s=blo id (X T c s):=by
 rw[lU];simp only[step];cases X T c s with
 |none=>rfl
 |some o=>obtain⟨e,s'⟩:=o;cases e<;>rfl
@[simp ↓] theorem JI2(c s):X T (.scope c) s=X T c s:=by rw[lU];rfl
@[simp ↓] theorem JMi(id s):X T (.exit id) s=some (.exit id,s):=by rw[lU];rfl
@[simp ↓] theorem Z4(s):X T .ret s=some (.ret,s):=by rw[lU];rfl
@[simp ↓] theorem Ch(live c s):X T (.keep live c) s=X T c ⟨restr live s.env,s.sto⟩:=by rw[lU];rfl
@[simp ↓] theorem JMr(live pre x a b rest s):X T (.br live pre x a b rest) s=GU (X T pre s) λs1=>
  cnd (evv x s1.env) (thn (X T a s1) λs=>X T rest s) (thn (X T b s1) λs=>X T rest s) λ_=>
   same (mB s1.sto.length live (thn (X T a s1) λs=>X T rest s)) (mB s1.sto.length live (thn (X T b s1) λs=>X T rest s)):=by
 rw[lU];simp only[step,OW];cases X T pre s with
 |none=>rfl
 |some o=>
  obtain⟨e,s1⟩:=o;cases e with
  |normal=>
   dsimp only[GU];cases evv x s1.env with
   |none=>rfl
   |some v=>
    cases v with
    |p c=>cases c<;>rfl
    |_=>rfl
  |exit=>rfl
  |ret=>rfl
@[simp ↓] theorem JK2(live c env sto):X T (.loop live c) ⟨env,sto⟩=X T (.lp sto.length live c) ⟨restr live env,sto⟩:=by
 grind [lU,step,clean]
theorem ko(n live c s):X T (.lp n live c) s=thn (X T c s) λs=>match clean n live s with
  |some s=>X T (.lp n live c) s
  |none=>none:=by
 rw[lU];simp only[step];cases X T c s with
 |none=>rfl
 |some o=>obtain⟨e,s'⟩:=o;cases e<;>rfl
def GH(res:List uN)(fresh:Bool)(m:Nat)(o:Option Out):Option Res:=
 match o with
 |some (.normal,s)=>hA ⟨0,0,.skip,res,fresh⟩ m s
 |some (.ret,s)=>hA ⟨0,0,.skip,res,fresh⟩ m s
 |_=>none
@[congr] theorem JLv{res:List uN}{fresh:Bool}{m:Nat}{o e:Option Out}(h:o=e):GH res fresh m o=GH res fresh m e:=by rw[h]
@[simp] theorem Gq(res fresh m s):GH res fresh m (some (.normal,s))=hA ⟨0,0,.skip,res,fresh⟩ m s:=rfl
@[simp] theorem JGQ(res fresh m s):GH res fresh m (some (.ret,s))=hA ⟨0,0,.skip,res,fresh⟩ m s:=rfl
@[simp] theorem JLk(o:Option Res):IM o o=o:=by unfold IM;cases o<;>simp
theorem JLM{f:FuncId}{fn:AFn}(h:T f=some (.fn fn))(args blks):AF T f args blks=if args.length=fn.np then
  GH fn.res fn.fresh blks.length (X T fn.body ⟨jD 0 args,blks⟩)
 else none:=by
 unfold AF qH;rw[h];rfl
end
variable {F:Orc} {env:List (Nat×AV)} {sto:List Blk} {new:Nat} {r:List cA} {d:Nat}
@[simp] theorem JB8(s):gB F [] new s=some s:=rfl
theorem Gt(i s):gB F (i::r) new s=((cB F i new).run s).bind λe=>gB F r (new+lA i.op) (put i.dst e s):=by
 grind [gB]
@[simp] theorem JM1:news []=0:=rfl
@[simp ↓] theorem JLS(i):news (i::r)=lA i.op+news r:=rfl
@[simp] theorem JMm:room 0 sto=sto:=rfl
@[simp] theorem JLP(n):room (n+1) sto=sto++List.replicate (n+1) .dead:=rfl
@[simp] theorem JMn(n):lk n []=none:=rfl
@[simp] theorem JIj(n m v)(r:List (Nat×AV)):lk n ((m,v)::r)=if n=m then some v else lk n r:=rfl
attribute [simp ↓] Gt cB opD sO lA run_bind OW opR
attribute [simp] put val evs evo kK nT
 nA xI xK unP jE GO fz fz.fzL fz.fz1 fzs zB gK iE sub spl qN NX HM IN IU mC OL uT pG kG vR vP dE nG iN mmP cellsOf unp pE kI
 mZ one jD gM KL mD
@[simp] theorem JLU(o:Option Out):same o o=o:=by unfold same;cases o<;>simp
@[simp ↓] theorem bI{α:Type}(a:α)(s:St):(RM.ret a).run s=some a:=rfl
@[simp ↓] theorem JMd{α:Type}(s:St):(RM.fail:RM α).run s=none:=rfl
@[simp ↓] theorem wB{α:Type}(n:Nat)(k:AV->RM α)(s:St):(RM.slot n k).run s=(lk n s.env).bind λv=>(k v).run s:=by grind [RM.run]
@[simp ↓] theorem eR{α:Type}(n:Nat)(k:Blk->RM α)(s:St):(RM.blk n k).run s=(s.sto[n]?).bind λv=>(k v).run s:=by grind [RM.run]
@[simp] theorem JHB:upd [] sto=sto:=rfl
@[simp] theorem JG2(b x ws):upd ((b,x)::ws) sto=upd ws (sto.set b x):=rfl
@[simp] theorem JLQ:restr [] env=[]:=rfl
@[simp] theorem JCu(k l):restr (k::l) env=match lk k env with
 |some v=>(k,v)::restr l env
 |none=>restr l env:=rfl
end Go.Am
namespace Go.Am
def oZ:AV->Bool| .p _| .data _| .cp _ _| .unk=>true|_=>false
@[simp] theorem JM2(c):oZ (.p c)=true:=rfl
@[simp] theorem JL2(c):oZ (.data c)=true:=rfl
@[simp] theorem JLO(c o):oZ (.cp c o)=true:=rfl
theorem ta: ∀{args:List AV} {l:List Ent},args.all oZ=true->cQ.entsOfL args l=l|[],l,_=>rfl|x::r,l,h=>by simp only[List.all_cons,aS]at h;obtain⟨h1,h2⟩:=h;simp only[cQ.entsOfL];cases x<;>simp[oZ]at h1<;>simp only[cQ]<;>exact ta h2
theorem qz{ρ:Ent->Option Nat}: ∀{args:List AV},args.all oZ=true->ren.renL ρ args=some args|[],_=>rfl|x::r,h=>by simp only[List.all_cons,aS]at h;have:=qz (ρ:=ρ) h.2;have h1:=h.1;clear h;cases x<;>simp[oZ]at h1<;>simp[ren.renL,ren,this]
theorem JGb{es:List Ent}{new:Nat}{x:AV}(h:oZ x=true):bk es new x=some x:=by cases x<;>simp[oZ]at h<;>rfl
theorem fv{es:List Ent}{new:Nat}: ∀{xs:List AV},xs.all oZ=true->bk.bkL es new xs=some xs|[],_=>rfl|x::r,h=>by simp only[List.all_cons,aS]at h;simp[bk.bkL,JGb h.1,fv h.2]
@[simp] theorem JMq(es new c):bk es new (.p c)=some (.p c):=rfl
@[simp] theorem JMh(es new c):bk es new (.data c)=some (.data c):=rfl
@[simp] theorem JMk(es new l):bk es new (.tup l)=(bk.bkL es new l).map .tup:=by grind [bk]
@[simp] theorem JMg(es new):bk.bkL es new []=some []:=rfl
@[simp] theorem JM5(es new x l):bk.bkL es new (x::l)=(bk es new x).bind λy=>(bk.bkL es new l).map λl=>y::l:=by simp only[bk.bkL];cases bk es new x<;>simp;cases bk.bkL es new l<;>rfl
@[simp] theorem JL3(n live):mB n live none=none:=rfl
@[simp] theorem F9(n live e s):mB n live (some (e,s))=(clean n live s).map λs=>(e,s):=by
 grind [mB]
attribute [simp ↓] JQ Option.bind_none LN JG8 JHS JES Gz JHa JGp Bn JIQ JCn qa JII JFG Gq JGQ JB8 JIj JCu JHB JG2
attribute [simp] clean uM qE gA fin fin.finL hA jP qG cQ cQ.entsOfL vQ jK vI eT unp
end Go.Am
end
section
namespace Go.Am
inductive Fr where|sq (b:cC)|bl (id:Nat)|td (n:Nat) (live:List Nat)|lo (n:Nat) (live:List Nat) (c:cC)
noncomputable def again(T:eN)(n:Nat)(live:List Nat)(c:cC)(o:Option St):Option Out:=match o with|some s=>X T (.lp n live c) s|none=>none
section
variable (T:eN) (f:AFn) (m:Nat) (k:List Fr)
theorem JJu(live c s):X T (.tidy live c) s=mB s.sto.length live (X T c s):=by rw[lU];rfl
end
open Classical in
noncomputable def Jg{σ ρ:Type}(f:σ->Option (σ⊕ρ))(s:σ):Option ρ:=
 let e:Nat->σ->Option ρ:=λn=>n.rec (λ_=>none) λ_ ih s=>match f s with|some (.inl s')=>ih s'|some (.inr r)=>some r|none=>none
 if h: ∃n r,e n s=some r then e (Classical.choose h) s else none
def cH{σ ρ:Type}(f:σ->Option (σ⊕ρ)):Nat->σ->Option ρ|0,_=>none|n+1,s=>match f s with|some (.inl s')=>cH f n s'|some (.inr r)=>some r|none=>none
section
variable {σ ρ:Type} {f:σ->Option (σ⊕ρ)}
theorem ZG(n:Nat): ∀s:σ,(Nat.rec (motive:=λ_=>σ->Option ρ) (λ_=>none) (λ_ ih s=>match f s with
  |some (.inl s')=>ih s'
  |some (.inr r)=>some r
  |none=>none) n) s=cH f n s:=by
 induction n with
 |zero=>intro s;rfl
 |succ n ih=>grind [cH]
theorem fa: ∀{n:Nat} {s:σ} {r:ρ} (m:Nat),cH f n s=some r->cH f (n+m) s=some r
 |0,_,_,_,h=>by cases h
 |n+1,s,r,m,h=>by
  rw[show n+1+m=(n+m)+1 by omega];simp only[cH]at h⊢;split at h;exact fa m h
  all_goals simp_all
theorem JFg{n m:Nat}{s:σ}{r r':ρ}(h:cH f n s=some r)(e:cH f m s=some r'):r=r':=by
 have a:=fa m h;have b:=fa n e;grind
theorem gE{s:σ}{r:ρ}:Jg f s=some r↔ ∃n,cH f n s=some r:=by
 unfold Jg;dsimp only;constructor;intro h;split at h;exact⟨_,by rw[<-ZG];exact h⟩;cases h;rintro⟨n,h⟩;have e: ∃n r,(Nat.rec (motive:=λ_=>σ->Option ρ) (λ_=>none) (λ_ ih s=>match f s with
  |some (.inl s')=>ih s'
  |some (.inr r)=>some r
  |none=>none) n) s=some r:=⟨n,r,by grind [ZG]⟩
 rw[dif_pos e];obtain⟨r',g⟩:=Classical.choose_spec e;rw[g];rw[ZG]at g;grind [JFg]
theorem EX{s:σ}{r:ρ}(h:f s=some (.inr r)):Jg f s=some r:=gE.2 ⟨1,by grind [cH]⟩
theorem gb{s s':σ}(h:f s=some (.inl s')):Jg f s=Jg f s':=by
 have g: ∀r,Jg f s=some r↔Jg f s'=some r:=by
  intro r;rw[gE,gE];constructor;rintro⟨n,e⟩;cases n<;>grind [cH]
  rintro⟨n,e⟩;exact⟨n+1,by grind [cH]⟩
 cases hs:Jg f s with
 |some r=>grind
 |none=>cases hs':Jg f s'<;>grind
theorem fg{P:σ->ρ->Prop}(h1: ∀s r,f s=some (.inr r)->P s r)(h2: ∀s s' r,f s=some (.inl s')->P s' r->P s r){s:σ}{r:ρ}(h:Jg f s=some r):P s r:=by
 obtain⟨n,e⟩:=gE.1 h;clear h
 induction n generalizing s with
 |zero=>cases e
 |succ n ih=>
  grind [cH]
end
end Go.Am
end
section
namespace Go.Am
section
variable {α:Type}
def idx(l:List α)(n:Int):Option α:=if 0<=n then l[n.toNat]? else none
def aV(k:Nat)(n:Int):Option Unit:=if 0<=n/\n<k then some ()else none
def JO(bytes:Nat)(l l':List α):Option (List α):=if nG (l.length+l'.length) bytes=true then some (l++l')else none
def cZ(bytes:Nat)(l:List α):Option (List α):=if nG l.length bytes=true then some l else none
def zx(bytes:Nat)(l l':List α):Option (List α):=if 0<l'.length/\nG (l.length+l'.length) bytes=true then some (l++l')else none
def mkS(bytes:Nat)(n m:Int)(z:α):Option (List α):=if 0<=n/\n<=m/\bytes*m<=281474976710656/\m<=281474976710656 then some (List.replicate n.toNat z)else none
def sJ(x:Option Int)(top e:Nat):Option Nat:=match x with|none=>some e|some n=>if 0<=n/\n<=top then some n.toNat else none
def qD(n:Nat)(lo hi:Option Int):Option (Nat×Nat):=match sJ hi n n with|none=>none|some h=>match sJ lo h 0 with|none=>none|some l=>some (l,h)
def bG(l:List α)(lo hi:Option Int):Option (List α):=match qD l.length lo hi with|some c=>some ((l.drop c.1).take (c.2-c.1))|none=>none
def A8(k:IntKind)(x y:Int):Option Int:=if y=0 then none else some (k.wrap (x.tdiv y))
def uV(x y:Int):Option Int:=if y=0 then none else some (x.tmod y)
def sE(k:IntKind)(x y:Int):Option Int:=if y<0 then none else some (k.wrap (x*2^(min y.toNat k.bits)))
def lY(k:IntKind)(x y:Int):Option Int:=if y<0 then none else some (x.fdiv (2^(min y.toNat k.bits)))
def pZ(k:IntKind)(x y:Int):Int:=k.wrap (BitVec.ofInt k.bits x&&&BitVec.ofInt k.bits y).toNat
def orI(k:IntKind)(x y:Int):Int:=k.wrap (BitVec.ofInt k.bits x|||BitVec.ofInt k.bits y).toNat
def fT(k:IntKind)(x y:Int):Int:=k.wrap (BitVec.ofInt k.bits x^^^BitVec.ofInt k.bits y).toNat
def UQ(k:IntKind)(n:Int):Int:=k.wrap (BitVec.ofInt k.bits (if k.signed then -1 else k.max)^^^BitVec.ofInt k.bits n).toNat
def eJ(a b:List UInt8):Option (List UInt8):=if a.length+b.length<=4611686018427387904 then some (a++b)else none
def oD(l:List UInt8)(n:Int):Option Int:=if 0<=n then(match l[n.toNat]? with|some u=>some (u.toNat:Int)|none=>none)else none
def qB{k:Nat}(v:Vector α k)(n:Int):Option α:=if 0<=n/\n<k then v[n.toNat]? else none
def toStr(l:List Int):List UInt8:=l.map λn=>UInt8.ofNat n.toNat
def aR(l:List UInt8):List Int:=l.map λu=>(u.toNat:Int)
def gV(x y:Int):Int:=if y<x then y else x
def cP(x y:Int):Int:=if y>x then y else x
end
@[reducible] def cat(a b:List PV):List PV:=a++b
def r_i(k:IntKind)(n:Int):List PV:=[.i k n]
def r_b(x:Bool):List PV:=[.b x]
def r_s(l:List UInt8):List PV:=[.s l]
def Zv{α:Type}(esz:Nat)(r:α->List PV)(l:List α):List PV:=[.sl esz (l.map r)]
def oL{α:Type}{n:Nat}(r:α->List PV)(v:Vector α n):List PV:=(v.toList.map r).flatten
section
variable {α:Type}
theorem yY(cs:List α)(off size:Nat):sub cs off size=if off+size<=cs.length then some ((cs.drop off).take size)else none:=by
 grind [sub]
theorem EE(cs:List α)(off:Nat)(vs:List α):spl cs off vs=if off+vs.length<=cs.length then some (cs.take off++vs++cs.drop (off+vs.length))else none:=by simp_all
theorem YD{cs:List α}{n:Nat}(h:cs.length=n):sub cs 0 n=some cs:=by simp_all
theorem Ef{cs vs:List α}(h:cs.length=vs.length):spl cs 0 vs=some vs:=by simp_all
theorem JEH{a b c:List α}{off size:Nat}(h1:a.length=off)(h2:b.length=size):sub (a++(b++c)) off size=some b:=by
 grind [yY]
theorem JCN{b c:List α}{size:Nat}(h2:b.length=size):sub (b++c) 0 size=some b:=JEH (a:=[]) rfl h2
theorem JDy{a b c v:List α}{off:Nat}(h1:a.length=off)(h2:b.length=v.length):spl (a++(b++c)) off v=some (a++(v++c)):=by
 grind [EE]
theorem JD0{b c v:List α}(h2:b.length=v.length):spl (b++c) 0 v=some (v++c):=JDy (a:=[]) rfl h2
theorem oy{cs e r:List α}{a m k n:Nat}(h1:sub cs a m=some e)(h2:sub e k n=some r):sub cs (a+k) n=some r:=by
 grind [yY,List.drop_take,List.drop_drop]
theorem Dd{cs g e v cs':List α}{a m k:Nat}(h1:sub cs a m=some g)(h2:spl g k v=some e)(h3:spl cs a e=some cs'):spl cs (a+k) v=some cs':=by
 rw[yY]at h1;rw[EE]at h2 h3⊢;split at h1;rename_i o;injection h1 with h1;subst h1;split at h2;rename_i j;injection h2 with h2;subst h2;simp at j;split at h3;injection h3 with h3;subst h3;rw[if_pos (by omega)]
 congr 1
 simp only[eI,sK,yC,List.take_take,List.drop_take,BX,iB];have h:cs.take (a+k)=cs.take a++(cs.drop a).take k:=List.take_add ..;rw[h,iB];rw[show min k m=k by omega]
 congr 3
 have n:cs.drop (a+k+v.length)=(cs.drop (a+(k+v.length))).take (m-(k+v.length))++cs.drop (a+m):=(by have:=SO (m-(k+v.length)) (cs.drop (a+(k+v.length)));rw[BX]at this;rw[show a+(k+v.length)+(m-(k+v.length))=a+m by omega]at this;grind);rw[n]
 congr 2
 omega;cases h3;cases h2;cases h1
theorem ER{β:Type}(g:α->β)(cs:List α)(off size:Nat):sub (cs.map g) off size=(sub cs off size).map (List.map g):=by
 grind [yY,List.map_drop,List.map_take]
theorem EQ{β:Type}(g:α->β)(cs:List α)(off:Nat)(vs:List α):spl (cs.map g) off (vs.map g)=(spl cs off vs).map (List.map g):=by
 grind [EE,List.map_drop,List.map_take]
theorem KC{n k w:Nat}{r:α->List PV}(hr: ∀x,(r x).length=w){v:Vector α n}{x:α}(h:v[k]?=some x):sub (oL r v) (k*w) w=some (r x):=by
 have g: ∀(l:List α) (k:Nat) (x:α),l[k]?=some x->sub ((l.map r).flatten) (k*w) w=some (r x):=by
  intro l
  induction l with
  |nil=>simp_all
  |cons y l ih=>
   intro k x h;cases k with
   |zero=>
    grind [JCN]
   |succ k=>
    simp at h;have:=ih k x h;rw[bU,nF];rw[yY]at this⊢;split at this;injection this with this;have e:(k+1)*w=w+k*w:=by grind
    rw[e,if_pos (by grind)];have j:w+k*w=(r y).length+k*w:=by rw[hr]
    rw[j,List.drop_length_add_append,this];cases this
 exact g _ _ _ (by simp_all)
theorem Cj{n k w:Nat}{r:α->List PV}(hr: ∀x,(r x).length=w){v:Vector α n}(h:k<n)(y:α):spl (oL r v) (k*w) (r y)=some (oL r (v.setIfInBounds k y)):=by
 have g: ∀(l:List α) (k:Nat),k<l.length->spl ((l.map r).flatten) (k*w) (r y)=some (((l.set k y).map r).flatten):=by
  intro l
  induction l with
  |nil=>simp_all
  |cons z l ih=>
   intro k h;cases k with
   |zero=>
    grind [JD0]
   |succ k=>
    simp at h;have:=ih k h;rw[bU,nF];rw[EE]at this⊢;split at this;rename_i j;injection this with this;have e:(k+1)*w=(r z).length+k*w:=by grind
    rw[e,if_pos (by grind)];simp only[List.set_cons_succ,bU,nF];rw[<-this];rw[show(r z).length+k*w+(r y).length=(r z).length+(k*w+(r y).length) by omega];simp[List.take_length_add_append];cases this
 grind [oL]
theorem JKa{n w:Nat}{r:α->List PV}(hr: ∀x,(r x).length=w)(v:Vector α n):(oL r v).length=n*w:=by
 have e: ∀l:List α,((l.map r).flatten).length=l.length*w:=by
  intro l
  induction l with
  |nil=>simp
  |cons x l ih=>grind
 grind [oL]
end
theorem LD: ∀l:List PV,unp (l.map AV.p)=some l|[]=>rfl|x::l=>by simp[unp,LD l]
theorem tt(l:List PV):kK true (l.map AV.p)=some (.data l):=by simp[LD]
theorem VL: ∀l:List PV,(l.map AV.p).all oZ=true|[]=>rfl|x::l=>by simp
theorem sd(m:Nat)(ids:List Nat)(sto:List Blk): ∀l:List PV,fin.finL m ids sto (l.map AV.p)=some (l.map AV.p)|[]=>rfl|x::l=>by simp[fin.finL,fin,sd m ids sto l]
theorem ru(l:List PV)(acc:List Ent):cQ.entsOfL (l.map AV.p) acc=acc:=ta (VL l)
theorem JDv{α:Type}{r:α->List PV}{l:List α}{n:Int}{x:α}(h:idx l n=some x):OL (l.map r) n=some (r x):=by simp_all [idx]
theorem D1{k:Nat}{n:Int}{u:Unit}(h:aV k n=some u):0<=n/\n<k:=by
 grind [aV]
theorem JEU{α:Type}{k:Nat}{v:Vector α k}{n:Int}{x:α}(h:qB v n=some x):(0<=n/\n<k)/\v[n.toNat]?=some x:=by
 grind [qB]
theorem JIq{α:Type}{r:α->List PV}{esz bytes b:Nat}{w:Bool}{l l' l2:List α}{y:AV}{s:St}(h:JO bytes l l2=some l')(hb:s.sto[b]?=some (.arr w esz (l.map r)))(hy:(dE esz y).run s=some (l2.map r)):
  (iN esz bytes (.slr b 0 l.length) y).run s=some ⟨.slr b 0 l'.length,[(b,.arr w esz (l'.map r))]⟩:=by
 grind [JO,iN,eR,run_bind,bI]
theorem gi: ∀l:List Int,tH (l.map (r_i .u8))=some (toStr l)|[]=>rfl|x::l=>by simp[tH,r_i,gi l,toStr]
theorem ZK(l:List UInt8):l.map mD=(aR l).map (r_i .u8):=by simp[aR,r_i]
theorem JEQ{α:Type}{bytes:Nat}{l l':List α}(h:cZ bytes l=some l'):nG l.length bytes=true/\l'=l:=by
 grind [cZ]
theorem JIC{α:Type}{bytes:Nat}{n m:Int}{z:α}{l:List α}(h:mkS bytes n m z=some l):(0<=n/\n<=m/\bytes*m<=281474976710656/\m<=281474976710656)/\l=List.replicate n.toNat z:=by
 grind [mkS]
end Go.Am
end
section
set_option linter.unusedSimpArgs false
set_option linter.unusedVariables false
namespace Go.Am
open Go.RowKit
theorem JH1{σ:List Blk}{g:Gh}{w w':World}(hi:Inv ⟨σ,g,w⟩)(hb:Below w.heap.size w w'):
  Inv ⟨σ,g,w'⟩/\bB ⟨σ,g,w⟩ ⟨σ,g,w'⟩:=by
 have j: ∀(r:Nat) x,w.heap[r]?=some x->w'.heap[r]?=some x:=λr x h=>by rw[hb.block r (RR h)];exact h
 have n: ∀r o v,cellAt w r o=some v->cellAt w' r o=some v:=(by grind [cellAt]);have t:bB ⟨σ,g,w⟩ ⟨σ,g,w'⟩:=by
  refine⟨⟨hb.size,λr c e fz h=>⟨c,j r _ h,rfl,λ_ _=>rfl⟩,λr x h _=>j r x h,hb.os,hb.output⟩,λ_ _ h=>h,λ_ _ h=>.inl h,λr o ⟨b,hb⟩=>.inl ⟨b,hb⟩,zQ0 _,λ_ cs h=>⟨⟨cs,h,rfl⟩,rfl⟩,
   λ_ wm _ rows h=>⟨wm,rows,h,id,zQ0 _,λ_=>rfl⟩⟩
 exact⟨pB hi t (λ_=>False) (λ_ _=>⟨rfl,rfl⟩) (λ_ r o v _ _ h=>n r o v h) (λ_ _ h=>h.elim) (λ_ _ _ _ h=>h.elim)
  (λ_ _ _ _ h=>h.elim) (λr o h=>Nat.lt_of_lt_of_le (hi.const r o h).1 hb.size) (λ_ _ _ _ h=>h.elim) (λ_ _ _ h k=>(k h).elim),t⟩
def xW:PV->Option Value| .b x=>some (.bool x)| .i k n=>some (.int k n)| .s l=>some (.string ⟨l.toArray⟩)|_=>none
theorem JFO{x:PV}{v:Value}(h:xW x=some v)(w:World)(C:Nat->Nat->Prop):J0g w C x v:=by
 cases x<;>simp only[xW,Option.some.injEq,reduceCtorEq]at h<;>subst h
 exact .b _;exact .i _ _;exact .s _
theorem JIb{x:PV}{v e:Value}{w:World}{C:Nat->Nat->Prop}(h:J0g w C x v)(hv:xW x=some e):v=e:=by cases x<;>simp only[xW,Option.some.injEq,reduceCtorEq]at hv<;>subst hv<;>cases h<;>rfl
theorem JpH{P:Program}{f:FuncId}{xs:List PV}{vs:List Value}{r:PV}{v:Value}{blks:List Blk}
  (hf: ∃fn,P.funcs[f]?=some fn∧fn.body.isSome=true∧(fn.name== "runtime.NumGoroutine")=false)
  (hx:xs.mapM xW=some vs) (hr:xW r=some v)
  (hc: ∀w,Calls P f vs.toArray w λe w'=>e=.returned v/\Below w.heap.size w w'):
  J5O P f (xs.map .p) blks (.p r,blks):=by
 refine⟨hf,λg w vals hi B D=>?_⟩;have h:vals=vs.toArray:=by
  have n: ∀(xs:List PV) (vs vl:List Value),xs.mapM xW=some vs->xs.length=vl.length->
    (∀(i:Nat) x v,(xs.map AV.p)[i]?=some x->vl[i]?=some v->JL ⟨blks,g,w⟩ x v)->vl=vs:=by
   intro xs
   induction xs with
   |nil=>grind
   |cons x r ih=>
    intro vs vl h1 h2 h3;simp only[List.mapM_cons,Option.pure_def,Option.bind_eq_bind]at h1;obtain⟨v0,o,h1⟩:=cK.1 h1;obtain⟨y,k,h1⟩:=cK.1 h1;simp only[Option.some.injEq]at h1;subst h1;cases vl with
    |nil=>simp at h2
    |cons u q=>
     have:=h3 0 (.p x) u rfl rfl;cases this with
     |p _ _ A=>rw[JIb A o,ih y q k (by simpa using h2) (λi x v hx C=>h3 (i+1) x v hx C)]
  apply CC;rw[n xs vs vals.toList hx (by simpa using B) (λi x v h1 h2=>D i x v h1 (by simpa using h2))]
 subst h;refine(hc w).mono ?_;rintro e w' ⟨rfl,z⟩;obtain⟨j,t⟩:=JH1 hi z;exact⟨v,g,rfl,j,t,.p _ _ (JFO hr _ _)⟩
theorem YJ{T:eN}{f:FuncId}{g:List AV->List Blk->Option Res}(h:T f=some (.prim g))(args blks):AF T f args blks=g args blks:=by simp_all [AF,qH]
def Al(a:Option AFn)(k:Option oE)(g q:Option (List AV->List Blk->Option Res)):Option Entry:=
 match a with
 |some a=>some (.fn a)
 |none=>match k with|some k=>some (.fork k)|none=>match g with|some g=>some (.prim g)|none=>q.map .prim
theorem EU{a:Option AFn}{k:Option oE}{g q:Option (List AV->List Blk->Option Res)}{e:Entry}(h:Al a k g q=some e):
  (∃x,a=some x/\e=.fn x)\/(∃x,k=some x/\e=.fork x)\/(∃x,g=some x/\e=.prim x)\/(∃x,q=some x/\e=.prim x):=by
 cases a with
 |some a=>exact .inl ⟨a,rfl,by injection h with h;exact h.symm⟩
 |none=>
  cases k with
  |some k=>exact .inr (.inl ⟨k,rfl,by injection h with h;exact h.symm⟩)
  |none=>
   cases g with
   |some g=>exact .inr (.inr (.inl ⟨g,rfl,by injection h with h;exact h.symm⟩))
   |none=>
    cases q with
    |some q=>exact .inr (.inr (.inr ⟨q,rfl,by injection h with h;exact h.symm⟩))
    |none=>cases h
def Jlc(l:List UInt8)(n:Int):Option (List UInt8):=if 0<=n/\n<=9223372036854775807/\l.length*n.toNat<=140737488355328 then some (List.replicate n.toNat l).flatten else none
def JBS:List AV->List Blk->Option Res|[.p (.s l),.p (.i .i64 n)],blks=>(Jlc l n).map λr=>(.p (.s r),blks)|_,_=>none
def J6N(n:Int)(i:Nat):Int:=IntKind.wrap .u8 ((IntKind.wrap .u64 n).fdiv (2^(8*i)))
def J0E(n:Int)(k:Nat):List UInt8:=toStr ((List.range k).map (J6N n))
def Jk7(l:List UInt8)(n size:Int):Option (List UInt8):=if size<1\/8<size then some l else if l.length+8<=140737488355328 then some (l++J0E n size.toNat)else none
def JBn:List AV->List Blk->Option Res|[.p (.s l),.p (.i .i64 n),.p (.i .i64 k)],blks=>(Jk7 l n k).map λr=>(.p (.s r),blks)|_,_=>none
theorem JIB(x:Int):0<=IntKind.wrap .u8 x/\IntKind.wrap .u8 x<256:=by have h:IntKind.wrap .u8 x=x%256:=rfl;rw[h];omega
theorem Jn2(n:Int)(i:Nat):((UInt8.ofNat (J6N n i).toNat).toNat:Int)=J6N n i:=by
 have h:0<=J6N n i/\J6N n i<256:=JIB _;grind [UInt8.toNat_ofNat_of_lt']
theorem Jqw(n:Int)(k:Nat):J0E n (k+1)=J0E n k++[UInt8.ofNat (J6N n k).toNat]:=by simp[J0E,toStr,List.range_succ]
theorem JX(n:Int)(k:Nat):(J0E n k).length=k:=by simp[J0E,toStr]
theorem JLK(x y:Bool):cE [.b] [.b x] [.b y]=some (decide (x=y)):=by
 grind [cE,uQ]
theorem JLC(k:IntKind)(x y:Int):cE [.i k] [.i k x] [.i k y]=some (decide (x=y)):=by
 grind [cE,uQ]
theorem JLA(x y:List UInt8):cE [.s] [.s x] [.s y]=some (decide (x=y)):=by
 grind [cE,uQ]
theorem ow{p q:Prop} [Decidable p] [Decidable q]: ∀{e g:List KD} {a1 a2 b1 b2:List PV},cE e a1 b1=some (decide p)->cE g a2 b2=some (decide q)->cE (e++g) (cat a1 a2) (cat b1 b2)=some (decide (p/\q)):=by
 have h: ∀(e g:List KD) (a1 a2 b1 b2:List PV) (r s:Bool),cE e a1 b1=some r->cE g a2 b2=some s->cE (e++g) (a1++a2) (b1++b2)=some (r&&s):=by
  intro e
  induction e with
  |nil=>
   grind [cE]
  |cons k ks ih=>
   intro g a1 a2 b1 b2 r s h1 h2;cases a1 with
   |nil=>grind [cE]
   |cons a a1=>
    cases b1 with
    |nil=>grind [cE]
    |cons b b1=>
     simp only[cE]at h1;split at h1;rename_i u c j n;injection h1 with h1;subst h1;simp only[sH,cE,j,ih _ _ _ _ _ _ _ n h2,Bool.and_assoc];cases h1
 intro e g a1 a2 b1 b2 h1 h2;rw[h _ _ _ _ _ _ _ _ h1 h2,Bool.decide_and]
theorem JKo{α:Type} [DecidableEq α]{n:Nat}{ks:List KD}{r:α->List PV}(h: ∀x y,cE ks (r x) (r y)=some (decide (x=y)))(v w:Vector α n):
  cE (List.replicate n ks).flatten (oL r v) (oL r w)=some (decide (v=w)):=by
 have e: ∀(l l':List α),l.length=l'.length->cE (List.replicate l.length ks).flatten (l.map r).flatten (l'.map r).flatten=some (decide (l=l')):=by
  intro l
  induction l with
  |nil=>grind [cE]
  |cons a l ih=>
   intro l' h1;cases l' with
   |nil=>simp at h1
   |cons b l'=>
    have h2:=ow (h a b) (ih l' (by simpa using h1));grind [decide]
 have h3:=e v.toList w.toList (by simp);rw[show v.toList.length=n by simp]at h3;rw[show decide (v=w)=decide (v.toList=w.toList) by simp[Vector.toList_inj]];exact h3
end Go.Am
end
section
namespace Go.Am
def J1(k:IntKind)(a c:Int):Int:=k.wrap (a+c)
def JJ(k:IntKind)(a c:Int):Int:=k.wrap (a-c)
def cV(k:IntKind)(a c:Int):Int:=k.wrap (a*c)
def Zu(k:IntKind)(n:Int):Int:=k.wrap (0-n)
def bS(k:IntKind)(n:Int):Int:=k.wrap n
def aH(a c:Int):Bool:=decide (a=c)
def aM(a c:Int):Bool:= !decide (a=c)
def aK(a c:Int):Bool:=decide (a<c)
def bJ(a c:Int):Bool:=decide (a<=c)
def aO(a c:Int):Bool:=decide (a>c)
def aQ(a c:Int):Bool:=decide (a>=c)
def eqS(a c:List UInt8):Bool:=decide (a=c)
def neS(a c:List UInt8):Bool:= !decide (a=c)
def ltS(a c:List UInt8):Bool:=Op.bytesLess a c
def leS(a c:List UInt8):Bool:=Op.bytesLess a c||decide (a=c)
def gtS(a c:List UInt8):Bool:= !(Op.bytesLess a c||decide (a=c))
def geS(a c:List UInt8):Bool:= !Op.bytesLess a c
def eqB(a c:Bool):Bool:=decide (a=c)
def Jp(x:Bool):Bool:= !x
def J0{α:Type}(l:List α):Int:=l.length
def JLW{α:Type}(c:Bool)(x y:α):α:=if c=true then x else y
def bF{α:Type}(l:List α)(i:Nat):Option α:=l[i]?
def aW{α:Type}(l:List α)(i:Nat)(x:α):List α:=l.set i x
def vat{α:Type}{n:Nat}(l:Vector α n)(i:Nat):Option α:=l[i]?
def hU{α:Type}{n:Nat}(l:Vector α n)(i:Nat)(x:α):Vector α n:=l.setIfInBounds i x
inductive Ty where
 |b
 |i (k:IntKind)
 |s
 |l (t:Ty)
 |pr (a c:Ty)
 |ar (n:Nat) (t:Ty)
 |u
 |f
 deriving DecidableEq
@[reducible] def Ty.D:Ty->Type
 | .b=>Bool
 | .i _=>Int
 | .s=>List UInt8
 | .l t=>List t.D
 | .pr a c=>a.D×c.D
 | .ar n t=>Vector t.D n
 | .u=>Unit
 | .f=>Unit
def Ty.sz:Ty->Nat| .b=>1| .i _=>1| .s=>1| .l _=>1| .pr a c=>a.sz+c.sz| .ar n t=>n*t.sz| .u=>0| .f=>1
def cel:(t:Ty)->t.D->List PV| .b,x=>[.b x]| .i k,x=>[.i k x]| .s,x=>[.s x]| .l t,x=>[.sl t.sz (x.map (cel t))]| .pr a c,x=>cel a x.1++cel c x.2| .ar _ t,x=>oL (cel t) x| .u,_=>[]| .f,_=>[.nf]
theorem eO: ∀(t:Ty) (x:t.D),(cel t x).length=t.sz| .b,_=>rfl| .i _,_=>rfl| .s,_=>rfl| .l _,_=>rfl| .pr a c,x=>by simp only[cel,eI,eO a,eO c,Ty.sz]| .ar n t,x=>by simp only[cel,Ty.sz];exact JKa (eO t) x| .u,_=>rfl| .f,_=>rfl
def Ty.eqd:(t:Ty)->DecidableEq t.D| .b=>inferInstanceAs (DecidableEq Bool)| .i _=>inferInstanceAs (DecidableEq Int)| .s=>inferInstanceAs (DecidableEq (List UInt8))| .l t=>have:=t.eqd;inferInstanceAs (DecidableEq (List t.D))| .pr a c=>have:=a.eqd;have:=c.eqd;inferInstanceAs (DecidableEq (a.D×c.D))| .ar n t=>have:=t.eqd;inferInstanceAs (DecidableEq (Vector t.D n))| .u=>inferInstanceAs (DecidableEq Unit)| .f=>inferInstanceAs (DecidableEq Unit)
def eqT(t:Ty)(x y:t.D):Bool:=have:=t.eqd;decide (x=y)
theorem dY{t:Ty}{x y:t.D}:eqT t x y=true↔x=y:=by simp[eqT]
def Ty.zero:(t:Ty)->t.D| .b=>false| .i _=>(0:Int)| .s=>[]| .l _=>[]| .pr a c=>(a.zero,c.zero)| .ar n t=>Vector.replicate n t.zero| .u=>()| .f=>()
def Ty.ks:Ty->Option (List KD)
 | .b=>some [.b]
 | .i k=>some [.i k]
 | .s=>some [.s]
 | .l _=>none
 | .pr a c=>match a.ks,c.ks with|some x,some y=>some (x++y)|_,_=>none
 | .ar n t=>match t.ks with|some x=>some (List.replicate n x).flatten|none=>none
 | .u=>some []
 | .f=>none
theorem PG: ∀(t:Ty) {ks:List KD} (x y:t.D),t.ks=some ks->cE ks (cel t x) (cel t y)=some (eqT t x y)
 | .b,ks,x,y,h=>by injection h with h;subst h;exact JLK x y
 | .i k,ks,x,y,h=>by injection h with h;subst h;exact JLC k x y
 | .s,ks,x,y,h=>by injection h with h;subst h;exact JLA x y
 | .l _,_,_,_,h=>by cases h
 | .pr a c,ks,x,y,h=>by
  simp only[Ty.ks]at h;split at h;rename_i p q e g;injection h with h;subst h;have h1:=PG a x.1 y.1 e;have h2:=PG c x.2 y.2 g;unfold eqT at h1 h2;have j:(have:=a.eqd;decide (x.1=y.1))= @decide _ (a.eqd x.1 y.1):=rfl;have:= @ow _ _ (a.eqd x.1 y.1) (c.eqd x.2 y.2) _ _ _ _ _ _ h1 h2;simp only[cel];refine this.trans (congrArg some ?_);grind [eqT];cases h
 | .ar n t,ks,x,y,h=>by
  simp only[Ty.ks]at h;split at h;rename_i p e;injection h with h;subst h;have:= @JKo t.D t.eqd n p (cel t) (λx y=>by have:=PG t x y e;exact this) x y;grind [cel,eqT];cases h
 | .u,ks,x,y,h=>by injection h with h;subst h;rfl
 | .f,_,_,_,h=>by cases h
inductive Sp where
 |f (off:Nat)
 |a (i esz:Nat)
 deriving DecidableEq
def spo:List Sp->Nat|[]=>0| .f o::r=>o+spo r| .a i e::r=>i*e+spo r
def spf:Nat->List Sp->Nat×List Sp|o,.f k::r=>spf (o+k) r|o,r=>(o,r)
theorem OB: ∀(o:Nat) (p:List Sp),(spf o p).1+spo (spf o p).2=o+spo p|o,[]=>rfl|o,.f k::r=>by simp only[spf,OB,spo];omega|o,.a i e::r=>rfl
section
variable {R:Type}
def prt:(t:Ty)->t.D->(off:Nat)->List Sp->(w:Ty)->(w.D->Option R)->Option R
 |t,x,off,p,w,k=>
  if h:t=w/\off=0/\p=[]then k (h.1▸x)
  else match t,x with
   | .pr a c,x=>if off+(if p=[]then w.sz else 1)<=a.sz then prt a x.1 off p w k
    else if a.sz<=off then prt c x.2 (off-a.sz) p w k
    else none
   | .ar _ t,x=>if p=[]then(vat x (off/t.sz)).bind λy=>prt t y (off%t.sz) p w k
    else match off,p with|0,.a i e::r=>if e=t.sz then(vat x i).bind λy=>prt t y (spf 0 r).1 (spf 0 r).2 w k else none|_,_=>none
   |_,_=>none
def pst:(t:Ty)->t.D->(off:Nat)->List Sp->(w:Ty)->w.D->(t.D->Option R)->Option R
 |t,x,off,p,w,v,k=>
  if h:t=w/\off=0/\p=[]then k (h.1.symm▸v)
  else match t,x,k with
   | .pr a c,x,k=>if off+(if p=[]then w.sz else 1)<=a.sz then pst a x.1 off p w v λy=>k (y,x.2)
    else if a.sz<=off then pst c x.2 (off-a.sz) p w v λy=>k (x.1,y)
    else none
   | .ar _ t,x,k=>if p=[]then(vat x (off/t.sz)).bind λy=>pst t y (off%t.sz) p w v λy=>k (hU x (off/t.sz) y)
    else match off,p with|0,.a i e::r=>if e=t.sz then(vat x i).bind λy=>pst t y (spf 0 r).1 (spf 0 r).2 w v λy=>k (hU x i y)else none|_,_=>none
   |_,_,_=>none
end
theorem JGh{α:Type}{a b v:List α}{off n:Nat}(h:sub a off n=some v):sub (a++b) off n=some v:=by
 grind [yY]
theorem JEu{α:Type}{a b v:List α}{off n:Nat}(h0:a.length<=off)(h:sub b (off-a.length) n=some v):sub (a++b) off n=some v:=by
 grind [yY,List.drop_append,List.drop_of_length_le]
theorem JH5{α:Type}{a b v e:List α}{off:Nat}(h:spl a off v=some e):spl (a++b) off v=some (e++b):=by
 grind [EE]
theorem JDF{α:Type}{a b v e:List α}{off:Nat}(h0:a.length<=off)(h:spl b (off-a.length) v=some e):spl (a++b) off v=some (a++e):=by
 rw[EE]at h⊢;split at h;injection h with h;rw[if_pos (by simp;omega),<-h,List.take_append,List.take_of_length_le h0,List.drop_append,List.drop_of_length_le (by omega)];simp;omega;cases h
theorem Dy{α:Type}{n i:Nat}{x:Vector α n}{y:α}(h:x[i]?=some y):i<n:=by
 grind
theorem vV{R:Type}{t w:Ty}{x:t.D}{off:Nat}{p:List Sp}{k:w.D->Option R}{r:R}(h0:t=w/\off=0/\p=[])(h:k (h0.1▸x)=some r):
  ∃y,sub (cel t x) (off+spo p) w.sz=some (cel w y)/\k y=some r:=by
 obtain⟨rfl,rfl,rfl⟩:=h0;grind [spo,YD,eO]
theorem vW{R:Type}{t w:Ty}{x:t.D}{off:Nat}{p:List Sp}{v:w.D}{k:t.D->Option R}{r:R}(h0:t=w/\off=0/\p=[])(h:k (h0.1.symm▸v)=some r):
  ∃y,spl (cel t x) (off+spo p) (cel w v)=some (cel t y)/\k y=some r:=by
 obtain⟨rfl,rfl,rfl⟩:=h0;grind [spo,Ef,eO]
theorem vU{R:Type}: ∀{t:Ty} {x:t.D} {off:Nat} {p:List Sp} {w:Ty} {k:w.D->Option R} {r:R},prt t x off p w k=some r->
  ∃y,sub (cel t x) (off+spo p) w.sz=some (cel w y)/\k y=some r
 | .pr a c,x,off,p,w,k,r,h=>by
  unfold prt at h;by_cases h0:Ty.pr a c=w/\off=0/\p=[];rw[dif_pos h0]at h;exact vV h0 h;rw[dif_neg h0]at h;dsimp only at h;by_cases h1:off+(if p=[]then w.sz else 1)<=a.sz;rw[if_pos h1]at h;obtain⟨y,o,j⟩:=vU h;exact⟨y,JGh o,j⟩;rw[if_neg h1]at h;by_cases h2:a.sz<=off;rw[if_pos h2]at h;obtain⟨y,o,j⟩:=vU h;refine⟨y,JEu (by grind [eO]) ?_,j⟩;grind [eO];simp_all
 | .ar n t,x,off,p,w,k,r,h=>by
  unfold prt at h;by_cases h0:Ty.ar n t=w/\off=0/\p=[];rw[dif_pos h0]at h;exact vV h0 h;rw[dif_neg h0]at h;dsimp only at h;by_cases v:p=[];rw[if_pos v]at h;obtain⟨z,g,h⟩:=cK.1 h;obtain⟨y,h1,h2⟩:=vU h;refine⟨y,?_,h2⟩;have:=oy (KC (eO t) g) h1;grind [cel,Nat.div_add_mod];rw[if_neg v]at h;split at h;rename_i _ i e q _;split at h;rename_i A;obtain⟨z,g,h⟩:=cK.1 h;obtain⟨y,h1,h2⟩:=vU h;refine⟨y,?_,h2⟩;have:=oy (KC (eO t) g) h1;grind [cel,OB,spo];cases h;cases h
 | .b,x,off,p,w,k,r,h=>by
  unfold prt at h;split at h
  next h0=>exact vV h0 h
  next=>cases h
 | .i _,x,off,p,w,k,r,h=>by
  unfold prt at h;split at h
  next h0=>exact vV h0 h
  next=>cases h
 | .s,x,off,p,w,k,r,h=>by
  unfold prt at h;split at h
  next h0=>exact vV h0 h
  next=>cases h
 | .l _,x,off,p,w,k,r,h=>by
  unfold prt at h;split at h
  next h0=>exact vV h0 h
  next=>cases h
 | .u,x,off,p,w,k,r,h=>by
  unfold prt at h;split at h
  next h0=>exact vV h0 h
  next=>cases h
 | .f,x,off,p,w,k,r,h=>by
  unfold prt at h;split at h
  next h0=>exact vV h0 h
  next=>cases h
theorem yT{R:Type}: ∀{t:Ty} {x:t.D} {off:Nat} {p:List Sp} {w:Ty} {v:w.D} {k:t.D->Option R} {r:R},pst t x off p w v k=some r->
  ∃y,spl (cel t x) (off+spo p) (cel w v)=some (cel t y)/\k y=some r
 | .pr a c,x,off,p,w,v,k,r,h=>by
  unfold pst at h;by_cases h0:Ty.pr a c=w/\off=0/\p=[];rw[dif_pos h0]at h;exact vW h0 h;rw[dif_neg h0]at h;dsimp only at h;by_cases h1:off+(if p=[]then w.sz else 1)<=a.sz;rw[if_pos h1]at h;obtain⟨y,A,o⟩:=yT h;exact⟨(y,x.2),JH5 A,o⟩;rw[if_neg h1]at h;by_cases h2:a.sz<=off;rw[if_pos h2]at h;obtain⟨y,A,o⟩:=yT h;refine⟨(x.1,y),JDF (by grind [eO]) ?_,o⟩;grind [eO];simp_all
 | .ar n t,x,off,p,w,v,k,r,h=>by
  unfold pst at h;by_cases h0:Ty.ar n t=w/\off=0/\p=[];rw[dif_pos h0]at h;exact vW h0 h;rw[dif_neg h0]at h;dsimp only at h;by_cases j:p=[];rw[if_pos j]at h;obtain⟨z,g,h⟩:=cK.1 h;obtain⟨y,h1,h2⟩:=yT h;refine⟨_,?_,h2⟩;have:=Dd (KC (eO t) g) h1 (Cj (eO t) (Dy g) y);subst j;simp only[spo,xO]at this⊢;rw[Nat.mul_comm,Nat.div_add_mod]at this;exact this;rw[if_neg j]at h;split at h;rename_i _ i e q _;split at h;rename_i B;obtain⟨z,g,h⟩:=cK.1 h;obtain⟨y,h1,h2⟩:=yT h;refine⟨_,?_,h2⟩;have:=Dd (KC (eO t) g) h1 (Cj (eO t) (Dy g) y);have C:=OB 0 q;simp only[spo,B];rw[show i*t.sz+((spf 0 q).1+spo (spf 0 q).2)=0+(i*t.sz+spo q) by omega]at this;exact this;cases h;cases h
 | .b,x,off,p,w,v,k,r,h=>by
  unfold pst at h;split at h
  next h0=>exact vW h0 h
  next=>cases h
 | .i _,x,off,p,w,v,k,r,h=>by
  unfold pst at h;split at h
  next h0=>exact vW h0 h
  next=>cases h
 | .s,x,off,p,w,v,k,r,h=>by
  unfold pst at h;split at h
  next h0=>exact vW h0 h
  next=>cases h
 | .l _,x,off,p,w,v,k,r,h=>by
  unfold pst at h;split at h
  next h0=>exact vW h0 h
  next=>cases h
 | .u,x,off,p,w,v,k,r,h=>by
  unfold pst at h;split at h
  next h0=>exact vW h0 h
  next=>cases h
 | .f,x,off,p,w,v,k,r,h=>by
  unfold pst at h;split at h
  next h0=>exact vW h0 h
  next=>cases h
end Go.Am
end
section
namespace Go.Am
inductive TC where|d (t:Ty) (x:t.D)|sc (t:Ty) (rows:List t.D)|np|nf|un|ptr (b:Nat) (p:List Sp)|cp (t:Ty) (x:t.D) (p:List Sp)|slr (b:Nat)|slo (b n:Nat)|ep (b i:Nat) (p:List Sp)|epo (b e i:Nat) (p:List Sp)|fn (f:FuncId)
inductive TA where|c (x:TC)|dt (t:Ty) (x:t.D)|m (t:Ty) (cs:List TC)|fn (f:FuncId) (first caps:List TC)
inductive TV where|a (x:TA)|tup (vs:List TA)
inductive TB where|dead|box (t:Ty) (x:t.D)|mbox (t:Ty) (cs:List TC)|arr (w:Bool) (t:Ty) (rows:List t.D)
structure TSt where
 env:List (Nat×TV)
 sto:List TB
def hdP:List PV->PV|[c]=>c|_=>.np
def lnB:TB->Nat| .arr _ _ rows=>rows.length|_=>0
def lnO:Option TB->Nat|some x=>lnB x|none=>0
def lns(sto:List TB)(b:Nat):Nat:=lnO sto[b]?
section
variable (L:Nat->Nat)
def aX:TC->AV| .d t x=>.p (hdP (cel t x))| .sc t rows=>.p (.slc t.sz (rows.map (cel t)))| .np=>.p .np| .nf=>.p .nf| .un=>.unk| .ptr b p=>.ptr b (spo p)| .cp t x p=>.cp (cel t x) (spo p)| .slr b=>.slr b 0 (L b)| .slo b n=>.slr b 0 n| .ep b i p=>.ep b (L b) i (spo p)| .epo b e i p=>.ep b e i (spo p)| .fn f=>.fn f [] []
def bV:TA->AV| .c x=>aX L x| .dt t x=>.data (cel t x)| .m _ cs=>.agg (cs.map (aX L))| .fn f a c=>.fn f (a.map (aX L)) (c.map (aX L))
def aT:TV->AV| .a x=>bV L x| .tup vs=>.tup (vs.map (bV L))
def aY:TB->Blk| .dead=>.dead| .box t x=>.box ((cel t x).map .p)| .mbox _ cs=>.box (cs.map (aX L))| .arr w t rows=>.arr w t.sz (rows.map (cel t))
end
def fV(L:Nat->Nat)(env:List (Nat×TV)):List (Nat×AV):=env.map λx=>(x.1,aT L x.2)
def JD(s:TSt):St:=⟨fV (lns s.sto) s.env,s.sto.map (aY (lns s.sto))⟩
section
variable (L:Nat->Nat)
theorem DU(t x):aY L (.box t x)=.box ((cel t x).map .p):=rfl
theorem KQ(t cs):aY L (.mbox t cs)=.box (cs.map (aX L)):=rfl
theorem XI(w t rows):aY L (.arr w t rows)=.arr w t.sz (rows.map (cel t)):=rfl
theorem kF(b p):aT L (.a (.c (.ptr b p)))=.ptr b (spo p):=rfl
theorem lW(t x p):aT L (.a (.c (.cp t x p)))=.cp (cel t x) (spo p):=rfl
theorem gZ(b):aT L (.a (.c (.slr b)))=.slr b 0 (L b):=rfl
theorem lS(b i p):aT L (.a (.c (.ep b i p)))=.ep b (L b) i (spo p):=rfl
theorem e_i(k x):aT L (.a (.c (.d (.i k) x)))=.p (.i k x):=rfl
theorem e_b(x):aT L (.a (.c (.d .b x)))=.p (.b x):=rfl
theorem e_s(x):aT L (.a (.c (.d .s x)))=.p (.s x):=rfl
theorem e_l(t x):aT L (.a (.c (.d (.l t) x)))=.p (.sl t.sz (x.map (cel t))):=rfl
theorem Ba(f):aT L (.a (.c (.fn f)))=.fn f [] []:=rfl
theorem jm(t x):aT L (.a (.dt t x))=.data (cel t x):=rfl
theorem j8(f a c):aT L (.a (.fn f a c))=.fn f (a.map (aX L)) (c.map (aX L)):=rfl
theorem e_m(t cs):aT L (.a (.m t cs))=.agg (cs.map (aX L)):=rfl
end
theorem HF{t:Ty}(h:t.sz=1)(x:t.D):cel t x=[hdP (cel t x)]:=by
 have:=eO t x;rw[h]at this
 match hc:cel t x,this with
 |[c],_=>rfl
def kC(b n:Nat):TC->TC| .slr c=>if c=b then .slo b n else .slr c| .ep c i p=>if c=b then .epo b n i p else .ep c i p|x=>x
def kA(b n:Nat):TA->TA| .c x=>.c (kC b n x)| .dt t x=>.dt t x| .m t cs=>.m t (cs.map (kC b n))| .fn f a c=>.fn f (a.map (kC b n)) (c.map (kC b n))
def kV(b n:Nat):TV->TV| .a x=>.a (kA b n x)| .tup vs=>.tup (vs.map (kA b n))
def kB(b n:Nat):TB->TB| .mbox t cs=>.mbox t (cs.map (kC b n))|x=>x
def wS(b:Nat)(x:TB)(s:TSt):TSt:=⟨s.env,s.sto.set b x⟩
def wN(b:Nat)(x:TB)(s:TSt):TSt:=⟨s.env.map λy=>(y.1,kV b (lns s.sto b) y.2),(s.sto.map (kB b (lns s.sto b))).set b x⟩
def bA(d:Option Nat)(v:TV)(s:TSt):TSt:=
 match d with
 |some d=>⟨(d,v)::s.env,s.sto⟩
 |none=>s
section
variable {L L':Nat->Nat} {b:Nat}
theorem k_C(h: ∀c,c≠b->L' c=L c)(x:TC):aX L' (kC b (L b) x)=aX L x:=by cases x<;>grind [kC,aX]
theorem Ah(h: ∀c,c≠b->L' c=L c)(xs:List TC):(xs.map (kC b (L b))).map (aX L')=xs.map (aX L):=by simp_all [k_C]
theorem k_A(h: ∀c,c≠b->L' c=L c)(x:TA):bV L' (kA b (L b) x)=bV L x:=by cases x<;>simp only[kA,bV,k_C h,Ah h]
theorem k_V(h: ∀c,c≠b->L' c=L c)(x:TV):aT L' (kV b (L b) x)=aT L x:=by cases x<;>simp only[kV,aT,k_A h,yE,Function.comp_def]
theorem k_B(h: ∀c,c≠b->L' c=L c)(x:TB):aY L' (kB b (L b) x)=aY L x:=by cases x<;>simp only[kB,aY,Ah h]
theorem JKJ(b n:Nat)(x:TB):lnB (kB b n x)=lnB x:=by cases x<;>rfl
theorem JJt(sto:List TB)(b n c:Nat):lns (sto.map (kB b n)) c=lns sto c:=by
 unfold lns;rw[fS];cases sto[c]? with
 |none=>rfl
 |some x=>exact JKJ b n x
theorem D3(sto:List TB)(b:Nat)(x:TB)(c:Nat)(h:c≠b):lns (sto.set b x) c=lns sto c:=by
 grind [lns]
theorem XH{sto:List TB}{b:Nat}(h:b<sto.length)(x:TB):lns (sto.set b x) b=lnB x:=by unfold lns;rw[CN h];rfl
theorem Bs(b:Nat)(x:TB)(s:TSt):JD (wN b x s)=⟨(JD s).env,(JD s).sto.set b (aY (lns (wN b x s).sto) x)⟩:=by
 have h: ∀c,c≠b->lns (wN b x s).sto c=lns s.sto c:=λc e=>by
  grind [wN,D3,JJt]
 unfold JD
 congr 1
 show fV _ (s.env.map λy=>(y.1,kV b (lns s.sto b) y.2))=fV _ s.env;simp_all [fV,k_V];show((s.sto.map (kB b (lns s.sto b))).set b x).map _=_;grind [List.map_set,List.map_congr_left,k_B]
theorem DZ{b:Nat}{x:TB}{s:TSt}(h:lnB x=lns s.sto b):lns (wS b x s).sto=lns s.sto:=by
 grind [wS,XH,List.set_eq_of_length_le,D3]
theorem yL{b:Nat}{x:TB}{s:TSt}(h:lnB x=lns s.sto b):JD (wS b x s)=⟨(JD s).env,(JD s).sto.set b (aY (lns s.sto) x)⟩:=by
 grind [JD,DZ,wS,List.map_set]
theorem qQ{s s1:TSt}{ws:List (Nat×Blk)}(h:JD s1=⟨(JD s).env,upd ws (JD s).sto⟩)(d:Option Nat)(v:TV):put d ⟨aT (lns s1.sto) v,ws⟩ (JD s)=JD (bA d v s1):=by cases d<;>simp_all [bA,JD,fV]
end
theorem KY{s:TSt}(d:Option Nat)(v:TV):put d ⟨aT (lns s.sto) v,[]⟩ (JD s)=JD (bA d v s):=qQ rfl d v
def tlk(n:Nat):List (Nat×TV)->Option TV|[]=>none|(m,v)::r=>if n=m then some v else tlk n r
theorem yS(L:Nat->Nat)(n:Nat): ∀env:List (Nat×TV),lk n (fV L env)=(tlk n env).map (aT L)
 |[]=>rfl
 |(m,v)::r=>by
  simp only[fV,bU,lk,tlk];split;rfl;exact yS L n r
theorem eV(s:TSt)(b:Nat):(JD s).sto[b]?=(s.sto[b]?).map (aY (lns s.sto)):=by simp[JD]
theorem nR{sto:List TB}{b:Nat}{w:Bool}{t:Ty}{rows:List t.D}(h:sto[b]?=some (.arr w t rows)):lns sto b=rows.length:=by unfold lns;rw[h];rfl
inductive TO where|t (n:Nat)|c (x:TV)
def erO:TO->Opd| .t n=>.t n| .c x=>.c (aT (λ_=>0) x)
def Bh:TC->Bool| .d _ _| .sc _ _| .np| .nf| .un| .fn _=>true|_=>false
def OE:TA->Bool| .c x=>Bh x| .dt _ _=>true| .m _ _=>false| .fn _ a c=>a.isEmpty&&c.isEmpty
def DC:TV->Bool| .a x=>OE x| .tup vs=>vs.isEmpty
theorem JGj{L L':Nat->Nat}{v:TV}(h:DC v=true):aT L v=aT L' v:=by
 cases v with
 |a x=>
  cases x with
  |c x=>cases x<;>first|rfl|grind [DC,OE,Bh]
  |dt t x=>rfl
  |m t cs=>grind [DC,OE]
  |fn f a c=>simp[DC,OE]at h;obtain⟨rfl,rfl⟩:=h;rfl
 |tup vs=>simp[DC]at h;subst h;rfl
def tev:TO->TSt->Option TV| .t n,s=>tlk n s.env| .c x,_=>if DC x=true then some x else none
theorem bW{x:TO}{s:TSt}{v:TV}(h:tev x s=some v):(ev (erO x)).run (JD s)=some (aT (lns s.sto) v):=by
 cases x with
 |t n=>simp only[erO,ev,wB];show(lk n (fV (lns s.sto) s.env)).bind _=_;rw[yS,show tlk n s.env=some v from h];rfl
 |c x=>
  grind [tev,erO,ev,bI,JGj]
end Go.Am
end
section
namespace Go.Am
@[reducible] def vi(k:IntKind)(n:Int):TV:=.a (.c (.d (.i k) n))
@[reducible] def vb(x:Bool):TV:=.a (.c (.d .b x))
@[reducible] def vs(l:List UInt8):TV:=.a (.c (.d .s l))
@[reducible] def vl(t:Ty)(l:List t.D):TV:=.a (.c (.d (.l t) l))
def uv:TV:=.tup []
def mkv(agg:Bool)(t:Ty)(x:t.D):TV:=if agg=true then .a (.dt t x)else .a (.c (.d t x))
def Ok{R:Type}(m:RM Eff)(d:Option Nat)(s:TSt)(k:TSt->Option R)(r:R):Prop:= ∃e s',m.run (JD s)=some e/\put d e (JD s)=JD s'/\k s'=some r
def asm:(t:Ty)->List TC->Option t.D
 | .pr a c,l=>match asm a (l.take a.sz),asm c (l.drop a.sz)with|some x,some y=>some (x,y)|_,_=>none
 | .ar _ _,_=>none
 | .u,l=>if l.isEmpty=true then some ()else none
 |t,l=>match l with|[.d t' x]=>if h:t'=t then some (h▸x)else none|_=>none
def xX:(t:Ty)->t.D->Option (List TC)
 | .pr a c,x=>match xX a x.1,xX c x.2 with|some l,some q=>some (l++q)|_,_=>none
 | .ar _ _,_=>none
 | .u,_=>some []
 |t,x=>some [.d t x]
theorem KA(L:Nat->Nat): ∀{t:Ty} {l:List TC} {x:t.D},asm t l=some x->l.map (aX L)=(cel t x).map .p
 | .pr a c,l,x,h=>by
  simp only[asm]at h;split at h;rename_i y z e g;injection h with h;subst h;have h1:=KA L e;have h2:=KA L g;grind [cel,List.take_append_drop];cases h
 | .ar _ _,_,_,h=>by cases h
 | .u,l,x,h=>by
  simp only[asm]at h;split at h;rename_i h0;rw[List.isEmpty_iff.1 h0];rfl;cases h
 | .b,l,x,h=>by
  simp only[asm]at h;split at h;split at h;rename_i h0;subst h0;injection h with h;subst h;rfl;cases h;cases h
 | .i _,l,x,h=>by
  simp only[asm]at h;split at h;split at h;rename_i h0;subst h0;injection h with h;subst h;rfl;cases h;cases h
 | .s,l,x,h=>by
  simp only[asm]at h;split at h;split at h;rename_i h0;subst h0;injection h with h;subst h;rfl;cases h;cases h
 | .l _,l,x,h=>by
  simp only[asm]at h;split at h;split at h;rename_i h0;subst h0;injection h with h;subst h;rfl;cases h;cases h
 | .f,l,x,h=>by
  simp only[asm]at h;split at h;split at h;rename_i h0;subst h0;injection h with h;subst h;rfl;cases h;cases h
theorem KP(L:Nat->Nat): ∀{t:Ty} {x:t.D} {l:List TC},xX t x=some l->l.map (aX L)=(cel t x).map .p
 | .pr a c,x,l,h=>by
  simp only[xX]at h;split at h;rename_i y z e g;injection h with h;subst h;have h1:=KP L e;have h2:=KP L g;grind [cel];cases h
 | .ar _ _,_,_,h=>by cases h
 | .u,x,l,h=>by injection h with h;subst h;rfl
 | .b,x,l,h=>by injection h with h;subst h;rfl
 | .i _,x,l,h=>by injection h with h;subst h;rfl
 | .s,x,l,h=>by injection h with h;subst h;rfl
 | .l _,x,l,h=>by injection h with h;subst h;rfl
 | .f,x,l,h=>by injection h with h;subst h;rfl
def zcs:Ty->List TC| .pr a c=>zcs a++zcs c| .ar n t=>(List.replicate n (zcs t)).flatten| .u=>[]|t=>[.d t t.zero]
theorem DX(L:Nat->Nat): ∀t:Ty,(zcs t).map (aX L)=(cel t t.zero).map .p| .pr a c=>by simp only[zcs,CI,DX L a,DX L c,Ty.zero,cel]| .ar n t=>by have ih:=DX L t;simp_all [cel,oL,Ty.zero,zcs]| .u=>rfl| .b=>rfl| .i _=>rfl| .s=>rfl| .l _=>rfl| .f=>rfl
def mkb(t:Ty)(cs:List TC):TB:=match asm t cs with|some x=>.box t x|none=>.mbox t cs
theorem QA(L:Nat->Nat)(t:Ty)(cs:List TC):aY L (mkb t cs)=.box (cs.map (aX L)):=by
 unfold mkb;split;grind [DU,KA];rfl
theorem PQ(t:Ty)(cs:List TC):lnB (mkb t cs)=0:=by unfold mkb;split<;>rfl
def SR:TC->Bool| .ptr _ _| .cp _ _ _| .slr _| .slo _ _| .ep _ _ _| .epo _ _ _ _| .un| .fn _=>true|_=>false
theorem YG(L:Nat->Nat): ∀{cs:List TC},cs.any SR=true->unp (cs.map (aX L))=none
 |[],h=>by simp at h
 |x::r,h=>by
  simp only[List.any_cons,BY]at h;rcases h with h|h;cases x<;>simp[SR]at h<;>rfl
  have:=YG L h;cases x<;>simp[aX,unp,this]
def mka(agg:Bool)(t:Ty)(cs:List TC):Option TV:=
 if agg=true then
  match asm t cs with
  |some x=>some (.a (.dt t x))
  |none=>if cs.any SR=true then some (.a (.m t cs))else none
 else match cs with|[c]=>some (.a (.c c))|_=>none
theorem DW(L:Nat->Nat){agg:Bool}{t:Ty}{cs:List TC}{v:TV}(h:mka agg t cs=some v):kK agg (cs.map (aX L))=some (aT L v):=by
 unfold mka at h;split at h;rename_i e;subst e;split at h;rename_i x j;injection h with h;subst h;rw[KA L j,tt];rfl;split at h;rename_i g;injection h with h;subst h;simp only[kK,YG L g,if_true];rfl;cases h;rename_i e;split at h;injection h with h;subst h;have:agg=false:=by simpa using e
 subst this;rfl;cases h
def tcs:TV->Option (List TC)| .a (.c .un)=>none| .a (.c x)=>some [x]| .a (.dt t x)=>xX t x| .a (.m _ cs)=>some cs| .a (.fn f [] [])=>some [.fn f]|_=>none
theorem KM(L:Nat->Nat){v:TV}{cs:List TC}(h:tcs v=some cs):cellsOf (aT L v)=some (cs.map (aX L)):=by
 cases v with
 |a x=>
  cases x with
  |c x=>cases x<;>cases h<;>rfl
  |dt t x=>simp only[aT,bV,cellsOf];rw[KP L h]
  |m t cs=>injection h with h;subst h;rfl
  |fn f a c=>
   cases a with
   |nil=>cases c with
    |nil=>injection h with h;subst h;rfl
    |cons y c=>cases h
   |cons y a=>cases h
 |tup vs=>cases h
def tdv(t:Ty):TV->Option t.D| .a (.c (.d t' x))=>if h:t'=t then some (h▸x)else none| .a (.dt t' x)=>if h:t'=t then some (h▸x)else none|_=>none
def agv:TV->Bool| .a (.dt _ _)=>true|_=>false
theorem JKL(L:Nat->Nat){t:Ty}{v:TV}{x:t.D}(h:tdv t v=some x):aT L v=if agv v=true then .data (cel t x)else .p (hdP (cel t x)):=by
 unfold tdv at h;split at h;split at h;rename_i h0;subst h0;injection h with h;subst h;rfl;cases h;split at h;rename_i h0;subst h0;injection h with h;subst h;rfl;cases h;cases h
def sG:List Sp->Option Nat
 |[]=>some 0
 | .f o::r=>match sG r with|some n=>some (o+n)|none=>none
 | .a _ _::_=>none
theorem DP: ∀{p:List Sp} {n:Nat},sG p=some n->spo p=n
 |[],n,h=>by injection h with h
 | .f o::r,n,h=>by
  simp only[sG]at h;split at h;rename_i m e;injection h with h;simp only[spo,DP e,h];cases h
 | .a _ _::_,_,h=>by cases h
section
variable {R:Type}
def mg(agg:Bool)(t:Ty)(v:TV)(d:Option Nat)(s:TSt)(k:TSt->Option R):Option R:=
 if agg=true\/t.sz=1 then
  match v with
  | .a (.c (.cp e x p))=>prt e x (spf 0 p).1 (spf 0 p).2 t λy=>k (bA d (mkv agg t y) s)
  | .a (.c (.ptr b p))=>match s.sto[b]? with
   |some (.box e x)=>prt e x (spf 0 p).1 (spf 0 p).2 t λy=>k (bA d (mkv agg t y) s)
   |some (.mbox _ cs)=>match sG p with
    |some off=>match sub cs off t.sz with
     |some l=>match mka agg t l with|some v=>k (bA d v s)|none=>none
     |none=>none
    |none=>none
   |_=>none
  | .a (.c (.ep b i p))=>match s.sto[b]? with|some (.arr _ e rows)=>(bF rows i).bind λrow=>prt e row (spf 0 p).1 (spf 0 p).2 t λy=>k (bA d (mkv agg t y) s)|_=>none
  |_=>none
 else none
theorem DO(L:Nat->Nat){agg:Bool}{t:Ty}(h:agg=true\/t.sz=1)(y:t.D):nT agg (cel t y)=some (aT L (mkv agg t y)):=by
 unfold mkv;split;rename_i e;subst e;rfl;rename_i e;have:agg=false:=by simpa using e
 subst this;have:=h.resolve_left (by simp);rw[HF this];rfl
theorem GN(p:List Sp):(spf 0 p).1+spo (spf 0 p).2=spo p:=by simp[OB]
theorem JGX{agg:Bool}{t:Ty}{v:TV}{d:Option Nat}{s:TSt}{k:TSt->Option R}{r:R}(h:mg agg t v d s k=some r):Ok (gK agg t.sz (aT (lns s.sto) v)) d s k r:=by
 unfold mg at h;split at h;rename_i j;split at h;rename_i n x p;obtain⟨y,h1,h2⟩:=vU h;rw[GN]at h1;refine⟨_,_,?_,KY d (mkv agg t y),h2⟩;simp only[kF,lW,lS,gZ,gK,h1,DO (lns s.sto) j,val];rfl;rename_i b p;split at h;rename_i n x e;obtain⟨y,h1,h2⟩:=vU h;rw[GN]at h1;refine⟨_,_,?_,KY d (mkv agg t y),h2⟩;have A:kK agg ((cel t y).map .p)=nT agg (cel t y):=by
  unfold kK nT;split;rw[LD];cases hcel:cel t y with
  |nil=>rfl
  |cons a l=>cases l<;>rfl
 simp only[kF,lW,lS,gZ,gK,eR,eV,e,dJ,JQ,aY,ER,h1,A,DO (lns s.sto) j,val];rfl;rename_i cs e;split at h;rename_i off o;split at h;rename_i l q;split at h;rename_i v z;refine⟨_,_,?_,KY d v,h⟩;simp only[kF,lW,lS,gZ,gK,eR,eV,e,dJ,JQ,aY,ER,DP o,q,DW (lns s.sto) z,val];rfl;cases h;cases h;cases h;cases h;rename_i b i p;split at h;rename_i w n rows e;obtain⟨row,g,h⟩:=cK.1 h;have g:rows[i]?=some row:=g;obtain⟨y,h1,h2⟩:=vU h;rw[GN]at h1;refine⟨_,_,?_,KY d (mkv agg t y),h2⟩;simp only[kF,lW,lS,gZ,gK,eR,eV,e,dJ,JQ,aY,nR e,fA,if_true,fS,g,h1,DO (lns s.sto) j,val];rfl;cases h;cases h;cases h
end
end Go.Am
end
section
namespace Go.Am
section
variable {R:Type}
def fzC:(t:Ty)->List TC->TSt->(t.D->TSt->Option R)->Option R
 | .pr a c,l,s,k=>fzC a (l.take a.sz) s λx s=>fzC c (l.drop a.sz) s λy s=>k (x,y) s
 | .ar _ _,_,_,_=>none
 | .u,l,s,k=>if l.isEmpty=true then k () s else none
 | .l e,l,s,k=>match l with
  |[.d t' x]=>if h:t'=.l e then k (h▸x) s else none
  |[.slr b]=>match s.sto[b]? with|some (.arr _ e' rows)=>if h:e'=e then k (h▸rows) (wS b (.arr false e' rows) s)else none|_=>none
  |_=>none
 |t,l,s,k=>match l with|[.d t' x]=>if h:t'=t then k (h▸x) s else none|_=>none
def tfz(t:Ty)(v:TV)(s:TSt)(k:t.D->TSt->Option R):Option R:=
 match v with
 | .a (.dt t' x)=>if h:t'=t then k (h▸x) s else none
 | .a (.c x)=>fzC t [x] s k
 | .a (.m _ cs)=>fzC t cs s k
 |_=>none
def Fzd(s s':TSt)(ws:List (Nat×Blk)):Prop:=s'.env=s.env/\lns s'.sto=lns s.sto/\JD s'=⟨(JD s).env,upd ws (JD s).sto⟩/\(∀(b:Nat) (t:Ty) (rows:List t.D) (w:Bool),s'.sto[b]?=some (TB.arr w t rows)-> ∃w',s.sto[b]?=some (TB.arr w' t rows))/\(∀(b:Nat) (t:Ty) (rows:List t.D),s.sto[b]?=some (TB.arr false t rows)->s'.sto[b]?=some (TB.arr false t rows))/\ ∀x∈ws,∃(t:Ty) (rows:List t.D),s'.sto[x.1]?=some (TB.arr false t rows)
theorem Fzd.refl(s:TSt):Fzd s s []:=⟨rfl,rfl,rfl,λb t rows w h=>⟨w,h⟩,λb t rows h=>h,λx h=>by cases h⟩
theorem Fzd.trans{s1 e g:TSt}{a c:List (Nat×Blk)}(h:Fzd s1 e a)(j:Fzd e g c):Fzd s1 g (a++c):=by
 obtain⟨h1,h2,h3,z,o,y⟩:=h;obtain⟨n,q,A,v,k,r⟩:=j;refine⟨n.trans h1,q.trans h2,?_,λb t rows w h=>?_,λb t rows h=>k b t rows (o b t rows h),λx B=>?_⟩
 all_goals grind [fE]
theorem YH{s:TSt}{b:Nat}{w:Bool}{t:Ty}{rows:List t.D}(hb:s.sto[b]?=some (.arr w t rows)):Fzd s (wS b (.arr false t rows) s) [(b,.arr false t.sz (rows.map (cel t)))]:=by
 have e:lnB (.arr false t rows)=lns s.sto b:=by rw[nR hb];rfl
 have k:(wS b (.arr false t rows) s).sto[b]?=some (.arr false t rows):=by grind [wS]
 have j: ∀c,c≠b->(wS b (.arr false t rows) s).sto[c]?=s.sto[c]?:=λc n=>by grind [wS]
 refine⟨rfl,DZ e,yL e,λc t' g w' h=>?_,λc t' g h=>?_,λx o=>?_⟩
 all_goals grind
theorem JIe(x y:List AV)(st:St):(fz.fzL (x++y)).run st=((fz.fzL x).run st).bind λa=>((fz.fzL y).run st).map λc=>(a.1++c.1,a.2++c.2):=by
 induction x with
 |nil=>simp_all
 |cons v x ih=>
  simp only[sH,fz.fzL,run_bind,ih];cases(fz.fz1 v).run st with
  |none=>rfl
  |some a=>
   simp only[JQ];cases(fz.fzL x).run st with
   |none=>rfl
   |some c=>simp only[JQ];cases(fz.fzL y).run st<;>simp_all
theorem IQ{L:Nat->Nat}{t t':Ty}{x:t'.D}(h:t'=t)(h1:t.sz=1)(st:St):(fz.fzL ([TC.d t' x].map (aX L))).run st=some (cel t (h▸x),[]):=by
 grind [HF,aX,fz.fzL,fz.fz1,run_bind,bI]
theorem KF: ∀{t:Ty} {l:List TC} {s0 s:TSt} {w0:List (Nat×Blk)} {k:t.D->TSt->Option R} {r:R},Fzd s0 s w0->fzC t l s k=some r->
  ∃y s' ws,(fz.fzL (l.map (aX (lns s0.sto)))).run (JD s0)=some (cel t y,ws)/\Fzd s0 s' (w0++ws)/\k y s'=some r
 | .pr a c,l,s0,s,w0,k,r,g,h=>by simp only[fzC]at h;obtain⟨x,s1,v,A,o,h⟩:=KF g h;obtain⟨y,q,B,z,C,h⟩:=KF o h;refine⟨(x,y),q,v++B,?_,by simp_all,h⟩;have:=JIe ((l.take a.sz).map (aX (lns s0.sto))) ((l.drop a.sz).map (aX (lns s0.sto))) (JD s0);rw[<-CI,SO,A,z]at this;exact this
 | .ar _ _,_,_,_,_,_,_,_,h=>by cases h
 | .u,l,s0,s,w0,k,r,g,h=>by
  simp only[fzC]at h;split at h;rename_i h0;refine⟨(),s,[],?_,by simp_all,h⟩;rw[List.isEmpty_iff.1 h0];rfl;cases h
 | .l e,l,s0,s,w0,k,r,g,h=>by
  simp only[fzC]at h;split at h;split at h;rename_i h0;exact⟨_,s,[],IQ h0 rfl _,by simp_all,h⟩;cases h;rename_i b;split at h;rename_i w e' rows n;split at h;rename_i h0;subst h0;obtain⟨w',j⟩:=g.2.2.2.1 b _ rows w n;refine⟨rows,_,[(b,.arr false e'.sz (rows.map (cel e')))],?_,g.trans (YH n),h⟩;simp only[bU,List.map_nil,aX,fz.fzL,fz.fz1,run_bind,eR,eV,j,dJ,JQ,aY,nR j,fA,kY,if_true,GT,bI];rfl;cases h;cases h;cases h
 | .b,l,s0,s,w0,k,r,g,h=>by
  simp only[fzC]at h;split at h;split at h;rename_i h0;exact⟨_,s,[],IQ h0 rfl _,by simp_all,h⟩;cases h;cases h
 | .i _,l,s0,s,w0,k,r,g,h=>by
  simp only[fzC]at h;split at h;split at h;rename_i h0;exact⟨_,s,[],IQ h0 rfl _,by simp_all,h⟩;cases h;cases h
 | .s,l,s0,s,w0,k,r,g,h=>by
  simp only[fzC]at h;split at h;split at h;rename_i h0;exact⟨_,s,[],IQ h0 rfl _,by simp_all,h⟩;cases h;cases h
 | .f,l,s0,s,w0,k,r,g,h=>by
  simp only[fzC]at h;split at h;split at h;rename_i h0;exact⟨_,s,[],IQ h0 rfl _,by simp_all,h⟩;cases h;cases h
theorem Zx(x:AV)(hx:(∀cs,x≠.data cs)/\ ∀cs,x≠.agg cs)(st:St){y:List PV}{ws:List (Nat×Blk)}(h:(fz.fzL [x]).run st=some (y,ws)):(fz x).run st=some (y,ws):=by simp only[fz.fzL,run_bind,bI]at h;cases x<;>simp_all [cK]
theorem B9{t:Ty}{v:TV}{s0 s:TSt}{w0:List (Nat×Blk)}{k:t.D->TSt->Option R}{r:R}(e:Fzd s0 s w0)(h:tfz t v s k=some r):
  ∃y s' ws,(fz (aT (lns s0.sto) v)).run (JD s0)=some (cel t y,ws)/\Fzd s0 s' (w0++ws)/\k y s'=some r:=by
 unfold tfz at h;split at h;split at h;rename_i h0;subst h0;exact⟨_,s,[],rfl,by simp_all,h⟩;cases h;rename_i x;obtain⟨y,s',ws,h1,h2,h3⟩:=KF e h;refine⟨y,s',ws,Zx _ ⟨λcs=>?_,λcs=>?_⟩ _ h1,h2,h3⟩<;>cases x<;>simp[aX,aT,bV]
 obtain⟨y,s',ws,h1,h2,h3⟩:=KF e h;exact⟨y,s',ws,h1,h2,h3⟩;cases h
end
end Go.Am
end
section
namespace Go.Am
section
variable {R:Type}
theorem fw(L:Nat->Nat){t:Ty}{v:TV}{x:t.D}(h:tdv t v=some x)(ha:agv v=true\/t.sz=1):cellsOf (aT L v)=some ((cel t x).map .p):=by
 rw[JKL L h];split;rfl;rename_i e;rw[HF (ha.resolve_left e)];rfl
def XL(t:Ty)(x u:TV)(d:Option Nat)(s:TSt)(k:TSt->Option R):Option R:=
 match x with
 | .a (.c (.ptr b p))=>match s.sto[b]? with
  |some (.box e y)=>match tdv t u with
   |some z=>if agv u=true\/t.sz=1 then pst e y (spf 0 p).1 (spf 0 p).2 t z λh=>k (bA d uv (wS b (.box e h) s))else none
   |none=>match sG p,xX e y,tcs u with
    |some off,some cs,some l=>if l.length=t.sz then
     match spl cs off l with
     |some cs'=>k (bA d uv (wS b (mkb e cs') s))
     |none=>none
     else none
    |some off,none,some l=>if off=0/\l.length=e.sz/\l.length=t.sz then k (bA d uv (wS b (mkb e l) s))else none
    |_,_,_=>none
  |some (.mbox e cs)=>match sG p,tcs u with
   |some off,some l=>if l.length=t.sz then
    match spl cs off l with
    |some cs'=>k (bA d uv (wS b (mkb e cs') s))
    |none=>none
    else none
   |_,_=>none
  |_=>none
 | .a (.c (.ep b i p))=>tfz t u s λz s1=>match s1.sto[b]? with|some (.arr true e rows)=>(bF rows i).bind λrow=>pst e row (spf 0 p).1 (spf 0 p).2 t z λg=>k (bA d uv (wS b (.arr true e (aW rows i g)) s1))|_=>none
 |_=>none
theorem JKM(L:Nat->Nat):aT L uv=gM:=rfl
theorem PH{s:TSt}{b:Nat}{t:Ty}{x:t.D}(h:s.sto[b]?=some (.box t x)):lns s.sto b=0:=by unfold lns;rw[h];rfl
theorem py{s:TSt}{b:Nat}{t:Ty}{cs:List TC}(h:s.sto[b]?=some (.mbox t cs)):lns s.sto b=0:=by unfold lns;rw[h];rfl
theorem zD{s:TSt}{b:Nat}(h:s.sto[b]?=some .dead):lns s.sto b=0:=by unfold lns;rw[h];rfl
theorem IC{m:RM Eff}{d:Option Nat}{s:TSt}{k:TSt->Option R}{r:R}{b:Nat}{x:TB}{v:TV}(hl:lnB x=lns s.sto b)(hm:m.run (JD s)=some ⟨aT (lns s.sto) v,[(b,aY (lns s.sto) x)]⟩)
  (h:k (bA d v (wS b x s))=some r):Ok m d s k r:=by
 refine⟨_,_,hm,?_,h⟩;have e:=DZ hl;rw[<-e];refine qQ ?_ d v;simp_all [yL]
theorem l9{m:RM Eff}{d:Option Nat}{s:TSt}{k:TSt->Option R}{r:R}{b:Nat}{x:TB}{v:TV}(hm:m.run (JD s)=some ⟨aT (lns (wN b x s).sto) v,[(b,aY (lns (wN b x s).sto) x)]⟩)
  (h:k (bA d v (wN b x s))=some r):Ok m d s k r:=
 ⟨_,_,hm,qQ (Bs b x s) d v,h⟩
theorem fP{m:RM Eff}{d:Option Nat}{s:TSt}{k:TSt->Option R}{r:R}{v:TV}(hm:m.run (JD s)=some ⟨aT (lns s.sto) v,[]⟩)(h:k (bA d v s)=some r):Ok m d s k r:=
 ⟨_,_,hm,KY d v,h⟩
theorem XG{m:RM Eff}{d:Option Nat}{s s':TSt}{ws:List (Nat×Blk)}{k:TSt->Option R}{r:R}{v:TV}(f:Fzd s s' ws)(hm:m.run (JD s)=some ⟨aT (lns s.sto) v,ws⟩)(h:k (bA d v s')=some r):Ok m d s k r:=by refine⟨_,_,hm,?_,h⟩;rw[<-f.2.1];exact qQ f.2.2.1 d v
theorem JDo{t:Ty}{x u:TV}{d:Option Nat}{s:TSt}{k:TSt->Option R}{r:R}(h:XL t x u d s k=some r):Ok (iE t.sz (aT (lns s.sto) x) (aT (lns s.sto) u)) d s k r:=by
 unfold XL at h;split at h;rename_i b p;split at h;rename_i g y e;split at h;rename_i z F;split at h;rename_i I;obtain⟨E,h1,h2⟩:=yT h;rw[GN]at h1;refine IC (x:=.box g E) (v:=uv) (PH e).symm ?_ h2;simp only[kF,lW,lS,gZ,iE,eR,eV,e,dJ,JQ,aY,fw (lns s.sto) F I,fA,eO,if_true,EQ,h1,bI];rfl;cases h;split at h;rename_i off cs l q K n;split at h;rename_i C;split at h;rename_i cs' B;refine IC (x:=mkb g cs') (v:=uv) ((PQ _ _).trans (PH e).symm) ?_ h;rw[QA];simp only[kF,lW,lS,gZ,iE,eR,eV,e,dJ,JQ,aY,KM (lns s.sto) n,fA,C,if_true,DP q,<-KP (lns s.sto) K,EQ,B,bI];rfl;cases h;cases h;rename_i off l q _ n;split at h;rename_i h0;obtain⟨rfl,h1,h2⟩:=h0;refine IC (x:=mkb g l) (v:=uv) ((PQ _ _).trans (PH e).symm) ?_ h;rw[QA];have J:spl ((cel g y).map AV.p) 0 (l.map (aX (lns s.sto)))=some (l.map (aX (lns s.sto))):=Ef (by grind [eO]);simp only[kF,lW,lS,gZ,iE,eR,eV,e,dJ,JQ,aY,KM (lns s.sto) n,fA,h2,if_true,DP q,J,bI];rfl;cases h;cases h;rename_i g cs e;split at h;rename_i off l q n;split at h;rename_i C;split at h;rename_i cs' B;refine IC (x:=mkb g cs') (v:=uv) ((PQ _ _).trans (py e).symm) ?_ h;rw[QA];simp only[kF,lW,lS,gZ,iE,eR,eV,e,dJ,JQ,aY,KM (lns s.sto) n,fA,C,if_true,DP q,EQ,B,bI];rfl;cases h;cases h;cases h;cases h;rename_i b i p;obtain⟨z,s1,ws,h1,f,h⟩:=B9 (Fzd.refl s) h;rw[nC]at f;split at h;rename_i g rows e;obtain⟨row,A,h⟩:=cK.1 h;have A:rows[i]?=some row:=A;obtain⟨j,D,L⟩:=yT h;rw[GN]at D;obtain⟨w',o⟩:=f.2.2.2.1 b _ rows true e;have G:w'=true:=by
  cases w' with
  |true=>rfl
  |false=>have:=f.2.2.2.2.1 b _ rows o;simp_all
 subst G;have w:(ws.all λy=>y.1 !=b)=true:=(by rw[ST];intro y H;obtain⟨t',rows',M⟩:=f.2.2.2.2.2 y H;grind);have n:lnB (.arr true g (aW rows i j))=lns s1.sto b:=by grind [nR,lnB,aW]
 refine⟨⟨gM,ws++[(b,.arr true g.sz ((aW rows i j).map (cel g)))]⟩,_,?_,?_,L⟩;simp only[kF,lW,lS,gZ,iE,eR,eV,o,dJ,JQ,aY,nR o,fA,if_true,fS,A,run_bind,h1,eO,w,and_self,D,bI,List.map_set,aW];rw[<-JKM (lns (wS b (.arr true g (aW rows i j)) s1).sto)];refine qQ ?_ d uv;rw[yL n,f.2.2.1,fE];rfl;cases h;cases h
def tpv:List (Nat×Ty×TO)->TSt->Option (List (Nat×(w:Ty)×w.D))
 |[],_=>some []
 |(off,w,o)::r,s=>match tev o s with
  |some v=>match tdv w v with
   |some z=>if agv v=true\/w.sz=1 then
    match tpv r s with
    |some l=>some ((off,⟨w,z⟩)::l)
    |none=>none
    else none
   |none=>none
  |none=>none
def OJ(t:Ty):t.D->List (Nat×(w:Ty)×w.D)->(t.D->Option R)->Option R|x,[],k=>k x|x,(off,⟨w,z⟩)::r,k=>pst t x off [] w z λe=>OJ t e r k
def tpc:List (Nat×Ty×TO)->TSt->Option (List (Nat×Nat×List TC))
 |[],_=>some []
 |(off,w,o)::r,s=>match tev o s with
  |some v=>match tcs v with
   |some l=>match tpc r s with|some q=>some ((off,w.sz,l)::q)|none=>none
   |none=>none
  |none=>none
def HP:List (Nat×Nat×List TC)->List TC->Option (List TC)
 |[],cs=>some cs
 |(off,n,c)::r,cs=>if c.length=n then
  match spl cs off c with
  |some cs'=>HP r cs'
  |none=>none
  else none
def erP(parts:List (Nat×Ty×TO)):List (Nat×Nat×Opd):=parts.map λx=>(x.1,x.2.1.sz,erO x.2.2)
theorem XJ{s:TSt}: ∀{parts:List (Nat×Ty×TO)} {l:List (Nat×Nat×List TC)},tpc parts s=some l->
  (kI (erP parts)).run (JD s)=some (l.map λx=>(x.1,x.2.1,x.2.2.map (aX (lns s.sto))))
 |[],l,h=>by injection h with h;subst h;rfl
 |(off,w,o)::r,l,h=>by
  simp only[tpc]at h;split at h;rename_i v g;split at h;rename_i c j;split at h;rename_i q e;injection h with h;subst h;have ih:=XJ e;simp only[erP,bU,kI,run_bind,bW g,JQ,KM (lns s.sto) j];simp_all [erP];cases h;cases h;cases h
theorem B3{s:TSt}: ∀{parts:List (Nat×Ty×TO)} {l:List (Nat×(w:Ty)×w.D)},tpv parts s=some l->
  (kI (erP parts)).run (JD s)=some (l.map λx=>(x.1,x.2.1.sz,(cel x.2.1 x.2.2).map .p))
 |[],l,h=>by injection h with h;subst h;rfl
 |(off,w,o)::r,l,h=>by
  simp only[tpv]at h;split at h;rename_i v g;split at h;rename_i z k;split at h;rename_i j;split at h;rename_i q e;injection h with h;subst h;have ih:=B3 e;simp only[erP,bU,kI,run_bind,bW g,JQ,fw (lns s.sto) k j];simp_all [erP];cases h;cases h;cases h;cases h
theorem qq{t:Ty}: ∀{l:List (Nat×(w:Ty)×w.D)} {x:t.D} {k:t.D->Option R} {r:R},OJ t x l k=some r->
  ∃y,pE (l.map λx=>(x.1,x.2.1.sz,(cel x.2.1 x.2.2).map .p)) ((cel t x).map .p)=some ((cel t y).map .p)/\k y=some r
 |[],x,k,r,h=>⟨x,rfl,h⟩
 |(off,⟨w,z⟩)::q,x,k,r,h=>by
  simp only[OJ]at h;obtain⟨e,h1,h2⟩:=yT h;obtain⟨y,h3,g⟩:=qq h2;grind [pE,eO,EQ,spo]
theorem dc(L:Nat->Nat): ∀{l:List (Nat×Nat×List TC)} {cs cs':List TC},HP l cs=some cs'->
  pE (l.map λx=>(x.1,x.2.1,x.2.2.map (aX L))) (cs.map (aX L))=some (cs'.map (aX L))
 |[],cs,cs',h=>by injection h with h;subst h;rfl
 |(off,n,c)::q,cs,cs',h=>by
  simp only[HP]at h;split at h;rename_i e;split at h;rename_i c1 g;simp only[bU,pE,fA,e,if_true,EQ,g,dJ];exact dc L h;cases h;cases h
def XN(t:Ty)(parts:List (Nat×Ty×TO))(d:Option Nat)(s:TSt)(k:TSt->Option R):Option R:=
 match tpv parts s with
 |some l=>OJ t t.zero l λy=>k (bA d (.a (.dt t y)) s)
 |none=>match tpc parts s with
  |some l=>match HP l (zcs t)with
   |some cs'=>match mka true t cs' with|some v=>k (bA d v s)|none=>none
   |none=>none
  |none=>none
theorem JDZ(F:Orc)(new:Nat){t:Ty}{parts:List (Nat×Ty×TO)}{d:Option Nat}{s:TSt}{k:TSt->Option R}{r:R}(h:XN t parts d s k=some r):Ok (opR F (.build (cel t t.zero) (erP parts)) new) d s k r:=by
 unfold XN at h;split at h;rename_i l e;obtain⟨y,h1,h2⟩:=qq h;refine fP (v:=.a (.dt t y)) ?_ h2;simp only[opR,run_bind,B3 e,JQ,h1,tt,val,bI];rfl;split at h;rename_i l e;split at h;rename_i cs' g;split at h;rename_i v j;refine fP (v:=v) ?_ h;simp only[opR,run_bind,XJ e,JQ,<-DX (lns s.sto) t,dc (lns s.sto) g,DW (lns s.sto) j,val,bI];cases h;cases h;cases h
def XO(agg:Bool)(off:Nat)(t:Ty)(v:TV)(d:Option Nat)(s:TSt)(k:TSt->Option R):Option R:=
 if agg=true\/t.sz=1 then
  match v with
  | .a (.dt e x)=>prt e x off [] t λy=>k (bA d (mkv agg t y) s)
  | .a (.m _ cs)=>match sub cs off t.sz with
   |some l=>match mka agg t l with|some v=>k (bA d v s)|none=>none
   |none=>none
  |_=>none
 else none
theorem JDC{agg:Bool}{off:Nat}{t:Ty}{v:TV}{d:Option Nat}{s:TSt}{k:TSt->Option R}{r:R}(h:XO agg off t v d s k=some r):Ok (val (qN agg off t.sz (aT (lns s.sto) v))) d s k r:=by
 unfold XO at h;split at h;rename_i n;split at h;rename_i e x;obtain⟨y,h1,h2⟩:=vU h;refine fP (v:=mkv agg t y) ?_ h2;grind [spo,jm,qN,DO,val,bI];rename_i cs;split at h;rename_i l g;split at h;rename_i v j;refine fP (v:=v) ?_ h;grind [e_m,qN,ER,DW,val,bI];cases h;cases h;cases h;cases h
end
end Go.Am
end
section
namespace Go.Am
section
variable {R:Type}
theorem YN{α:Type} [BEq α] [LawfulBEq α] [DecidableEq α](x y:α):(x==y)=decide (x=y):=by
 grind
def Vl(m:Option AV)(s:TSt)(kk:TV->Option R)(r:R):Prop:= ∃v,m=some (aT (lns s.sto) v)/\kk v=some r
theorem Vl.ok{m:Option AV}{d:Option Nat}{s:TSt}{k:TSt->Option R}{r:R}(h:Vl m s (λv=>k (bA d v s)) r):Ok (val m) d s k r:=by obtain⟨v,h1,h2⟩:=h;refine fP (v:=v) ?_ h2;rw[h1];rfl
def ji(op:BinOp)(k:IntKind)(a c:Int)(kk:TV->Option R):Option R:=
 match op with
 | .add=>kk (vi k (J1 k a c))
 | .sub=>kk (vi k (JJ k a c))
 | .mul=>kk (vi k (cV k a c))
 | .quo=>(A8 k a c).bind λq=>kk (vi k q)
 | .rem=>(uV a c).bind λq=>kk (vi k q)
 | .and=>kk (vi k (pZ k a c))
 | .or=>kk (vi k (orI k a c))
 | .xor=>kk (vi k (fT k a c))
 | .eql=>kk (vb (aH a c))
 | .neq=>kk (vb (aM a c))
 | .lss=>kk (vb (aK a c))
 | .leq=>kk (vb (bJ a c))
 | .gtr=>kk (vb (aO a c))
 | .geq=>kk (vb (aQ a c))
 |_=>none
def k6(op:BinOp)(a c:List UInt8)(kk:TV->Option R):Option R:=
 match op with
 | .add=>(eJ a c).bind λq=>kk (vs q)
 | .eql=>kk (vb (eqS a c))
 | .neq=>kk (vb (neS a c))
 | .lss=>kk (vb (ltS a c))
 | .leq=>kk (vb (leS a c))
 | .gtr=>kk (vb (gtS a c))
 | .geq=>kk (vb (geS a c))
 |_=>none
inductive TBT where|plain|bool|flat (t:Ty)|nilp|nilf
def erT:TBT->BT| .plain=>.plain| .bool=>.bool| .flat t=>.flat (t.ks.getD [])| .nilp=>.nilp| .nilf=>.nilf
def nD(op:BinOp)(x:Bool)(kk:TV->Option R):Option R:=
 match op with
 | .eql=>kk (vb x)
 | .neq=>kk (vb (Jp x))
 |_=>none
def kw(op:BinOp)(bt:TBT)(x y:TV)(kk:TV->Option R):Option R:=
 match bt with
 | .plain=>match x,y with
  | .a (.c (.d (.i k) a)),.a (.c (.d (.i k') c))=>match op with| .shl=>(sE k a c).bind λq=>kk (vi k q)| .shr=>(lY k a c).bind λq=>kk (vi k q)|_=>if k=k' then ji op k a c kk else none
  | .a (.c (.d .s a)),.a (.c (.d .s c))=>k6 op a c kk
  |_,_=>none
 | .bool=>match x,y with| .a (.c (.d .b a)),.a (.c (.d .b c))=>nD op (eqB a c) kk|_,_=>none
 | .flat t=>match x,y with| .a (.dt g a),.a (.dt e c)=>if h:g=t/\e=t/\t.ks.isSome=true then nD op (eqT t (h.1▸a) (h.2.1▸c)) kk else none|_,_=>none
 | .nilp=>match x with| .a (.c .np)=>nD op true kk| .a (.c (.ptr _ _))=>nD op false kk| .a (.c (.cp _ _ _))=>nD op false kk| .a (.c (.ep _ _ _))=>nD op false kk|_=>none
 | .nilf=>match x with| .a (.c .nf)=>nD op true kk| .a (.fn _ _ _)=>nD op false kk| .a (.c (.fn _))=>nD op false kk| .a (.c (.d .f _))=>nD op true kk|_=>none
theorem PJ{op:BinOp}{x:Bool}{s:TSt}{kk:TV->Option R}{r:R}(h:nD op x kk=some r):Vl (jE op (some x)) s kk r:=by
 unfold nD at h;split at h;exact⟨_,rfl,h⟩;exact⟨_,rfl,h⟩;cases h
theorem JHw{op:BinOp}{k:IntKind}{a c:Int}{s:TSt}{kk:TV->Option R}{r:R}(h:ji op k a c kk=some r):Vl ((xI op k a c).map .p) s kk r:=by
 unfold ji at h;split at h<;>first
  |exact⟨_,rfl,h⟩
  |(obtain⟨q,h1,h⟩:=cK.1 h
    refine⟨_,?_,h⟩
    first|unfold A8 at h1|unfold uV at h1
    split at h1;cases h1;rename_i h0;injection h1 with h1;simp only[xI,if_neg h0,h1,dJ,e_i])
  |(refine⟨_,?_,h⟩;simp only[xI,YN,dJ,e_b,bne,aH,aM,aK,bJ,aO,aQ];done)
  |cases h
theorem JIT{op:BinOp}{a c:List UInt8}{s:TSt}{kk:TV->Option R}{r:R}(h:k6 op a c kk=some r):Vl ((xK op a c).map .p) s kk r:=by
 unfold k6 at h;split at h<;>first
  |(obtain⟨q,h1,h⟩:=cK.1 h
    refine⟨_,?_,h⟩;unfold eJ at h1;split at h1;rename_i h0;injection h1 with h1;simp only[xK,if_pos h0,h1,dJ,e_s];cases h1)
  |(refine⟨_,?_,h⟩;simp only[xK,YN,dJ,e_b,eqS,neS,ltS,leS,gtS,geS];done)
  |cases h
theorem JIk{op:BinOp}{bt:TBT}{x y:TV}{s:TSt}{kk:TV->Option R}{r:R}(h:kw op bt x y kk=some r):Vl (nA op (erT bt) (aT (lns s.sto) x) (aT (lns s.sto) y)) s kk r:=by
 unfold kw at h;split at h;split at h;rename_i k a k' c;simp only[e_i,erT,nA];split at h;obtain⟨q,h1,h⟩:=cK.1 h;unfold sE at h1;split at h1;cases h1;rename_i h0;injection h1 with h1;exact⟨_,by simp_all [e_i],h⟩;obtain⟨q,h1,h⟩:=cK.1 h;unfold lY at h1;split at h1;cases h1;rename_i h0;injection h1 with h1;exact⟨_,by simp_all [e_i],h⟩;grind [JHw];exact JIT h;cases h;split at h;rename_i a c;simp only[e_b,erT,nA,YN];exact PJ h;cases h;grind [Option.isSome_iff_exists,jm,erT,nA,PG,PJ];split at h<;>first|exact PJ h|cases h
 split at h<;>first|exact PJ h|cases h
def tUn(op:UnOp)(x:TV)(kk:TV->Option R):Option R:=
 match op,x with
 | .neg,.a (.c (.d (.i k) n))=>kk (vi k (Zu k n))
 | .xor,.a (.c (.d (.i k) n))=>kk (vi k (UQ k n))
 | .not,.a (.c (.d .b x))=>kk (vb (Jp x))
 |_,_=>none
theorem JKt{op:UnOp}{x:TV}{s:TSt}{kk:TV->Option R}{r:R}(h:tUn op x kk=some r):Vl (unP op (aT (lns s.sto) x)) s kk r:=by unfold tUn at h;split at h<;>first|exact⟨_,rfl,h⟩|cases h
def tMm(mx:Bool)(x y:TV)(kk:TV->Option R):Option R:=
 match x,y with
 | .a (.c (.d (.i k) a)),.a (.c (.d (.i _) c))=>kk (vi k (if mx=true then cP a c else gV a c))
 |_,_=>none
theorem JKT{mx:Bool}{x y:TV}{s:TSt}{kk:TV->Option R}{r:R}(h:tMm mx x y kk=some r):Vl (mmP mx (aT (lns s.sto) x) (aT (lns s.sto) y)) s kk r:=by
 unfold tMm at h;split at h;exact⟨_,by cases mx<;>rfl,h⟩;cases h
def tls(t:Ty)(v:TV)(s:TSt):Option (List t.D):=
 match v with
 | .a (.c (.d (.l t') l))=>if h:t'=t then some (h▸l)else none
 | .a (.c (.d .s l))=>if h:t=.i .u8 then some (h▸(aR l:List (Ty.i .u8).D))else none
 | .a (.c (.slr b))=>match s.sto[b]? with|some (.arr _ t' rows)=>if h:t'=t then some (h▸rows)else none|_=>none
 |_=>none
theorem OZ{t:Ty}{v:TV}{s:TSt}{l:List t.D}(h:tls t v s=some l):(dE t.sz (aT (lns s.sto) v)).run (JD s)=some (l.map (cel t)):=by
 unfold tls at h;split at h;grind [e_l,dE,bI];split at h;rename_i h0;subst h0;injection h with h;subst h;simp only[e_s,dE,Ty.sz,if_true,bI,ZK];rfl;cases h;rename_i b;split at h;rename_i w t' rows e;split at h;rename_i h0;subst h0;injection h with h;subst h;simp only[gZ,dE,eR,eV,e,dJ,JQ,aY,nR e,fA,kY,and_self,if_true,bI,GT];cases h;cases h;cases h
def md(k:CK)(x:TV)(d:Option Nat)(new:Nat)(s:TSt)(kk:TSt->Option R):Option R:=
 match k with
 | .int k=>match x with| .a (.c (.d (.i _) n))=>kk (bA d (vi k (bS k n)) s)|_=>none
 | .same=>match x with| .a (.c (.d .s l))=>kk (bA d (vs l) s)|_=>none
 | .toStr=>match tls (.i .u8) x s with|some l=>kk (bA d (vs (toStr l)) s)|none=>none
 | .toBytes own=>match x with| .a (.c (.d .s l))=>if own=true then kk (bA d (.a (.c (.slr new))) (wN new (.arr true (.i .u8) (aR l)) s))else kk (bA d (vl (.i .u8) (aR l)) s)|_=>none
theorem JFQ(F:Orc){k:CK}{x:TO}{v:TV}{d:Option Nat}{new:Nat}{s:TSt}{kk:TSt->Option R}{r:R}(hx:tev x s=some v)(hn:k=.toBytes true->new<s.sto.length)(h:md k v d new s kk=some r):Ok (opR F (.conv k (erO x)) new) d s kk r:=by
 unfold md at h;split at h;split at h;refine fP (v:=vi _ _) ?_ h;simp only[opR,run_bind,bW hx,JQ,e_i,bI,bS];cases h;split at h;refine fP (v:=vs _) ?_ h;grind [opR,run_bind,bW,e_s,bI];cases h;split at h;rename_i l j;refine fP (v:=vs _) ?_ h;have:=OZ j;have e:l.map (cel (.i .u8))=l.map (r_i .u8):=rfl;rw[e]at this;simp only[opR,run_bind,bW hx,JQ,this,gi,e_s,bI,Ty.sz];rw[show(dE 1 (aT (lns s.sto) v)).run (JD s)=some (l.map (r_i .u8))from this];simp[gi];cases h;rename_i own;split at h;rename_i l;split at h;rename_i g;subst g;refine l9 (x:=.arr true (.i .u8) (aR l)) (v:=.a (.c (.slr new))) ?_ h;simp only[opR,run_bind,bW hx,JQ,e_s,if_true,bI,gZ,aY,ZK];have e:lns (wN new (TB.arr true (Ty.i IntKind.u8) (aR l)) s).sto new=l.length:=(by grind [wN,XH,lnB,aR]);rw[e];rfl;rename_i g;have:own=false:=by simpa using g
 subst this;refine fP (v:=vl _ _) ?_ h;simp only[opR,run_bind,bW hx,JQ,e_s,eK,if_false,bI,e_l,ZK];rfl;cases h
end
end Go.Am
end
section
namespace Go.Am
section
variable {R:Type}
theorem Dn(p q:List Sp):spo (p++q)=spo p+spo q:=by
 induction p with
 |nil=>simp[spo]
 |cons x p ih=>cases x<;>simp only[sH,spo,ih]<;>omega
def XK(off:Nat)(x:TV)(kk:TV->Option R):Option R:=
 match x with
 | .a (.c (.ptr b p))=>kk (.a (.c (.ptr b (p++[.f off]))))
 | .a (.c (.cp t x p))=>kk (.a (.c (.cp t x (p++[.f off]))))
 | .a (.c (.ep b i p))=>kk (.a (.c (.ep b i (p++[.f off]))))
 |_=>none
theorem JDP{off:Nat}{x:TV}{s:TSt}{kk:TV->Option R}{r:R}(h:XK off x kk=some r):Vl (IN off (aT (lns s.sto) x)) s kk r:=by
 unfold XK at h;split at h<;>first
  |(refine⟨_,?_,h⟩;simp only[kF,lW,lS,IN,Dn,spo,xO];done)
  |cases h
def XW(len esz:Nat)(x i:TV)(kk:TV->Option R):Option R:=
 match i with
 | .a (.c (.d (.i _) n))=>(aV len n).bind λ_=>match x with| .a (.c (.ptr b p))=>kk (.a (.c (.ptr b (p++[.a n.toNat esz]))))| .a (.c (.cp t x p))=>kk (.a (.c (.cp t x (p++[.a n.toNat esz]))))| .a (.c (.ep b i p))=>kk (.a (.c (.ep b i (p++[.a n.toNat esz]))))|_=>none
 |_=>none
theorem JE3{len esz:Nat}{x i:TV}{s:TSt}{kk:TV->Option R}{r:R}(h:XW len esz x i kk=some r):Vl (IU len esz (aT (lns s.sto) x) (aT (lns s.sto) i)) s kk r:=by
 unfold XW at h;split at h;obtain⟨_,h1,h⟩:=cK.1 h;have h0:=D1 h1;split at h<;>first
  |(refine⟨_,?_,h⟩;simp only[kF,lW,lS,e_i,IU,if_pos h0,Dn,spo,xO];done)
  |cases h
 cases h
def XM(t:Ty)(x i:TV)(s:TSt)(kk:TV->Option R):Option R:=
 match i with
 | .a (.c (.d (.i _) n))=>match x with
  | .a (.c (.d (.l t') l))=>if t'=t then(idx l n).bind λy=>kk (.a (.c (.cp t' y [])))else none
  | .a (.c (.slr b))=>match s.sto[b]? with|some (.arr _ t' rows)=>if t'=t then(aV rows.length n).bind λ_=>kk (.a (.c (.ep b n.toNat [])))else none|_=>none
  |_=>none
 |_=>none
theorem JDz{t:Ty}{x i:TV}{d:Option Nat}{s:TSt}{k:TSt->Option R}{r:R}(h:XM t x i s (λv=>k (bA d v s))=some r):Ok (mC t.sz (aT (lns s.sto) x) (aT (lns s.sto) i)) d s k r:=by
 unfold XM at h;split at h;split at h;split at h;rename_i h0;subst h0;obtain⟨y,h1,h⟩:=cK.1 h;refine fP (v:=.a (.c (.cp _ y []))) ?_ h;grind [e_l,e_i,lW,mC,JDv,bI,spo];cases h;rename_i b;split at h;rename_i w t' rows e;split at h;rename_i h0;subst h0;obtain⟨_,h1,h⟩:=cK.1 h;have h0:=D1 h1;refine fP (v:=.a (.c (.ep b _ []))) ?_ h;simp only[gZ,e_i,lS,mC,eR,eV,e,dJ,JQ,aY,nR e,fA,kY,true_and];rw[if_pos h0];rfl;cases h;cases h;cases h;cases h
def mu(x i:TV)(kk:TV->Option R):Option R:=
 match x,i with
 | .a (.c (.d .s l)),.a (.c (.d (.i _) n))=>(oD l n).bind λu=>kk (vi .u8 u)
 |_,_=>none
theorem JHc(F:Orc){x i:TO}{g e:TV}{d:Option Nat}{new:Nat}{s:TSt}{k:TSt->Option R}{r:R}(hx:tev x s=some g)(hi:tev i s=some e)(h:mu g e (λv=>k (bA d v s))=some r):Ok (opR F (.sidx (erO x) (erO i)) new) d s k r:=by
 unfold mu at h;split at h
 ·rename_i l k' n;obtain⟨u,h1,h⟩:=cK.1 h;refine fP (v:=vi .u8 u) ?_ h;simp only[opR,run_bind,bW hx,bW hi,JQ,e_s,e_i];unfold oD at h1;split at h1
  ·rename_i h0;rw[if_pos h0];split at h1
   all_goals simp_all
  cases h1
 cases h
def TF(j:Int)(k:Nat->Option R):Nat->Option R|0=>none|m+1=>if aH j m=true then k m else TF j k m
theorem C2{j:Int}{k:Nat->Option R}{r:R}: ∀{n:Nat},TF j k n=some r-> ∃m,m<n/\j=m/\k m=some r
 |0,h=>by cases h
 |n+1,h=>by
  simp only[TF]at h;split at h;grind [aH];obtain⟨m,h1,h2,h3⟩:=C2 h;grind
def ma(agg:Bool)(len:Nat)(t:Ty)(x i:TV)(d:Option Nat)(s:TSt)(k:TSt->Option R):Option R:=
 if agg=true\/t.sz=1 then
  match x,i with
  | .a (.dt (.ar n t') v),.a (.c (.d (.i _) j))=>if h:t'=t/\n=len then(qB v j).bind λy=>k (bA d (mkv agg t (h.1▸y)) s)else none
  | .a (.m _ cs),.a (.c (.d (.i _) j))=>TF j (λm=>match sub cs (m*t.sz) t.sz with
   |some l=>match mka agg t l with|some v=>k (bA d v s)|none=>none
   |none=>none) len
  |_,_=>none
 else none
theorem JGf(F:Orc){agg:Bool}{len:Nat}{t:Ty}{x i:TO}{g e:TV}{d:Option Nat}{new:Nat}{s:TSt}{k:TSt->Option R}{r:R}(hx:tev x s=some g)(hi:tev i s=some e)(h:ma agg len t g e d s k=some r):
  Ok (opR F (.aidx agg len t.sz (erO x) (erO i)) new) d s k r:=by
 unfold ma at h;split at h;rename_i A;split at h;rename_i n t' v k' j;split at h;rename_i h0;obtain⟨rfl,rfl⟩:=h0;obtain⟨y,h1,h⟩:=cK.1 h;obtain⟨h2,h3⟩:=JEU h1;refine fP (v:=mkv agg t' y) ?_ h;simp only[opR,run_bind,bW hx,bW hi,JQ,jm,e_i,if_pos h2,qN];grind [cel,KC,eO,DO,val,bI];cases h;rename_i z cs k' j;obtain⟨m,h1,o,h3⟩:=C2 h;clear h;subst o;split at h3;rename_i l q;split at h3;rename_i v w;refine fP (v:=v) ?_ h3;have h2:(0:Int)<=m/\(m:Int)<len:=by omega
 simp only[opR,run_bind,bW hx,bW hi,JQ,e_m,e_i,if_pos h2,qN,Int.toNat_natCast,ER,q,dJ,DW (lns s.sto) w,val,bI];cases h3;cases h3;cases h;cases h
def me(x:TV)(i:Nat)(kk:TV->Option R):Option R:=
 match x with
 | .tup vs=>match vs[i]? with|some v=>kk (.a v)|none=>none
 |_=>none
theorem JH0{x:TV}{i:Nat}{s:TSt}{kk:TV->Option R}{r:R}(h:me x i kk=some r):Vl (NX i (aT (lns s.sto) x)) s kk r:=by
 unfold me at h;split at h;split at h;rename_i v e;refine⟨_,?_,h⟩;simp_all [aT];cases h;cases h
def ki(str:Bool)(x:TV)(s:TSt)(kk:TV->Option R):Option R:=
 match str,x with
 |true,.a (.c (.d .s l))=>kk (vi .i64 (J0 l))
 |false,.a (.c (.d (.l _) l))=>kk (vi .i64 (J0 l))
 |false,.a (.c (.slr b))=>match s.sto[b]? with|some (.arr _ _ rows)=>kk (vi .i64 (J0 rows))|_=>none
 |false,.a (.c (.slo _ n))=>kk (vi .i64 n)
 |_,_=>none
theorem JHC{str:Bool}{x:TV}{s:TSt}{kk:TV->Option R}{r:R}(h:ki str x s kk=some r):Vl (HM str (aT (lns s.sto) x)) s kk r:=by
 unfold ki at h;split at h;exact⟨_,rfl,h⟩;exact⟨_,by simp[e_l,e_i,J0],h⟩;split at h;rename_i e;exact⟨_,by grind [gZ,HM,nR,e_i,J0],h⟩;cases h;exact⟨_,rfl,h⟩;cases h
theorem ZD{s:TSt}{new:Nat}(hn:new<s.sto.length){w:Bool}{t:Ty}{rows:List t.D}:lns (wN new (TB.arr w t rows) s).sto new=rows.length:=by unfold wN;rw[XH (by simpa using hn)];rfl
theorem PA{m:RM Eff}{d:Option Nat}{s:TSt}{k:TSt->Option R}{r:R}{new:Nat}{t:Ty}{rows:List t.D}(hn:new<s.sto.length)
  (hm:m.run (JD s)=some ⟨.slr new 0 rows.length,[(new,.arr true t.sz (rows.map (cel t)))]⟩) (h:k (bA d (.a (.c (.slr new))) (wN new (.arr true t rows) s))=some r):Ok m d s k r:=by
 refine l9 (x:=.arr true t rows) (v:=.a (.c (.slr new))) ?_ h;rw[hm,gZ,ZD hn];rfl
def ZJ(own:Bool)(t:Ty)(bytes:Nat)(l c:TV)(d:Option Nat)(new:Nat)(s:TSt)(k:TSt->Option R):Option R:=
 match l,c with
 | .a (.c (.d (.i _) n)),.a (.c (.d (.i _) m))=>(mkS bytes n m t.zero).bind λrows=>
  if own=true then k (bA d (.a (.c (.slr new))) (wN new (.arr true t rows) s))else k (bA d (vl t rows) s)
 |_,_=>none
theorem Fo(F:Orc){own:Bool}{t:Ty}{bytes:Nat}{l c:TO}{e j:TV}{d:Option Nat}{new:Nat}{s:TSt}{k:TSt->Option R}{r:R}(hl:tev l s=some e)(hc:tev c s=some j)(hn:own=true->new<s.sto.length)
  (h:ZJ own t bytes e j d new s k=some r):Ok (opR F (.mkslice own t.sz bytes (cel t t.zero) (erO l) (erO c)) new) d s k r:=by
 unfold ZJ at h;split at h;obtain⟨rows,h1,h3⟩:=cK.1 h;obtain⟨h2,rfl⟩:=JIC h1;clear h;split at h3;rename_i g;subst g;refine PA (hn rfl) ?_ h3;simp only[opR,run_bind,bW hl,bW hc,JQ,e_i,if_pos h2,if_true,bI,CS,GF];rename_i g;have:own=false:=by simpa using g
 subst this;refine fP (v:=vl t _) ?_ h3;simp only[opR,run_bind,bW hl,bW hc,JQ,e_i,if_pos h2,eK,if_false,bI,e_l,GF];cases h
def SY(t:Ty)(bytes:Nat)(x y:TV)(d:Option Nat)(s:TSt)(k:TSt->Option R):Option R:=
 match x with
 | .a (.c (.slr b))=>match s.sto[b]? with
  |some (.arr w t' rows)=>if h:t'=t then
   match tls t' y s with
   |some l=>(JO bytes rows l).bind λm=>k (bA d (.a (.c (.slr b))) (wN b (.arr w t' m) s))
   |none=>none
   else none
  |_=>none
 |_=>none
theorem Dw{t:Ty}{bytes:Nat}{x y:TV}{d:Option Nat}{s:TSt}{k:TSt->Option R}{r:R}(h:SY t bytes x y d s k=some r):Ok (iN t.sz bytes (aT (lns s.sto) x) (aT (lns s.sto) y)) d s k r:=by
 unfold SY at h;split at h;rename_i b;split at h;rename_i w t' rows e;split at h;rename_i h0;subst h0;split at h;rename_i l j;obtain⟨m,h1,h⟩:=cK.1 h;refine l9 (x:=.arr w t' m) (v:=.a (.c (.slr b))) ?_ h;have g:(JD s).sto[b]?=some (.arr w t'.sz (rows.map (cel t'))):=by rw[eV,e];rfl
 have:=JIq h1 g (OZ j);rw[gZ,nR e,this,gZ,ZD (JC e)];rfl;cases h;cases h;cases h;cases h
def li(t:Ty)(bytes:Nat)(y:TV)(d:Option Nat)(new:Nat)(s:TSt)(k:TSt->Option R):Option R:=
 match tls t y s with
 |some l=>(cZ bytes l).bind λm=>k (bA d (.a (.c (.slr new))) (wN new (.arr true t m) s))
 |none=>none
theorem JFl(F:Orc){t:Ty}{bytes:Nat}{z:List PV}{y:TO}{e:TV}{d:Option Nat}{new:Nat}{s:TSt}{k:TSt->Option R}{r:R}(hy:tev y s=some e)(hn:new<s.sto.length)(h:li t bytes e d new s k=some r):Ok (opR F (.appn t.sz bytes z (erO y)) new) d s k r:=by
 unfold li at h;split at h;rename_i l g;obtain⟨m,h1,h3⟩:=cK.1 h;obtain⟨h2,rfl⟩:=JEQ h1;refine PA hn ?_ h3;simp only[opR,run_bind,bW hy,JQ,OZ g,fA,h2,if_true,bI];cases h
def lh(t:Ty)(bytes:Nat)(x y:TV)(d:Option Nat)(s:TSt)(k:TSt->Option R):Option R:=
 match y with
 | .a (.c (.d (.i _) n))=>if 0<=n then SY t bytes x (vl t (List.replicate n.toNat t.zero)) d s k else none
 |_=>none
theorem JGd(F:Orc){t:Ty}{bytes:Nat}{x y:TO}{g j:TV}{d:Option Nat}{new:Nat}{s:TSt}{k:TSt->Option R}{r:R}(hx:tev x s=some g)(hy:tev y s=some j)(h:lh t bytes g j d s k=some r):Ok (opR F (.appz t.sz bytes (cel t t.zero) (erO x) (erO y)) new) d s k r:=by
 unfold lh at h;split at h;rename_i n;split at h;rename_i h0;obtain⟨e,s',h1,h2,h3⟩:=Dw h;refine⟨e,s',?_,h2,h3⟩;simp only[opR,run_bind,bW hx,bW hy,JQ,e_i,zrs,if_pos h0];simp_all [e_l];cases h;cases h
def mn(t:Ty)(bytes:Nat)(x y:TV)(d:Option Nat)(new:Nat)(s:TSt)(k:TSt->Option R):Option R:=
 match x with
 | .a (.c (.sc t' rows))=>if h:t'=t then
   match tls t' y s with
   |some l=>(zx bytes rows l).bind λm=>k (bA d (.a (.c (.slr new))) (wN new (.arr true t' m) s))
   |none=>none
  else none
 |_=>none
theorem JG5(F:Orc){t:Ty}{bytes:Nat}{z:List PV}{x y:TO}{e g:TV}{d:Option Nat}{new:Nat}{s:TSt}{k:TSt->Option R}{r:R}(hx:tev x s=some e)(hy:tev y s=some g)(hn:new<s.sto.length)(h:mn t bytes e g d new s k=some r):
  Ok (opR F (.appc t.sz bytes z (erO x) (erO y)) new) d s k r:=by
 unfold mn at h;split at h;rename_i t' rows;split at h;rename_i h0;subst h0;split at h;rename_i l j;obtain⟨m,h1,h⟩:=cK.1 h;unfold zx at h1;split at h1;rename_i h2;injection h1 with h1;subst h1;refine PA hn ?_ h;simp only[opR,run_bind,bW hx,bW hy,JQ];show(HA t'.sz bytes (.p (.slc t'.sz (rows.map (cel t')))) _ new).run _=_;grind [HA,run_bind,OZ,bI];cases h1;cases h;cases h;cases h
def tbn(x:Option TO)(s:TSt):Option (Option (IntKind×Int)):=
 match x with
 |none=>some none
 |some o=>match tev o s with|some (.a (.c (.d (.i k) n)))=>some (some (k,n))|_=>none
def bv(x:Option (IntKind×Int)):Option AV:=x.map λy=>.p (.i y.1 y.2)
theorem DN{x:Option TO}{s:TSt}{y:Option (IntKind×Int)}(h:tbn x s=some y):(evo (x.map erO)).run (JD s)=some (bv y):=by
 cases x with
 |none=>injection h with h;subst h;rfl
 |some o=>
  simp only[tbn]at h;split at h;rename_i k n e;injection h with h;subst h;simp only[dJ,evo,run_bind,bW e,JQ,bI,bv,e_i];cases h
theorem JKn(x:Option (IntKind×Int))(top d:Nat):pG (bv x) top d=sJ (x.map (·.2)) top d:=by cases x<;>rfl
theorem Ct(n:Nat)(lo hi:Option (IntKind×Int)):uT n (bv lo) (bv hi)=qD n (lo.map (·.2)) (hi.map (·.2)):=by
 grind [uT,qD,JKn]
inductive TSK where|str|sl (t:Ty)
def erK:TSK->SK| .str=>.str| .sl t=>.sl t.sz
def jr(t:Ty)(x:TV)(s:TSt)(kk:List t.D->TSt->Option R):Option R:=
 match x with
 | .a (.c (.d (.l t') l))=>if h:t'=t then kk (h▸l) s else none
 | .a (.c (.slr b))=>match s.sto[b]? with|some (.arr _ t' rows)=>if h:t'=t then kk (h▸rows) (wS b (.arr false t' rows) s)else none|_=>none
 |_=>none
theorem JIs{t:Ty}{x:TV}{s:TSt}{kk:List t.D->TSt->Option R}{r:R}(h:jr t x s kk=some r):
  ∃l s' ws,Fzd s s' ws/\kk l s'=some r/\((aT (lns s.sto) x=.p (.sl t.sz (l.map (cel t)))/\ws=[])\/
   ∃b,aT (lns s.sto) x=.slr b 0 l.length/\(fz (.slr b 0 l.length)).run (JD s)=some ([.sl t.sz (l.map (cel t))],ws)):=by
 unfold jr at h;split at h;grind [Fzd.refl,e_l];rename_i b;split at h;rename_i w t' rows e;split at h;rename_i h0;subst h0;refine⟨_,_,_,YH e,h,.inr ⟨b,by rw[gZ,nR e],?_⟩⟩;simp_all [eV,aY];cases h;cases h;cases h
def WZ(e:TSK)(x:TV)(lo hi mx:Option (IntKind×Int))(d:Option Nat)(s:TSt)(k:TSt->Option R):Option R:=
 match e with
 | .str=>match x,mx with| .a (.c (.d .s l)),none=>(bG l (lo.map (·.2)) (hi.map (·.2))).bind λq=>k (bA d (vs q) s)|_,_=>none
 | .sl t=>jr t x s λl s1=>match mx with|none=>(bG l (lo.map (·.2)) (hi.map (·.2))).bind λq=>k (bA d (vl t q) s1)|some (_,n)=>match lo,hi with|none,some (_,h)=>if h=l.length/\n=l.length then k (bA d (.a (.c (.sc t l))) s1)else none|_,_=>none
theorem Dq{α:Type}{l q:List α}{lo hi:Option Int}(h:bG l lo hi=some q): ∃c,qD l.length lo hi=some c/\q=(l.drop c.1).take (c.2-c.1):=by
 grind [bG]
theorem JDR(F:Orc){n:TSK}{x:TO}{j:TV}{lo hi mx:Option TO}{l g m:Option (IntKind×Int)}{d:Option Nat}{new:Nat}{s:TSt}{k:TSt->Option R}{r:R}(hx:tev x s=some j)(hl:tbn lo s=some l)(o:tbn hi s=some g)(hm:tbn mx s=some m)
  (h:WZ n j l g m d s k=some r):Ok (opR F (.slice (erK n) (erO x) (lo.map erO) (hi.map erO) (mx.map erO)) new) d s k r:=by
 unfold WZ at h;split at h;split at h;rename_i A;obtain⟨q,h1,h⟩:=cK.1 h;obtain⟨c,w,rfl⟩:=Dq h1;refine fP (v:=vs _) ?_ h;have z:bv none=none:=rfl;simp only[opR,run_bind,bW hx,DN hl,DN o,DN hm,JQ,e_s,erK,z,kG,vR,val,Ct,w,bI];cases h;rename_i t;obtain⟨y,s1,ws,f,h,C⟩:=JIs h;have e: ∀(res:AV),kG (.sl t.sz) (.p (.sl t.sz (y.map (cel t)))) (bv l) (bv g) (bv m)=some res->
   (opR F (.slice (erK (.sl t)) (erO x) (lo.map erO) (hi.map erO) (mx.map erO)) new).run (JD s)=some ⟨res,ws⟩:=by
  intro res B;simp only[opR,run_bind,bW hx,DN hl,DN o,DN hm,JQ,erK];grind [val,bI,run_bind]
 split at h;obtain⟨q,h2,h⟩:=cK.1 h;obtain⟨c,w,rfl⟩:=Dq h2;refine XG (v:=vl t _) f (e _ ?_) h;grind [bv,kG,vP,Ct,e_l,List.map_take,List.map_drop];split at h;split at h;rename_i h0;refine XG (v:=.a (.c (.sc t y))) f (e _ ?_) h;simp only[bv,Option.map_none,dJ,kG,NT,fA,h0,and_self,if_true];rfl;cases h;cases h
end
end Go.Am
end
section
namespace Go.Am
section
variable {R:Type}
def SJ(t:Ty):List (Nat×TO)->TSt->TSt->(List (Nat×t.D)->TSt->Option R)->Option R|[],_,s,k=>k [] s|(i,o)::r,s0,s,k=>match tev o s0 with|some v=>tfz t v s λz s'=>SJ t r s0 s' λl e=>k ((i,z)::l) e|none=>none
theorem ny{t:Ty}: ∀{parts:List (Nat×TO)} {s0 s:TSt} {w0:List (Nat×Blk)} {k:List (Nat×t.D)->TSt->Option R} {r:R},Fzd s0 s w0->SJ t parts s0 s k=some r->
  ∃l s' ws,(fzs (parts.map λx=>erO x.2)).run (JD s0)=some (l.map λx=>cel t x.2,ws)/\Fzd s0 s' (w0++ws)/\l.map (·.1)=parts.map (·.1)/\k l s'=some r
 |[],s0,s,w0,k,r,f,h=>⟨[],s,[],rfl,by simp_all,rfl,h⟩
 |(i,o)::q,s0,s,w0,k,r,f,h=>by
  simp only[SJ]at h;split at h;rename_i v n;obtain⟨z,s1,j,h1,e,h⟩:=B9 f h;obtain⟨l,g,w,h2,y,h3,h⟩:=ny e h;refine⟨(i,z)::l,g,j++w,?_,by simp_all,by simp[h3],h⟩;simp only[bU,fzs,run_bind,bW n,JQ,h1,h2,bI];cases h
def OS{α:Type}:List (Nat×α)->List α->Option (List α)|[],rows=>some rows|(i,c)::r,rows=>if i<rows.length then OS r (rows.set i c)else none
theorem r9{t:Ty}: ∀{l:List (Nat×t.D)} {rows rows':List t.D},OS l rows=some rows'->
  zB t.sz ((l.map (·.1)).zip (l.map λx=>cel t x.2)) (rows.map (cel t))=some (rows'.map (cel t))/\rows'.length=rows.length
 |[],rows,rows',h=>by injection h with h;simp_all
 |(i,c)::q,rows,rows',h=>by
  simp only[OS]at h;split at h;rename_i h0;obtain⟨h1,h2⟩:=r9 h;simp_all [eO];cases h
def mj(own:Bool)(t:Ty)(n:Nat)(parts:List (Nat×TO))(d:Option Nat)(new:Nat)(s:TSt)(k:TSt->Option R):Option R:=
 SJ t parts s s λl s1=>match OS l (List.replicate n t.zero)with|some rows=>if own=true then k (bA d (.a (.c (.slr new))) (wN new (.arr true t rows) s1))else k (bA d (vl t rows) s1)|none=>none
theorem JFB(F:Orc){own:Bool}{t:Ty}{n:Nat}{parts:List (Nat×TO)}{d:Option Nat}{new:Nat}{s:TSt}{k:TSt->Option R}{r:R}(hn:own=true->new<s.sto.length)
  (h:mj own t n parts d new s k=some r):Ok (opR F (.lits own t.sz n (cel t t.zero) (parts.map λx=>(x.1,erO x.2))) new) d s k r:=by
 unfold mj at h;obtain⟨l,s1,ws,h1,f,h2,h3⟩:=ny (Fzd.refl s) h;rw[nC]at f;clear h;split at h3;rename_i rows j;obtain⟨g,o⟩:=r9 j;rw[CS]at o;rw[GF]at g;have y:(parts.map λx=>(x.1,erO x.2)).map (·.2)=parts.map λx=>erO x.2:=by simp
 have w:(parts.map λx=>(x.1,erO x.2)).map (·.1)=l.map (·.1):=by rw[h2];simp
 split at h3;rename_i e;subst e;have q:new<s1.sto.length:=(by have:=congrArg (λst=>st.sto.length) f.2.2.1;grind [JD,yU]);refine⟨⟨aT (lns (wN new (.arr true t rows) s1).sto) (.a (.c (.slr new))),ws++[(new,.arr true t.sz (rows.map (cel t)))]⟩,_,?_,qQ ?_ d _,h3⟩;grind [gZ,ZD,opR,run_bind,bI];rw[Bs,f.2.2.1,fE];rfl;rename_i e;have:own=false:=by simpa using e
 subst this;refine XG (v:=vl t rows) f ?_ h3;grind [opR,run_bind,bI,e_l];cases h3
def nH(s:TSt):Nat->Nat->Bool
 |_,0=>true
 |new,k+1=>(match s.sto[new]? with
  |some .dead=>true
  |_=>false)&&nH s (new+1) k
theorem po{s:TSt}: ∀{k new:Nat},nH s new k=true->(sO new k).run (JD s)=some ()
 |0,_,_=>rfl
 |k+1,new,h=>by
  simp only[nH,aS]at h;obtain⟨h1,h2⟩:=h;split at h1;rename_i e;simp only[sO,eR,eV,e,dJ,JQ,aY];exact po h2;cases h1
theorem vZ{s:TSt}: ∀{k new:Nat},nH s new k=true-> ∀j,j<k->s.sto[new+j]?=some .dead
 |0,_,_,j,hj=>by omega
 |k+1,new,h,j,hj=>by
  simp only[nH,aS]at h;obtain⟨h1,h2⟩:=h;cases j with
  |zero=>
   grind
  |succ j=>
   have:=vZ h2 j (by omega);grind
theorem YK{m:RM Eff}{d:Option Nat}{s:TSt}{k:TSt->Option R}{r:R}{new:Nat}{x:TB}(hd:s.sto[new]?=some .dead)(h0:lnB x=0)
  (hm:m.run (JD s)=some ⟨.ptr new 0,[(new,aY (lns s.sto) x)]⟩) (h:k (bA d (.a (.c (.ptr new []))) (wS new x s))=some r):Ok m d s k r:=by
 refine IC (x:=x) (v:=.a (.c (.ptr new []))) (h0.trans (zD hd).symm) ?_ h;rw[hm];rfl
def Eh(t:Ty)(d:Option Nat)(new:Nat)(s:TSt)(k:TSt->Option R):Option R:=k (bA d (.a (.c (.ptr new []))) (wS new (.box t t.zero) s))
theorem JBl(F:Orc){t:Ty}{d:Option Nat}{new:Nat}{s:TSt}{k:TSt->Option R}{r:R}(hd:s.sto[new]?=some .dead)(h:Eh t d new s k=some r):Ok (opR F (.newbox (cel t t.zero)) new) d s k r:=
 YK hd (x:=.box t t.zero) rfl rfl h
def jk(t:Ty)(x:TV)(d:Option Nat)(new:Nat)(s:TSt)(k:TSt->Option R):Option R:=
 match tdv t x with
 |some z=>if agv x=true\/t.sz=1 then k (bA d (.a (.c (.ptr new []))) (wS new (.box t z) s))else none
 |none=>match tcs x with|some cs=>if cs.length=t.sz then k (bA d (.a (.c (.ptr new []))) (wS new (.mbox t cs) s))else none|none=>none
theorem JHE(F:Orc){t:Ty}{x:TO}{v:TV}{d:Option Nat}{new:Nat}{s:TSt}{k:TSt->Option R}{r:R}(hd:s.sto[new]?=some .dead)(hx:tev x s=some v)(h:jk t v d new s k=some r):Ok (opR F (.box t.sz (erO x)) new) d s k r:=by
 unfold jk at h;split at h;rename_i z n;split at h;rename_i e;refine YK hd (x:=.box t z) rfl ?_ h;simp only[opR,run_bind,bW hx,JQ,fw (lns s.sto) n e,fA,eO,if_true,bI,aY];cases h;split at h;rename_i cs g;split at h;rename_i j;refine YK hd (x:=.mbox t cs) rfl ?_ h;simp only[opR,run_bind,bW hx,JQ,KM (lns s.sto) g,fA,j,if_true,bI,aY];cases h;cases h
def oU:List (Nat×Ty)->Nat->TSt->TSt|[],_,s=>s|(_,t)::r,n,s=>oU r (n+1) (wS n (.arr true t []) s)
def xV:List (Nat×Ty)->Nat->List TC->List TC|[],_,cs=>cs|(off,_)::r,n,cs=>xV r (n+1) (cs.set off (.slr n))
def kX(os:List (Nat×Ty)):List (Nat×Nat):=os.map λx=>(x.1,x.2.sz)
theorem ZS: ∀{os:List (Nat×Ty)} {new:Nat} {s:TSt},(∀j,j<os.length->s.sto[new+j]?=some .dead)->
  lns (oU os new s).sto=lns s.sto/\JD (oU os new s)=⟨(JD s).env,upd (gY (kX os) new) (JD s).sto⟩/\(∀b,(∀j,j<os.length->b≠new+j)->(oU os new s).sto[b]?=s.sto[b]?)
 |[],_,s,_=>⟨rfl,rfl,λ_ _=>rfl⟩
 |(off,t)::q,new,s,h=>by
  have o:s.sto[new]?=some .dead:=h 0 (by simp);have k:lnB (.arr true t [])=lns s.sto new:=(zD o).symm;have e:=DZ k;have g: ∀c,c≠new->(wS new (.arr true t []) s).sto[c]?=s.sto[c]?:=λc v=>by grind [wS]
  obtain⟨h1,h2,h3⟩:=ZS (os:=q) (new:=new+1) (s:=wS new (.arr true t []) s) (λj r=>by
   rw[g _ (by omega)];have:=h (j+1) (by simp;omega);grind)
  refine⟨h1.trans e,?_,λb n=>?_⟩;simp only[oU];rw[h2,yL k];simp only[kX,bU,gY];rfl;simp only[oU];rw[h3 b (λj r=>by have:=n (j+1) (by simp;omega);omega),g b (by have:=n 0 (by simp);omega)]
theorem ZB{L:Nat->Nat}: ∀{os:List (Nat×Ty)} {new:Nat} {cs:List TC},(∀j,j<os.length->L (new+j)=0)->(xV os new cs).map (aX L)=lT (kX os) new (cs.map (aX L))
 |[],_,_,_=>rfl
 |(off,t)::q,new,cs,h=>by
  simp only[xV,kX,bU,lT];rw[ZB (os:=q) (new:=new+1) (λj e=>by have:=h (j+1) (by simp;omega);grind),List.map_set];have:aX L (.slr new)=.slr new 0 0:=by simp only[aX];rw[show L new=0 from h 0 (by simp)]
  rw[this];rfl
def cw(t:Ty)(os:List (Nat×Ty))(d:Option Nat)(new:Nat)(s:TSt)(k:TSt->Option R):Option R:=k (bA d (.a (.c (.ptr (new+os.length) []))) (wS (new+os.length) (.mbox t (xV os new (zcs t))) (oU os new s)))
theorem Fq(F:Orc){t:Ty}{os:List (Nat×Ty)}{d:Option Nat}{new:Nat}{s:TSt}{k:TSt->Option R}{r:R}(hd:nH s new (os.length+1)=true)(h:cw t os d new s k=some r):
  Ok (opR F (.newboxo (cel t t.zero) (kX os)) new) d s k r:=by
 unfold cw at h;generalize q:zcs t=cs at h;have g:=vZ hd;obtain⟨h1,h2,h3⟩:=ZS (os:=os) (new:=new) (s:=s) (λj o=>g j (by omega));have n:lnB (.mbox t (xV os new cs))=lns (oU os new s).sto (new+os.length):=by rw[h1,zD (g os.length (by omega))];rfl
 have e:=DZ n;have el:(kX os).length=os.length:=by simp[kX]
 refine⟨⟨aT (lns (wS (new+os.length) (.mbox t (xV os new cs)) (oU os new s)).sto) (.a (.c (.ptr (new+os.length) []))),gY (kX os) new++[(new+os.length,.box (lT (kX os) new ((cel t t.zero).map .p)))]⟩,_,?_,qQ ?_ d _,h⟩;simp only[opR,bI,el];rfl;rw[yL n,h2,fE];simp only[aY];rw[ZB (λj o=>by rw[h1];grind [zD]),<-q,DX];rfl
def ZA(t:Ty)(parts:List (Nat×Ty×TO))(os:List (Nat×Ty))(d:Option Nat)(new:Nat)(s:TSt)(k:TSt->Option R):Option R:=
 match tpc parts s with
 |some l=>match HP l (xV os new (zcs t))with
  |some cs'=>match mka true t cs' with|some v=>k (bA d v (oU os new s))|none=>none
  |none=>none
 |none=>none
theorem JBg(F:Orc){t:Ty}{parts:List (Nat×Ty×TO)}{os:List (Nat×Ty)}{d:Option Nat}{new:Nat}{s:TSt}{k:TSt->Option R}{r:R}(hd:nH s new os.length=true)(h:ZA t parts os d new s k=some r):
  Ok (opR F (.buildo (cel t t.zero) (erP parts) (kX os)) new) d s k r:=by
 unfold ZA at h;split at h;rename_i l w;have e:=vZ hd;obtain⟨h1,h2,h3⟩:=ZS (os:=os) (new:=new) (s:=s) (λj o=>e j (by omega));split at h;rename_i cs' g;split at h;rename_i v x;refine⟨⟨aT (lns (oU os new s).sto) v,gY (kX os) new⟩,_,?_,qQ h2 d _,h⟩;have n:=ZB (L:=lns s.sto) (os:=os) (new:=new) (cs:=zcs t) (λj o=>zD (e j (by omega)));rw[DX]at n;have q:=dc (lns s.sto) g;grind [opR,run_bind,XJ,DW,bI];cases h;cases h;cases h
def B6(t:Ty)(d:Option Nat)(new:Nat)(s:TSt)(k:TSt->Option R):Option R:=k (bA d (.a (.c (.slr new))) (wN new (.arr true t []) s))
theorem JDk(F:Orc){t:Ty}{x:Opd}{d:Option Nat}{new:Nat}{s:TSt}{k:TSt->Option R}{r:R}(hn:new<s.sto.length)(h:B6 t d new s k=some r):Ok (opR F (.mkarr t.sz x) new) d s k r:=
 PA (rows:=[]) hn rfl h
def tyB:Option TB->Ty|some (.box t _)=>t|some (.mbox t _)=>t|_=>.u
def YP(t:Ty)(x:TV)(d:Option Nat)(new:Nat)(s:TSt)(k:TSt->Option R):Option R:=
 match x with
 | .a (.c (.ptr b p))=>match sG p,(match s.sto[b]? with
   |some (.box e y)=>xX e y
   |some (.mbox _ cs)=>some cs
   |_=>none)with
  |some off,some cs=>match spl cs off [.slr new]with|some cs'=>k (bA d uv (wS b (.mbox (tyB s.sto[b]?) cs') (wS new (.arr true t []) s)))|none=>none
  |_,_=>none
 |_=>none
theorem JBf(F:Orc){t:Ty}{x:TO}{v:TV}{d:Option Nat}{new:Nat}{s:TSt}{k:TSt->Option R}{r:R}(hd:s.sto[new]?=some .dead)(hx:tev x s=some v)(h:YP t v d new s k=some r):Ok (opR F (.storen t.sz (erO x)) new) d s k r:=by
 unfold YP at h;split at h;rename_i b p;split at h;rename_i off cs C j;split at h;rename_i cs' G;have q:lnB (.arr true t [])=lns s.sto new:=(zD hd).symm;have o:b≠new/\lns s.sto b=0/\(JD s).sto[b]?=some (.box (cs.map (aX (lns s.sto)))):=(by split at j;rename_i B y g;refine⟨λe=>?_,PH g,?_⟩;simp_all;rw[eV,g,KP _ j];rfl;rename_i B E g;injection j with j;subst j;refine⟨λe=>?_,py g,?_⟩;simp_all;rw[eV,g];rfl;cases j);obtain⟨D,h0,g⟩:=o;have w:=DZ q;have n:lnB (.mbox (tyB s.sto[b]?) cs')=lns (wS new (.arr true t []) s).sto b:=by rw[w,h0];rfl
 refine⟨⟨aT (lns (wS b (.mbox (tyB s.sto[b]?) cs') (wS new (.arr true t []) s)).sto) uv,(new,.arr true t.sz [])::[(b,.box (cs'.map (aX (lns s.sto))))]⟩,_,?_,qQ ?_ d _,h⟩;have A:aX (lns s.sto) (.slr new)=.slr new 0 0:=by grind [aX,zD]
 have z:spl (cs.map (aX (lns s.sto))) (spo p) [.slr new 0 0]=some (cs'.map (aX (lns s.sto))):=by rw[<-A,DP C];have:=EQ (aX (lns s.sto)) cs off [TC.slr new];simp_all
 simp only[opR,run_bind,bW hx,JQ,kF,iE,eR,g,cellsOf,uL,List.length_nil,kY,if_true,z,bI];rfl;rw[yL n,yL q,w];rfl;cases h;cases h;cases h
def ly(c:Bool)(a b:Option TV)(kk:TV->Option R):Option R:=
 match a,b with
 |some (.a (.c (.d t x))),some (.a (.c (.d t' y)))=>if h:t'=t then kk (.a (.c (.d t (JLW c x (h▸y)))))else none
 |some x,some y=>if c=true then kk x else kk y
 |some x,none=>if c=true then kk x else none
 |none,some y=>if c=true then none else kk y
 |none,none=>none
theorem JGZ(F:Orc){c a b:TO}{x:Bool}{d:Option Nat}{new:Nat}{s:TSt}{k:TSt->Option R}{r:R}(hc:tev c s=some (vb x))(h:ly x (tev a s) (tev b s) (λv=>k (bA d v s))=some r):Ok (opR F (.pick (erO c) (erO a) (erO b)) new) d s k r:=by
 have e: ∃v,(if x=true then tev a s else tev b s)=some v/\k (bA d v s)=some r:=by
  unfold ly at h;split at h;rename_i t y t' z j g;split at h;rename_i h0;subst h0;refine⟨_,?_,h⟩;rw[j,g];cases x<;>rfl
  cases h
  all_goals grind
 obtain⟨v,h1,h2⟩:=e;refine fP (v:=v) ?_ h2;simp only[opR,run_bind,bW hc,JQ,e_b];grind [run_bind,bW,bI]
def tcl:List TO->TSt->Option (List TC)
 |[],_=>some []
 |o::r,s=>match tev o s with
  |some (.a (.c x))=>match tcl r s with|some l=>some (x::l)|none=>none
  |_=>none
theorem Cz{s:TSt}: ∀{xs:List TO} {l:List TC},tcl xs s=some l->(evs (xs.map erO)).run (JD s)=some (l.map (aX (lns s.sto)))
 |[],l,h=>by injection h with h;subst h;rfl
 |o::q,l,h=>by
  simp only[tcl]at h;split at h;rename_i x g;split at h;rename_i l' e;injection h with h;subst h;simp only[bU,evs,run_bind,bW g,JQ,Cz e,bI];rfl;cases h;cases h
def kr(x:TV)(kk:TV->Option R):Option R:=
 match x with
 | .a (.c (.ptr b p))=>kk (.a (.c (.ptr b p)))
 | .a (.c (.cp t y p))=>kk (.a (.c (.cp t y p)))
 | .a (.c (.ep b i p))=>kk (.a (.c (.ep b i p)))
 | .a (.fn f a c)=>kk (.a (.fn f a c))
 | .a (.c (.fn f))=>kk (.a (.c (.fn f)))
 |_=>none
theorem JHH(F:Orc){x:TO}{v:TV}{d:Option Nat}{new:Nat}{s:TSt}{k:TSt->Option R}{r:R}(hx:tev x s=some v)(h:kr v (λv=>k (bA d v s))=some r):Ok (opR F (.nilchk (erO x)) new) d s k r:=by
 unfold kr at h;split at h<;>first
  |(refine fP (v:=_) ?_ h
    simp only[opR,run_bind,bW hx,JQ,kF,lW,lS,j8,Ba,bI];done)
  |cases h
end
end Go.Am
end
section
namespace Go.Am
section
variable {R:Type}
def jj(keep:Bool)(v:TV)(s:TSt)(kk:TA->TSt->Option R):Option R:=
 match v with
 | .a x=>if keep=true then kk x s else
  match x with
  | .c (.slr b)=>match s.sto[b]? with|some (.arr _ t' rows)=>kk (.c (.d (.l t') rows)) (wS b (.arr false t' rows) s)|_=>none
  | .c (.slo _ _)=>none
  | .m t cs=>fzC t cs s λx s'=>kk (.dt t x) s'
  |x=>kk x s
 | .tup _=>none
def HT:List (TV×Bool)->TSt->(List TA->TSt->Option R)->Option R|[],s,kk=>kk [] s|(v,keep)::r,s,kk=>jj keep v s λx s=>HT r s λl s=>kk (x::l) s
theorem JIo{keep:Bool}{v:TV}{s0 s:TSt}{w0:List (Nat×Blk)}{kk:TA->TSt->Option R}{r:R}(f:Fzd s0 s w0)(h:jj keep v s kk=some r):
  ∃x s' ws,(if keep=true then RM.ret (aT (lns s0.sto) v,[])else jA (aT (lns s0.sto) v)).run (JD s0)=some (bV (lns s0.sto) x,ws)/\Fzd s0 s' (w0++ws)/\kk x s'=some r:=by
 unfold jj at h;split at h;rename_i x;split at h;rename_i g;subst g;exact⟨x,s,[],rfl,by simp_all,h⟩;rename_i g;have:keep=false:=by simpa using g
 subst this;simp only[eK,if_false];split at h;rename_i b;split at h;rename_i w t' rows j;obtain⟨w',e⟩:=f.2.2.2.1 b _ rows w j;refine⟨_,_,[(b,.arr false t'.sz (rows.map (cel t')))],?_,f.trans (YH j),h⟩;simp only[gZ,jA,fz,run_bind,eR,eV,e,dJ,JQ,aY,nR e,fA,kY,if_true,GT,bI];rfl;cases h;cases h;obtain⟨y,s',ws,h1,h2,h3⟩:=KF f h;refine⟨_,s',ws,?_,h2,h3⟩;simp only[e_m,jA,fz,run_bind,h1,JQ,bI];rfl;rename_i o q k;refine⟨x,s,[],?_,by simp_all,h⟩;cases x with
 |c x=>
  cases x with
  |slr b=>simp_all
  |slo b n=>simp_all
  |_=>rfl
 |m t cs=>simp_all
 |_=>rfl
 cases h
theorem ZU: ∀{vs:List (TV×Bool)} {s0 s:TSt} {w0:List (Nat×Blk)} {kk:List TA->TSt->Option R} {r:R},Fzd s0 s w0->HT vs s kk=some r->
  ∃xs s' ws,(fM (vs.map (·.2)) (vs.map λx=>aT (lns s0.sto) x.1)).run (JD s0)=some (xs.map (bV (lns s0.sto)),ws)/\Fzd s0 s' (w0++ws)/\kk xs s'=some r
 |[],s0,s,w0,kk,r,f,h=>⟨[],s,[],rfl,by simp_all,h⟩
 |(v,keep)::q,s0,s,w0,kk,r,f,h=>by simp only[HT]at h;obtain⟨x,s1,j,h1,e,h⟩:=JIo f h;obtain⟨xs,g,k,h2,n,h⟩:=ZU e h;refine⟨x::xs,g,j++k,?_,by simp_all,h⟩;cases keep<;>simp_all [fM]
theorem RO: ∀(vs:List AV),fM [] vs=jZ vs|[]=>rfl|x::r=>by simp only[fM,jZ,RO r]
theorem LV: ∀(m:List Bool) (vs:List AV),(∀x∈m,x=false)->fM m vs=jZ vs|[],vs,_=>RO vs|b::m,[],_=>rfl|b::m,x::r,h=>by have:b=false:=h b (by simp);subst this;simp only[fM,jZ,LV m r (λx e=>h x (by simp[e]))]
def HE(b:Nat)(l:List Nat):List Nat:=if l.any (λx=>x==b)=true then l else l++[b]
def OH(x:TC)(l:List Nat):Option (List Nat):=
 match x with
 | .ptr b _=>some (HE b l)
 | .slr b=>some (HE b l)
 | .slo b _=>some (HE b l)
 | .ep _ _ _=>none
 | .epo _ _ _ _=>none
 |_=>some l
def uZ:List TC->List Nat->Option (List Nat)|[],l=>some l|x::r,l=>match OH x l with|some l=>uZ r l|none=>none
def mi(x:TA)(l:List Nat):Option (List Nat):=
 match x with
 | .c x=>OH x l
 | .dt _ _=>some l
 | .m _ cs=>uZ cs l
 | .fn _ a c=>match uZ a l with|some l=>uZ c l|none=>none
def DV:List TA->List Nat->Option (List Nat)|[],l=>some l|x::r,l=>match mi x l with|some l=>DV r l|none=>none
def vH(s:TSt):List Nat->List Nat->Option (List Nat)
 |[],acc=>some acc
 |b::r,acc=>match s.sto[b]? with
  |some (.mbox _ cs)=>match uZ cs acc with|some acc=>vH s r acc|none=>none
  |some _=>vH s r acc
  |none=>none
theorem H8(b:Nat)(l:List Nat):vQ (.whole b) (l.map .whole)=(HE b l).map .whole:=by
 grind [vQ,HE]
section
variable (L:Nat->Nat)
theorem qr{x:TC}{l l':List Nat}(h:OH x l=some l'):cQ (aX L x) (l.map .whole)=l'.map .whole:=by
 unfold OH at h;split at h<;>first
  |(injection h with h;subst h;simp only[aX,cQ,H8];done)
  |(cases h;done)
  |skip
 injection h with h;subst h;rename_i j k o q g;cases x with
 |ptr b p=>simp_all
 |slr b=>simp_all
 |slo b n=>simp_all
 |ep b i p=>simp_all
 |epo b e i p=>grind
 |_=>rfl
theorem LH: ∀{xs:List TC} {l l':List Nat},uZ xs l=some l'->cQ.entsOfL (xs.map (aX L)) (l.map .whole)=l'.map .whole
 |[],l,l',h=>by injection h with h;subst h;rfl
 |x::r,l,l',h=>by
  simp only[uZ]at h;split at h;rename_i e h1;simp only[bU,cQ.entsOfL,qr L h1];exact LH h;cases h
theorem JGl{x:TA}{l l':List Nat}(h:mi x l=some l'):cQ (bV L x) (l.map .whole)=l'.map .whole:=by
 cases x with
 |c x=>exact qr L h
 |dt t x=>injection h with h;subst h;rfl
 |m t cs=>exact LH L h
 |fn f a c=>
  simp only[mi]at h;split at h
  all_goals simp_all [bV,LH]
theorem RC: ∀{xs:List TA} {l l':List Nat},DV xs l=some l'->cQ.entsOfL (xs.map (bV L)) (l.map .whole)=l'.map .whole
 |[],l,l',h=>by injection h with h;subst h;rfl
 |x::r,l,l',h=>by
  simp only[DV]at h;split at h;rename_i e h1;simp only[bU,cQ.entsOfL,JGl L h1];exact RC h;cases h
end
theorem cm{s0 s1:TSt}{ws:List (Nat×Blk)}(f:Fzd s0 s1 ws){b:Nat}{y:TB}(h:s1.sto[b]?=some y):(pY ws b).run (JD s0)=some (aY (lns s0.sto) y):=by
 have h1:(JD s1).sto[b]?=some (aY (lns s0.sto) y):=by rw[eV,h,f.2.1];rfl
 rw[f.2.2.1]at h1;grind [yU,vT,pY,eR,bI]
theorem yZ{s0 s1:TSt}{ws:List (Nat×Blk)}(f:Fzd s0 s1 ws): ∀{r acc l:List Nat},vH s1 r acc=some l->(eM ws (r.map .whole) (acc.map .whole)).run (JD s0)=some (l.map .whole)
 |[],acc,l,h=>by injection h with h;subst h;rfl
 |b::r,acc,l,h=>by
  simp only[vH]at h;split at h;rename_i cs e;split at h;rename_i g j;simp only[bU,eM,run_bind,cm f e,JQ,aY,LH (lns s0.sto) j];exact yZ f h;cases h;rename_i x k e;simp only[bU,eM,run_bind,cm f e,JQ];cases x with
  |mbox t cs=>simp_all
  |box t x=>simp only[aY];rw[ru];exact yZ f h
  |_=>exact yZ f h
  cases h
end
end Go.Am
end
section
namespace Go.Am
def kCs(K:List Nat)(L:Nat->Nat):TC->TC| .slr c=>if K.any (λx=>x==c)=true then .slo c (L c)else .slr c| .ep c i p=>if K.any (λx=>x==c)=true then .epo c (L c) i p else .ep c i p|x=>x
def kAs(K:List Nat)(L:Nat->Nat):TA->TA| .c x=>.c (kCs K L x)| .dt t x=>.dt t x| .m t cs=>.m t (cs.map (kCs K L))| .fn f a c=>.fn f (a.map (kCs K L)) (c.map (kCs K L))
def kVs(K:List Nat)(L:Nat->Nat):TV->TV| .a x=>.a (kAs K L x)| .tup vs=>.tup (vs.map (kAs K L))
def kBs(K:List Nat)(L:Nat->Nat):TB->TB| .mbox t cs=>.mbox t (cs.map (kCs K L))|x=>x
section
variable {K:List Nat} {L L':Nat->Nat} (h: ∀c,K.any (λx=>x==c)=false->L' c=L c)
include h
theorem Aw(x:TC):aX L' (kCs K L x)=aX L x:=by cases x<;>grind [kCs,aX]
theorem Bk(xs:List TC):(xs.map (kCs K L)).map (aX L')=xs.map (aX L):=by
 grind [List.map_congr_left,Aw]
theorem Z0(x:TA):bV L' (kAs K L x)=bV L x:=by cases x<;>simp only[kAs,bV,Aw h,Bk h]
theorem Zt(x:TV):aT L' (kVs K L x)=aT L x:=by cases x<;>simp only[kVs,aT,Z0 h,yE,Function.comp_def]
theorem JLY(x:TB):aY L' (kBs K L x)=aY L x:=by cases x<;>simp only[kBs,aY,Bk h]
end
theorem JIE(K:List Nat)(L:Nat->Nat)(x:TB):lnB (kBs K L x)=lnB x:=by cases x<;>rfl
theorem JIn(sto:List TB)(K:List Nat)(L:Nat->Nat)(c:Nat):lns (sto.map (kBs K L)) c=lns sto c:=by
 unfold lns;rw[fS];cases sto[c]? with
 |none=>rfl
 |some x=>exact JIE K L x
def uO(ws:List (Nat×Bool×TB))(sto:List TB):List TB:=ws.foldl (λσ x=>σ.set x.1 x.2.2) sto
def nE(ws:List (Nat×Bool×TB))(s:TSt):TSt:=
 match ws with
 |[]=>s
 |ws=>
  let K:=(ws.filter λx=> !x.2.1).map (·.1)
  ⟨s.env.map λy=>(y.1,kVs K (lns s.sto) y.2),uO ws (s.sto.map (kBs K (lns s.sto)))⟩
theorem ek: ∀{ws:List (Nat×Bool×TB)} {sto:List TB} {c:Nat},c∉ws.map (·.1)->(uO ws sto)[c]?=sto[c]?|[],_,_,_=>rfl|x::ws,sto,c,h=>by simp only[bU,dZ,not_or]at h;show(uO ws (sto.set x.1 x.2.2))[c]?=_;rw[ek h.2,GM (λe=>h.1 e.symm)]
theorem Ea: ∀{ws:List (Nat×Bool×TB)} {sto:List TB},(ws.map (·.1)).Nodup-> ∀x∈ws,x.1<sto.length->(uO ws sto)[x.1]?=some x.2.2
 |[],_,_,x,e,_=>by cases e
 |y::ws,sto,g,x,e,h=>by
  simp only[bU,List.nodup_cons]at g;show(uO ws (sto.set y.1 y.2.2))[x.1]?=_;rcases dZ.1 e with rfl|e;grind [ek];exact Ea g.2 x e (by simpa using h)
theorem qc(f:TB->Blk): ∀(ws:List (Nat×Bool×TB)) (sto:List TB),(uO ws sto).map f=upd (ws.map λx=>(x.1,f x.2.2)) (sto.map f)
 |[],_=>rfl
 |x::ws,sto=>by show(uO ws (sto.set x.1 x.2.2)).map f=upd (ws.map λx=>(x.1,f x.2.2)) ((sto.map f).set x.1 (f x.2.2));rw[qc f ws,List.map_set]
theorem JIH{ws:List (Nat×Bool×TB)}{s:TSt}(hn:(ws.map (·.1)).Nodup)(hl: ∀x∈ws,x.1<s.sto.length)(hf: ∀x∈ws,x.2.1=true->lnB x.2.2=lns s.sto x.1):
  JD (nE ws s)=⟨(JD s).env,upd (ws.map λx=>(x.1,aY (lns (nE ws s).sto) x.2.2)) (JD s).sto⟩/\ ∀x∈ws,lns (nE ws s).sto x.1=lnB x.2.2:=by
 cases ws with
 |nil=>exact⟨rfl,λx g=>by cases g⟩
 |cons k j=>
  generalize n:k::j=ws at*;have e:nE ws s=⟨s.env.map λy=>(y.1,kVs ((ws.filter λx=> !x.2.1).map (·.1)) (lns s.sto) y.2),uO ws (s.sto.map (kBs ((ws.filter λx=> !x.2.1).map (·.1)) (lns s.sto)))⟩:=by subst n;rfl
  have h: ∀x∈ws,lns (nE ws s).sto x.1=lnB x.2.2:=λx g=>by rw[e];unfold lns;rw[Ea hn x g (by grind)];rfl
  have q: ∀c,((ws.filter λx=> !x.2.1).map (·.1)).any (λx=>x==c)=false->lns (nE ws s).sto c=lns s.sto c:=(by intro c r;by_cases o:c∈ws.map (·.1);obtain⟨x,g,rfl⟩:=jB.1 o;grind;rw[e];have:=JIn s.sto ((ws.filter λx=> !x.2.1).map (·.1)) (lns s.sto) c;grind [lns,ek]);refine⟨?_,h⟩;generalize hL:lns (nE ws s).sto=L' at*;unfold JD;rw[hL,e];grind [fV,List.map_congr_left,Zt,qc,JLY]
theorem D7(b:Nat): ∀(ids:List Nat) (k:Nat),dV (.whole b) (ids.map .whole) k=eT b ids k
 |[],_=>rfl
 |x::r,k=>by
  simp only[bU,dV,eT];by_cases h:x=b;subst h;simp;simp[h,D7 b r (k+1)]
def OM(ids:List Nat):TC->Option TC| .ptr b p=>(eT b ids 0).bind λk=>some (.ptr k p)| .slr b=>(eT b ids 0).bind λk=>some (.slr k)| .slo b n=>(eT b ids 0).bind λk=>some (.slo k n)| .ep _ _ _=>none| .epo _ _ _ _=>none|x=>some x
def yK(ids:List Nat):List TC->Option (List TC)|[]=>some []|x::r=>match OM ids x,yK ids r with|some y,some l=>some (y::l)|_,_=>none
def IF(ids:List Nat):TA->Option TA
 | .c x=>match OM ids x with|some y=>some (.c y)|none=>none
 | .dt t x=>some (.dt t x)
 | .m t cs=>match yK ids cs with|some l=>some (.m t l)|none=>none
 | .fn f a c=>match yK ids a,yK ids c with|some a,some c=>some (.fn f a c)|_,_=>none
def OR(ids:List Nat):List TA->Option (List TA)|[]=>some []|x::r=>match IF ids x,OR ids r with|some y,some l=>some (y::l)|_,_=>none
def XA(ids:List Nat):TB->Option TB
 | .box t x=>some (.box t x)
 | .mbox t cs=>match yK ids cs with|some l=>some (.mbox t l)|none=>none
 | .arr w t rows=>some (.arr w t rows)
 | .dead=>none
def vX(ids:List Nat)(s:TSt):List Nat->Option (List TB)
 |[]=>some []
 |b::r=>match s.sto[b]? with
  |some x=>match XA ids x,vX ids s r with|some y,some l=>some (y::l)|_,_=>none
  |none=>none
section
variable {ids:List Nat} {L L':Nat->Nat} (hL: ∀b k,eT b ids 0=some k->L' k=L b)
include hL
theorem pq{x y:TC}(h:OM ids x=some y):ren (λe=>dV e (ids.map .whole) 0) (aX L x)=some (aX L' y):=by
 cases x<;>simp only[OM]at h<;>first
  |(obtain⟨k,g,h⟩:=cK.1 h
    injection h with h;subst h;simp only[aX,ren,D7,g,dJ]
    try rw[hL _ _ g]
    done)
  |(injection h with h;subst h;rfl)
  |cases h
theorem QO: ∀{xs g:List TC},yK ids xs=some g->ren.renL (λe=>dV e (ids.map .whole) 0) (xs.map (aX L))=some (g.map (aX L'))
 |[],g,h=>by injection h with h;subst h;rfl
 |x::r,g,h=>by
  simp only[yK]at h;split at h;rename_i y l k j;injection h with h;subst h;simp only[bU,ren.renL,pq hL k,QO j];cases h
theorem JG7{x y:TA}(h:IF ids x=some y):ren (λe=>dV e (ids.map .whole) 0) (bV L x)=some (bV L' y):=by
 cases x with
 |c x=>
  simp only[IF]at h;split at h;rename_i y g;injection h with h;subst h;exact pq hL g;cases h
 |dt t x=>injection h with h;subst h;rfl
 |m t cs=>
  grind [IF,bV,ren,QO]
 |fn f a c=>
  grind [IF,bV,ren,QO]
theorem rd: ∀{xs g:List TA},OR ids xs=some g->ren.renL (λe=>dV e (ids.map .whole) 0) (xs.map (bV L))=some (g.map (bV L'))
 |[],g,h=>by injection h with h;subst h;rfl
 |x::r,g,h=>by
  simp only[OR]at h;split at h;rename_i y l k j;injection h with h;subst h;simp only[bU,ren.renL,JG7 hL k,rd j];cases h
theorem sy{s0 s1:TSt}{ws:List (Nat×Blk)}(f:Fzd s0 s1 ws)(j:lns s0.sto=L): ∀{k:List Nat} {bl:List TB},vX ids s1 k=some bl->
  (kH ws (λe=>dV e (ids.map .whole) 0) (k.map .whole)).run (JD s0)=some (bl.map (aY L'))
 |[],bl,h=>by injection h with h;subst h;rfl
 |b::r,bl,h=>by
  simp only[vX]at h;split at h;rename_i x o;split at h;rename_i y l g q;injection h with h;subst h;have ih:=sy f j q;have n:=cm f o;rw[j]at n;simp only[bU,kH,yJ,run_bind,n,JQ];cases x with
  |dead=>cases g
  |box t x=>injection g with g;grind [qz,VL,aY,bI]
  |mbox t cs=>
   grind [XA,aY,QO,bI]
  |arr w t rows=>injection g with g;grind [aY,bI]
  cases h;cases h
end
theorem tp{ids:List Nat}{s:TSt}: ∀{g:List Nat} {bl:List TB},vX ids s g=some bl->bl.length=g.length/\ ∀(k b:Nat),g[k]?=some b->lns bl k=lns s.sto b
 |[],bl,h=>by injection h with h;simp_all
 |b::r,bl,h=>by
  simp only[vX]at h;split at h;rename_i x n;split at h;rename_i y l e o;injection h with h;subst h;obtain⟨h1,h2⟩:=tp o;refine⟨by simp[h1],λk c j=>?_⟩;cases k with
  |zero=>
   simp at j;subst j;unfold lns;rw[n];show lnB y=lnB x;cases x with
   |dead=>cases e
   |box t x=>injection e with e;subst e;rfl
   |mbox t cs=>
    simp only[XA]at e;split at e;injection e with e;subst e;rfl;cases e
   |arr w t rows=>injection e with e;subst e;rfl
  |succ k=>
   grind [lns]
  cases h;cases h
def fJ(ids:List Nat)(new m k:Nat):Option Nat:=if k<ids.length then ids[k]? else if k<m then some (new+(k-ids.length))else none
def TJ(ids:List Nat)(new m:Nat):TC->Option TC| .ptr k p=>(fJ ids new m k).bind λb=>some (.ptr b p)| .slr k=>(fJ ids new m k).bind λb=>some (.slr b)| .slo k n=>(fJ ids new m k).bind λb=>some (.slo b n)| .ep k i p=>(fJ ids new m k).bind λb=>some (.ep b i p)| .epo k e i p=>(fJ ids new m k).bind λb=>some (.epo b e i p)|x=>some x
def yD(ids:List Nat)(new m:Nat):List TC->Option (List TC)|[]=>some []|x::r=>match TJ ids new m x,yD ids new m r with|some y,some l=>some (y::l)|_,_=>none
def UO(ids:List Nat)(new m:Nat):TA->Option TA
 | .c x=>match TJ ids new m x with|some y=>some (.c y)|none=>none
 | .dt t x=>some (.dt t x)
 | .m t cs=>match yD ids new m cs with|some l=>some (.m t l)|none=>none
 | .fn f a c=>match yD ids new m a,yD ids new m c with|some a,some c=>some (.fn f a c)|_,_=>none
def NS(ids:List Nat)(new m:Nat):List TA->Option (List TA)|[]=>some []|x::r=>match UO ids new m x,NS ids new m r with|some y,some l=>some (y::l)|_,_=>none
def kq(ids:List Nat)(new m:Nat):TV->Option TV
 | .a x=>match UO ids new m x with|some y=>some (.a y)|none=>none
 | .tup vs=>match NS ids new m vs with|some l=>some (.tup l)|none=>none
def xZ(ids:List Nat)(new m:Nat):TB->Option TB
 | .box t x=>some (.box t x)
 | .mbox t cs=>match yD ids new m cs with|some l=>some (.mbox t l)|none=>none
 | .arr w t rows=>some (.arr w t rows)
 | .dead=>none
section
variable {ids:List Nat} {new m:Nat} {L Lp:Nat->Nat} (hL: ∀k b,fJ ids new m k=some b->Lp b=L k)
theorem JKS{k b o:Nat}(h:fJ ids new m k=some b):bk (ids.map .whole) new (.ptr k o)=some (.ptr b o):=by
 grind [fJ,bk]
theorem JK9{k b i n:Nat}(h:fJ ids new m k=some b):bk (ids.map .whole) new (.slr k i n)=some (.slr b i n):=by
 grind [fJ,bk]
theorem JL6{k b e i o:Nat}(h:fJ ids new m k=some b):bk (ids.map .whole) new (.ep k e i o)=some (.ep b e i o):=by
 grind [fJ,bk]
include hL
theorem C9{x y:TC}(h:TJ ids new m x=some y):bk (ids.map .whole) new (aX L x)=some (aX Lp y):=by
 cases x<;>simp only[TJ]at h<;>first
  |(obtain⟨b,e,h⟩:=cK.1 h
    injection h with h;subst h;simp only[aX,JKS e,JK9 e,JL6 e,hL _ _ e]
    done)
  |(injection h with h;subst h;rfl)
theorem PT: ∀{xs e:List TC},yD ids new m xs=some e->bk.bkL (ids.map .whole) new (xs.map (aX L))=some (e.map (aX Lp))
 |[],e,h=>by injection h with h;subst h;rfl
 |x::r,e,h=>by
  simp only[yD]at h;split at h;rename_i y l j g;injection h with h;subst h;simp only[bU,bk.bkL,C9 hL j,PT g];cases h
theorem o7{x y:TA}(h:UO ids new m x=some y):bk (ids.map .whole) new (bV L x)=some (bV Lp y):=by cases x<;>grind [UO,C9,bV,bk,PT]
theorem pt: ∀{xs e:List TA},NS ids new m xs=some e->bk.bkL (ids.map .whole) new (xs.map (bV L))=some (e.map (bV Lp))
 |[],e,h=>by injection h with h;subst h;rfl
 |x::r,e,h=>by
  simp only[NS]at h;split at h;rename_i y l j g;injection h with h;subst h;simp only[bU,bk.bkL,o7 hL j,pt g];cases h
theorem JHA{x y:TV}(h:kq ids new m x=some y):bk (ids.map .whole) new (aT L x)=some (aT Lp y):=by cases x<;>grind [kq,o7,aT,bk,pt]
end
end Go.Am
end
section
namespace Go.Am
structure TG where
 go: ∀{R:Type},FuncId->List TA->List TB->(TV->List (Bool×TB)->Option R)->Option R
def qC(out:List (Bool×TB)):Nat->Nat:=lns (out.map (·.2))
structure GOk(F:Orc)(G:TG):Prop where
 ok: ∀{R:Type} {f:FuncId} {xs:List TA} {bl:List TB} {kk:TV->List (Bool×TB)->Option R} {r:R},G.go f xs bl kk=some r->
  ∃v out,F f (xs.map (bV (lns bl))) (bl.map (aY (lns bl)))=some (aT (qC out) v,out.map λx=>aY (qC out) x.2)/\
   (∀(k:Nat) x,out[k]?=some (true,x)->k<bl.length->lnB x=lns bl k)/\kk v out=some r
def oR(ids:List Nat)(new m:Nat):Nat->List (Bool×TB)->Option (List (Nat×Bool×TB))|_,[]=>some []|k,(s,x)::r=>match fJ ids new m k,xZ ids new m x,oR ids new m (k+1) r with|some b,some y,some l=>some ((b,s&&decide (k<ids.length),y)::l)|_,_,_=>none
section
variable {R:Type}
def l7(e:Bool)(a b n:Nat):Bool:=if e=true then decide (a<=b/\b<=a+n)else decide (b=a+n)
theorem JDH{e:Bool}{a b n:Nat}(h:l7 e a b n=true):(if e=true then a<=b/\b<=a+n else b=a+n)/\a<=b/\b<=a+n:=by
 grind [l7]
def CX(G:TG)(f:FuncId)(args:List (TV×Bool))(e:Bool)(n:Nat)(d:Option Nat)(new:Nat)(s:TSt)(kk:TSt->Option R):Option R:=
 HT args s λxs s1=>
 match DV xs []with
 |none=>none
 |some g=>match vH s1 g g with
  |none=>none
  |some i1=>match vH s1 i1 i1 with
   |none=>none
   |some ids=>if jK ids=true then
    match OR ids xs,vX ids s1 ids with
    |some j,some bl=>G.go f j bl λv out=>
     if l7 e ids.length out.length n=true then
      match kq ids new out.length v,oR ids new out.length 0 out with
      |some h,some ws=>if jK (ws.map (·.1))=true then kk (bA d h (nE ws s1))else none
      |_,_=>none
     else none
    |_,_=>none
    else none
theorem o9{ids:List Nat}{new m:Nat}{x y:TB}(h:xZ ids new m x=some y):lnB y=lnB x:=by
 cases x with
 |dead=>cases h
 |box t x=>injection h with h;subst h;rfl
 |mbox t cs=>
  simp only[xZ]at h;split at h;injection h with h;subst h;rfl;cases h
 |arr w t rows=>injection h with h;subst h;rfl
theorem qs{ids:List Nat}{new m:Nat}: ∀{k:Nat} {out:List (Bool×TB)} {ws:List (Nat×Bool×TB)},oR ids new m k out=some ws->
  ws.length=out.length/\ ∀(j:Nat) s x,out[j]?=some (s,x)-> ∃b y,fJ ids new m (k+j)=some b/\xZ ids new m x=some y/\ws[j]?=some (b,s&&decide (k+j<ids.length),y)
 |k,[],ws,h=>by injection h with h;simp_all
 |k,(s,x)::r,ws,h=>by
  simp only[oR]at h;split at h;rename_i b y l q o e;injection h with h;subst h;obtain⟨h1,h2⟩:=qs e;refine⟨by simp[h1],λj s' g n=>?_⟩;cases j<;>grind
  cases h
theorem JGY{l:List Nat}(h:jK l=true):l.Nodup:=RK h
theorem E0{ids:List Nat}(h:jK ids=true):jK ((ids.map Ent.whole).map Ent.id)=true:=by rw[yE,show Ent.id∘Ent.whole=id from rfl,List.map_id];exact h
theorem qg{ids:List Nat}{new m:Nat}{L Lp:Nat->Nat}(hL: ∀k b,fJ ids new m k=some b->Lp b=L k){ws0:List (Nat×Blk)}{st:St}: ∀{j:Nat} {es:List Nat} {out:List (Bool×TB)} {ws:List (Nat×Bool×TB)},
  (∀(i:Nat) b,es[i]?=some b->ids[j+i]?=some b)->j+es.length=ids.length->es.length<=out.length->oR ids new m j out=some ws->
  (iU ws0 (ids.map .whole) new (es.map .whole) (out.map λx=>aY L x.2)).run st=some ((ws.take es.length).map λx=>(x.1,aY Lp x.2.2))
 |j,[],out,ws,_,_,_,h=>by simp[iU]
 |j,b::es,[],ws,_,_,hl,h=>by simp at hl
 |j,b::es,(s,x)::out,ws,he,hj,hl,h=>by
  simp only[oR]at h;split at h;rename_i e y l r v n;injection h with h;subst h;have ih:=qg hL (ws0:=ws0) (st:=st) (j:=j+1) (es:=es) (out:=out) (ws:=l) (λi c q=>by
   have:=he (i+1) c (by simpa using q);grind) (by grind) (by simpa using hl) n
  have g:e=b:=(by have h0:=he 0 b (by simp);grind [fJ]);subst g;simp only[bU,iU,run_bind];have o:(sW ws0 (ids.map .whole) new (.whole e) (aY L x)).run st=some (e,aY Lp y):=by cases x<;>grind [DU,sW,fv,VL,bI,xZ,KQ,PT,XI]
  simp_all;cases h
theorem pw{ids:List Nat}{new m:Nat}{L Lp:Nat->Nat}(hL: ∀k b,fJ ids new m k=some b->Lp b=L k): ∀{j:Nat} {out:List (Bool×TB)} {ws:List (Nat×Bool×TB)},
  oR ids new m (ids.length+j) out=some ws->hI (ids.map .whole) new (new+j) (out.map λx=>aY L x.2)=some (ws.map λx=>(x.1,aY Lp x.2.2))
 |j,[],ws,h=>by injection h with h;subst h;rfl
 |j,(s,x)::out,ws,h=>by
  simp only[oR]at h;split at h;rename_i o y l q e n;injection h with h;subst h;have ih:=pw hL (j:=j+1) n;have g:o=new+j:=(by grind [fJ]);subst g;cases x with
  |dead=>cases e
  |box t x=>injection e with e;grind [DU,hI,fv,VL]
  |mbox t cs=>
   grind [xZ,KQ,hI,PT]
  |arr w t rows=>injection e with e;grind [XI,hI]
  cases h
theorem s7{ids:List Nat}{new m:Nat}: ∀{n k:Nat} {out:List (Bool×TB)} {ws:List (Nat×Bool×TB)},oR ids new m k out=some ws->oR ids new m (k+n) (out.drop n)=some (ws.drop n)
 |0,k,out,ws,h=>h
 |n+1,k,[],ws,h=>by injection h with h;subst h;rfl
 |n+1,k,(s,x)::out,ws,h=>by
  simp only[oR]at h;split at h;rename_i b y l j g e;injection h with h;subst h;have:=s7 (n:=n) e;grind;cases h
theorem RQ{F:Orc}{G:TG}(hG:GOk F G){f:FuncId}{args:List (TV×Bool)}{A:Bool}{n:Nat}{d:Option Nat}{new:Nat}{s:TSt}{kk:TSt->Option R}{r:R}
  (hd:nH s new n=true) (h:CX G f args A n d new s kk=some r):
  ∃xs ws B es z blks v res E fresh,(fM (args.map (·.2)) (args.map λx=>aT (lns s.sto) x.1)).run (JD s)=some (xs,ws)/\
   (eM ws (cQ.entsOfL xs []) (cQ.entsOfL xs [])).run (JD s)=some B/\(eM ws B B).run (JD s)=some es/\jK (es.map Ent.id)=true/\
   ren.renL (λe=>dV e es 0) xs=some z/\(kH ws (λe=>dV e es 0) es).run (JD s)=some blks/\F f z blks=some res/\
   (if A=true then es.length<=res.2.length/\res.2.length<=es.length+n else res.2.length=es.length+n)/\bk es new res.1=some v/\hI es new new (res.2.drop es.length)=some fresh/\
   (iU ws es new es res.2).run (JD s)=some E/\ ∃s',put d ⟨v,ws++E++fresh⟩ (JD s)=JD s'/\kk s'=some r:=by
 unfold CX at h;obtain⟨xs,s1,ws,h1,q,h⟩:=ZU (Fzd.refl s) h;rw[nC]at q;split at h;cases h;rename_i i0 V;split at h;cases h;rename_i i1 S;split at h;cases h;rename_i ids M;split at h;rename_i Y;split at h;rename_i ys bl U L;obtain⟨v,out,hF,a1,h⟩:=hG.ok h;split at h;rename_i hlen;split at h;rename_i O g W o;split at h;rename_i N;have e0:cQ.entsOfL (xs.map (bV (lns s.sto))) []=i0.map .whole:=RC (lns s.sto) (l:=[]) V;have e1:=yZ q S;have e2:=yZ q M;obtain⟨ak,Z⟩:=tp L;have hL: ∀b k,eT b ids 0=some k->lns bl k=lns s.sto b:=by intro b k P;obtain⟨_,P⟩:=RG P;rw[Z k b (by simpa using P),q.2.1]
 have e3:=rd hL U;have e4:=sy hL q rfl L;obtain⟨b1,b2⟩:=qs o;have a6: ∀(j:Nat),qC out j=match out[j]? with
   |some x=>lnB x.2
   |none=>0:=by
  intro j;unfold qC lns;rw[fS];cases out[j]?<;>rfl
 have Q: ∀(k b:Nat),ids[k]?=some b->b<s1.sto.length:=by
  have al: ∀(C:List Nat) (bl:List TB),vX ids s1 C=some bl-> ∀(k b:Nat),C[k]?=some b->b<s1.sto.length:=by
   intro C
   induction C with
   |nil=>simp_all
   |cons c C ih=>
    grind [vX]
  grind
 have a4:s1.sto.length=s.sto.length:=(by have:=congrArg (λst=>st.sto.length) q.2.2.1;grind [JD,yU]);obtain⟨a3,K,a2⟩:=JDH hlen;have a0:=vZ hd;have ab: ∀x∈g,∃(j:Nat) (T:Bool) (y:TB),out[j]?=some (T,y)/\fJ ids new out.length j=some x.1/\xZ ids new out.length y=some x.2.2/\x.2.1=(T&&decide (j<ids.length)):=by
  intro x hx;obtain⟨j,hj⟩:=mA hx;have w:j<out.length:=by grind
  obtain⟨b,y,q1,q2,I⟩:=b2 j (out[j]'w).1 (out[j]'w).2 (zQ9 w);rw[hj]at I;injection I with I;rw[kY]at q1 I;exact⟨j,_,_,zQ9 w,by simp_all,by simp_all,by rw[I];rfl⟩
 have H: ∀x∈g,x.1<s1.sto.length:=(by grind [fJ,JC]);have J: ∀x∈g,x.2.1=true->lnB x.2.2=lns s1.sto x.1:=(by grind [o9,fJ]);obtain⟨w1,w2⟩:=JIH (JGY N) H J;have D: ∀k b,fJ ids new out.length k=some b->lns (nE g s1).sto b=qC out k:=(by grind [fJ,o9]);have e5:=JHA D W;have e6:=qg D (ws0:=ws) (st:=JD s) (j:=0) (es:=ids) (out:=out) (ws:=g) (λi b hb=>by grind) (by omega) K o;have e7:=pw D (j:=0) (out:=out.drop ids.length) (ws:=g.drop ids.length) (by have:=s7 (n:=ids.length) o;grind);rw[xO]at e7;refine⟨xs.map (bV (lns s.sto)),ws,i1.map .whole,ids.map .whole,_,_,aT (lns (nE g s1).sto) O,_,_,(g.drop ids.length).map (λx=>(x.1,aY (lns (nE g s1).sto) x.2.2)),h1,?_,e2,E0 Y,e3,e4,hF,?_,e5,?_,e6,bA d O (nE g s1),?_,h⟩;grind;grind;grind [List.map_drop];refine qQ ?_ d O;rw[w1,q.2.2.1];simp[fE];cases h;cases h;cases h;cases h;cases h
end
end Go.Am
end
section
namespace Go.Am
inductive TOp where
 |mv (x:TO)
 |mkarr (t:Ty) (x:TO)
 |pick (c a b:TO)
 |newbox (t:Ty)
 |box (t:Ty) (x:TO)
 |build (t:Ty) (parts:List (Nat×Ty×TO))
 |lits (own:Bool) (t:Ty) (n:Nat) (parts:List (Nat×TO))
 |load (agg:Bool) (t:Ty) (x:TO)
 |store (t:Ty) (x v:TO)
 |nilchk (x:TO)
 |bin (op:BinOp) (bt:TBT) (x y:TO)
 |un (op:UnOp) (x:TO)
 |conv (k:CK) (x:TO)
 |mkslice (own:Bool) (t:Ty) (bytes:Nat) (l c:TO)
 |slice (k:TSK) (x:TO) (lo hi mx:Option TO)
 |faddr (off:Nat) (x:TO)
 |field (agg:Bool) (off:Nat) (t:Ty) (x:TO)
 |iaddr (t:Ty) (x i:TO)
 |aaddr (len esz:Nat) (x i:TO)
 |sidx (x i:TO)
 |aidx (agg:Bool) (len:Nat) (t:Ty) (x i:TO)
 |extr (x:TO) (i:Nat)
 |call (f:FuncId) (args:List TO) (k:Nat)
 |callo (f:FuncId) (args:List (TO×Bool)) (k:Nat)
 |callv (g:TO) (args:List TO) (k:Nat)
 |len (str:Bool) (x:TO)
 |alen (n:Nat)
 |app (t:Ty) (bytes:Nat) (x y:TO)
 |appn (t:Ty) (bytes:Nat) (y:TO)
 |appz (t:Ty) (bytes:Nat) (x y:TO)
 |appc (t:Ty) (bytes:Nat) (x y:TO)
 |mm (mx:Bool) (x y:TO)
 |mkfn (f:FuncId) (first caps:List TO)
 |newboxo (t:Ty) (os:List (Nat×Ty))
 |buildo (t:Ty) (parts:List (Nat×Ty×TO)) (os:List (Nat×Ty))
 |storen (t:Ty) (x:TO)
def zer(t:Ty):List PV:=cel t t.zero
def erp:TOp->AOp
 | .mv x=>.mv (erO x)
 | .mkarr t x=>.mkarr t.sz (erO x)
 | .pick c a b=>.pick (erO c) (erO a) (erO b)
 | .newbox t=>.newbox (zer t)
 | .box t x=>.box t.sz (erO x)
 | .build t parts=>.build (zer t) (erP parts)
 | .lits own t n parts=>.lits own t.sz n (zer t) (parts.map λx=>(x.1,erO x.2))
 | .load agg t x=>.load agg t.sz (erO x)
 | .store t x v=>.store t.sz (erO x) (erO v)
 | .nilchk x=>.nilchk (erO x)
 | .bin op bt x y=>.bin op (erT bt) (erO x) (erO y)
 | .un op x=>.un op (erO x)
 | .conv k x=>.conv k (erO x)
 | .mkslice own t bytes l c=>.mkslice own t.sz bytes (zer t) (erO l) (erO c)
 | .slice k x lo hi mx=>.slice (erK k) (erO x) (lo.map erO) (hi.map erO) (mx.map erO)
 | .faddr off x=>.faddr off (erO x)
 | .field agg off t x=>.field agg off t.sz (erO x)
 | .iaddr t x i=>.iaddr t.sz (erO x) (erO i)
 | .aaddr len esz x i=>.aaddr len esz (erO x) (erO i)
 | .sidx x i=>.sidx (erO x) (erO i)
 | .aidx agg len t x i=>.aidx agg len t.sz (erO x) (erO i)
 | .extr x i=>.extr (erO x) i
 | .call f args k=>.call f (args.map erO) k
 | .callo f args k=>.callo f (args.map (·.2)) (args.map λx=>erO x.1) k
 | .callv g args k=>.callv (erO g) (args.map erO) k
 | .len str x=>.len str (erO x)
 | .alen n=>.alen n
 | .app t bytes x y=>.app t.sz bytes (zer t) (erO x) (erO y)
 | .appn t bytes y=>.appn t.sz bytes (zer t) (erO y)
 | .appz t bytes x y=>.appz t.sz bytes (zer t) (erO x) (erO y)
 | .appc t bytes x y=>.appc t.sz bytes (zer t) (erO x) (erO y)
 | .mm mx x y=>.mm mx (erO x) (erO y)
 | .mkfn f first caps=>.mkfn f (first.map erO) (caps.map erO)
 | .newboxo t os=>.newboxo (zer t) (kX os)
 | .buildo t parts os=>.buildo (zer t) (erP parts) (kX os)
 | .storen t x=>.storen t.sz (erO x)
def cD:TOp->Nat| .newbox _| .box _ _| .mkarr _ _| .appn _ _ _| .appc _ _ _ _=>1| .lits own _ _ _=>if own=true then 1 else 0| .mkslice own _ _ _ _=>if own=true then 1 else 0| .conv (.toBytes own) _=>if own=true then 1 else 0| .call _ _ k| .callv _ _ k| .callo _ _ k=>k| .newboxo _ os=>os.length+1| .buildo _ _ os=>os.length| .storen _ _=>1|_=>0
theorem KU(op:TOp):lA (erp op)=cD op:=by
 cases op<;>try rfl
 rename_i k x;cases k<;>rfl
 all_goals simp[erp,cD,kX]
def uU:List (TO×Bool)->TSt->Option (List (TV×Bool))|[],_=>some []|(o,x)::r,s=>match tev o s,uU r s with|some v,some l=>some ((v,x)::l)|_,_=>none
theorem yW{s:TSt}: ∀{xs:List (TO×Bool)} {l:List (TV×Bool)},uU xs s=some l->
  (evs (xs.map λx=>erO x.1)).run (JD s)=some (l.map λx=>aT (lns s.sto) x.1)/\l.map (·.2)=xs.map (·.2)
 |[],l,h=>by injection h with h;simp_all
 |(o,x)::q,l,h=>by
  simp only[uU]at h;split at h;rename_i v l' e g;injection h with h;subst h;obtain⟨h1,h2⟩:=yW g;exact⟨by simp only[bU,evs,run_bind,bW e,JQ,h1,bI],by simp[h2]⟩;cases h
section
variable {R:Type}
def top(G:TG)(op:TOp)(d:Option Nat)(new:Nat)(s:TSt)(k:TSt->Option R):Option R:=
 match op with
 | .mv x=>match tev x s with|some v=>k (bA d v s)|none=>none
 | .mkarr t _=>B6 t d new s k
 | .pick c a b=>match tev c s with|some (.a (.c (.d .b x)))=>ly x (tev a s) (tev b s) λv=>k (bA d v s)|_=>none
 | .newbox t=>Eh t d new s k
 | .box t x=>match tev x s with|some v=>jk t v d new s k|none=>none
 | .build t parts=>XN t parts d s k
 | .lits own t n parts=>mj own t n parts d new s k
 | .load agg t x=>match tev x s with|some v=>mg agg t v d s k|none=>none
 | .store t x y=>match tev x s,tev y s with|some v,some u=>XL t v u d s k|_,_=>none
 | .nilchk x=>match tev x s with|some v=>kr v λv=>k (bA d v s)|none=>none
 | .bin op bt x y=>match tev x s,tev y s with|some v,some u=>kw op bt v u λv=>k (bA d v s)|_,_=>none
 | .un op x=>match tev x s with|some v=>tUn op v λv=>k (bA d v s)|none=>none
 | .conv c x=>match tev x s with|some v=>md c v d new s k|none=>none
 | .mkslice own t bytes l c=>match tev l s,tev c s with|some v,some u=>ZJ own t bytes v u d new s k|_,_=>none
 | .slice e x lo hi mx=>match tev x s,tbn lo s,tbn hi s,tbn mx s with|some v,some a,some b,some c=>WZ e v a b c d s k|_,_,_,_=>none
 | .faddr off x=>match tev x s with|some v=>XK off v λv=>k (bA d v s)|none=>none
 | .field agg off t x=>match tev x s with|some v=>XO agg off t v d s k|none=>none
 | .iaddr t x i=>match tev x s,tev i s with|some v,some u=>XM t v u s λv=>k (bA d v s)|_,_=>none
 | .aaddr len esz x i=>match tev x s,tev i s with|some v,some u=>XW len esz v u λv=>k (bA d v s)|_,_=>none
 | .sidx x i=>match tev x s,tev i s with|some v,some u=>mu v u λv=>k (bA d v s)|_,_=>none
 | .aidx agg len t x i=>match tev x s,tev i s with|some v,some u=>ma agg len t v u d s k|_,_=>none
 | .extr x i=>match tev x s with|some v=>me v i λv=>k (bA d v s)|none=>none
 | .call f args n=>match uU (args.map λx=>(x,false)) s with|some l=>CX G f l false n d new s k|none=>none
 | .callo f args n=>match uU args s with|some l=>CX G f l true n d new s k|none=>none
 | .callv g args n=>match tev g s,uU (args.map λx=>(x,false)) s with|some (.a (.fn f a c)),some l=>CX G f (a.map (λx=>(.a (.c x),false))++l++c.map (λx=>(.a (.c x),false))) false n d new s k|some (.a (.c (.fn f))),some l=>CX G f l false n d new s k|_,_=>none
 | .len str x=>match tev x s with|some v=>ki str v s λv=>k (bA d v s)|none=>none
 | .alen n=>k (bA d (vi .i64 n) s)
 | .app t bytes x y=>match tev x s,tev y s with|some v,some u=>SY t bytes v u d s k|_,_=>none
 | .appn t bytes y=>match tev y s with|some u=>li t bytes u d new s k|none=>none
 | .appz t bytes x y=>match tev x s,tev y s with|some v,some u=>lh t bytes v u d s k|_,_=>none
 | .appc t bytes x y=>match tev x s,tev y s with|some v,some u=>mn t bytes v u d new s k|_,_=>none
 | .mm mx x y=>match tev x s,tev y s with|some v,some u=>tMm mx v u λv=>k (bA d v s)|_,_=>none
 | .mkfn f first caps=>match tcl first s,tcl caps s with|some a,some c=>k (bA d (.a (.fn f a c)) s)|_,_=>none
 | .newboxo t os=>cw t os d new s k
 | .buildo t parts os=>ZA t parts os d new s k
 | .storen t x=>match tev x s with|some v=>YP t v d new s k|none=>none
theorem di{F:Orc}{f:FuncId}{vs xs g:List AV}{ws:List (Nat×Blk)}{h es:List Ent}{blks:List Blk}{v:AV}{res:Res}{j fresh:List (Nat×Blk)}{n new:Nat}{st:St}
  (h1:(jZ vs).run st=some (xs,ws)) (h2:(eM ws (cQ.entsOfL xs []) (cQ.entsOfL xs [])).run st=some h) (h3:(eM ws h h).run st=some es) (h4:jK (es.map Ent.id)=true)
  (h5:ren.renL (λe=>dV e es 0) xs=some g) (w:(kH ws (λe=>dV e es 0) es).run st=some blks) (q:F f g blks=some res) (r:res.2.length=es.length+n)
  (x:bk es new res.1=some v) (k:hI es new new (res.2.drop es.length)=some fresh) (o:(iU ws es new es res.2).run st=some j):
  (iC F f vs n new).run st=some ⟨v,ws++j++fresh⟩:=by
 simp_all [iC]
theorem JEO{F:Orc}{f:FuncId}{xs g:List AV}{ws:List (Nat×Blk)}{h es:List Ent}{blks:List Blk}{v:AV}{res:Res}{j fresh:List (Nat×Blk)}{n new:Nat}{st:St}
  (h2:(eM ws (cQ.entsOfL xs []) (cQ.entsOfL xs [])).run st=some h) (h3:(eM ws h h).run st=some es) (h4:jK (es.map Ent.id)=true)
  (h5:ren.renL (λe=>dV e es 0) xs=some g) (w:(kH ws (λe=>dV e es 0) es).run st=some blks) (q:F f g blks=some res) (r:es.length<=res.2.length/\res.2.length<=es.length+n)
  (x:bk es new res.1=some v) (k:hI es new new (res.2.drop es.length)=some fresh) (o:(iU ws es new es res.2).run st=some j):
  (fW F f (xs,ws) n new).run st=some ⟨v,ws++j++fresh⟩:=by
 simp_all [fW]
theorem QJ(args:List TO):(args.map λx=>(x,false)).map (λx:TO×Bool=>erO x.1)=args.map erO:=by simp_all
theorem JJV{F:Orc}{G:TG}(K:GOk F G){op:TOp}{d:Option Nat}{new:Nat}{s:TSt}{k:TSt->Option R}{r:R}(hd:nH s new (cD op)=true)(h:top G op d new s k=some r):Ok (opR F (erp op) new) d s k r:=by
 have a3: ∀j,j<cD op->new+j<s.sto.length:=λj hj=>JC (vZ hd j hj);unfold top at h;split at h;split at h;rename_i x _ v o;refine fP (v:=v) ?_ h;simp only[erp,opR,run_bind,bW o,JQ,bI];cases h;exact JDk F (by simp_all [cD]) h;split at h;rename_i hc;exact JGZ F hc h;cases h;exact JBl F (by have:=vZ hd 0 (by simp[cD]);simp_all) h;split at h;rename_i o;exact JHE F (by have:=vZ hd 0 (by simp[cD]);simp_all) o h;cases h;exact JDZ F new h;rename_i own t n parts;exact JFB F (λY=>by simp_all [cD]) h;split at h;rename_i o;obtain⟨e,s',h1,h2,h3⟩:=JGX h;exact⟨e,s',by grind [erp,opR,run_bind,bW],h2,h3⟩;cases h;split at h;rename_i o q;obtain⟨e,s',h1,h2,h3⟩:=JDo h;exact⟨e,s',by grind [erp,opR,run_bind,bW],h2,h3⟩;cases h;split at h;rename_i o;exact JHH F o h;cases h;split at h;rename_i o q;obtain⟨e,s',h1,h2,h3⟩:=(JIk h).ok;exact⟨e,s',by grind [erp,opR,run_bind,bW],h2,h3⟩;cases h;split at h;rename_i o;obtain⟨e,s',h1,h2,h3⟩:=(JKt h).ok;exact⟨e,s',by grind [erp,opR,run_bind,bW],h2,h3⟩;cases h;split at h;rename_i o;exact JFQ F o (λY=>by simp_all [cD]) h;cases h;split at h;rename_i o q;exact Fo F o q (λY=>by simp_all [cD]) h;cases h;split at h;rename_i h1 h2 h3 h4;exact JDR F h1 h2 h3 h4 h;cases h;split at h;rename_i o;obtain⟨e,s',h1,h2,h3⟩:=(JDP h).ok;exact⟨e,s',by grind [erp,opR,run_bind,bW],h2,h3⟩;cases h;split at h;rename_i o;obtain⟨e,s',h1,h2,h3⟩:=JDC h;exact⟨e,s',by grind [erp,opR,run_bind,bW],h2,h3⟩;cases h;split at h;rename_i o q;obtain⟨e,s',h1,h2,h3⟩:=JDz h;exact⟨e,s',by grind [erp,opR,run_bind,bW],h2,h3⟩;cases h;split at h;rename_i o q;obtain⟨e,s',h1,h2,h3⟩:=(JE3 h).ok;exact⟨e,s',by grind [erp,opR,run_bind,bW],h2,h3⟩;cases h;split at h;rename_i o q;exact JHc F o q h;cases h;split at h;rename_i o q;exact JGf F o q h;cases h;split at h;rename_i o;obtain⟨e,s',h1,h2,h3⟩:=(JH0 h).ok;exact⟨e,s',by grind [erp,opR,run_bind,bW],h2,h3⟩;cases h;rename_i f args n;split at h;rename_i l E;obtain⟨B,L⟩:=yW E;rw[QJ]at B;obtain⟨xs,ws,H,es,A,blks,v,res,C,fresh,D,V,U,S,Q,P,N,T,M,J,I,s',y,w⟩:=RQ K hd h;rw[LV _ _ (λx Z=>by simp_all)]at D;refine⟨_,s',?_,y,w⟩;grind [erp,opR,run_bind,di,cD];cases h;rename_i f args n;split at h;rename_i l E;obtain⟨B,L⟩:=yW E;obtain⟨xs,ws,H,es,A,blks,v,res,C,fresh,D,V,U,S,Q,P,N,T,M,J,I,s',y,w⟩:=RQ K hd h;rw[L]at D;refine⟨_,s',?_,y,w⟩;simp_all [erp,JEO,cD];cases h;rename_i g args n;split at h;rename_i f a c l O E;obtain⟨B,L⟩:=yW E;rw[QJ]at B;obtain⟨xs,ws,H,es,A,blks,v,res,C,fresh,D,V,U,S,Q,P,N,T,M,J,I,s',y,w⟩:=RQ K hd h;have W: ∀z:List TC,(z.map (λx=>((TV.a (.c x),false):TV×Bool))).map (λx=>aT (lns s.sto) x.1)=z.map (aX (lns s.sto)):=λz=>by rw[yE];rfl
 rw[LV _ _ (λx Z=>by
  grind),CI,CI,W,W]at D
 refine⟨_,s',?_,y,w⟩;simp only[erp,opR,run_bind,bW O,JQ,j8,B];grind [di,cD];rename_i f l O E;obtain⟨B,L⟩:=yW E;rw[QJ]at B;obtain⟨xs,ws,H,es,A,blks,v,res,C,fresh,D,V,U,S,Q,P,N,T,M,J,I,s',y,w⟩:=RQ K hd h;rw[LV _ _ (λx Z=>by simp_all)]at D;refine⟨_,s',?_,y,w⟩;simp only[erp,opR,run_bind,bW O,JQ,Ba,B,nC,lV];grind [di,cD];cases h;split at h;rename_i o;obtain⟨e,s',h1,h2,h3⟩:=(JHC h).ok;exact⟨e,s',by grind [erp,opR,run_bind,bW],h2,h3⟩;cases h;rename_i n;exact fP (v:=vi .i64 n) rfl h;split at h;rename_i o q;obtain⟨e,s',h1,h2,h3⟩:=Dw h;exact⟨e,s',by grind [erp,opR,run_bind,bW],h2,h3⟩;cases h;split at h;rename_i q;exact JFl F q (by simp_all [cD]) h;cases h;split at h;rename_i o q;exact JGd F o q h;cases h;split at h;rename_i o q;exact JG5 F o q (by simp_all [cD]) h;cases h;split at h;rename_i o q;obtain⟨e,s',h1,h2,h3⟩:=(JKT h).ok;exact⟨e,s',by grind [erp,opR,run_bind,bW],h2,h3⟩;cases h;rename_i f first caps
 split at h;rename_i a c ha hc;refine fP (v:=.a (.fn f a c)) ?_ h;simp_all [erp,Cz,j8];cases h;exact Fq F hd h;exact JBg F hd h;split at h;rename_i o;exact JBf F (by have:=vZ hd 0 (by simp[cD]);simp_all) o h;cases h
structure jC where
 op:TOp
 dst:Option Nat
 g:Option (Nat×Bool)
def eri(i:jC):cA:=⟨erp i.op,i.dst,i.g⟩
def rbE(g:Nat)(v:TV):List (Nat×TV)->List (Nat×TV)|[]=>[]|(m,u)::r=>if m=g then(m,v)::r else(m,u)::rbE g v r
def rb(g:Nat)(v:TV)(s:TSt):TSt:=⟨rbE g v s.env,s.sto⟩
theorem XE{g:Nat}{v:TV}{s:TSt}(h:tlk g s.env=some v):rb g v s=s:=by
 have e: ∀env:List (Nat×TV),tlk g env=some v->rbE g v env=env:=by
  intro env
  induction env with
  |nil=>intro h;cases h
  |cons x r ih=>
   grind [tlk,rbE]
 simp_all [rb]
def SS(G:TG)(i:jC)(new:Nat)(s:TSt)(k:TSt->Option R):Option R:=
 match i.g with
 |none=>if nH s new (cD i.op)=true then top G i.op i.dst new s k else none
 |some (g,e)=>match tlk g s.env with
  |some (.a (.c (.d .b x)))=>if x=e then
   (if nH s new (cD i.op)=true then top G i.op i.dst new (rb g (vb e) s) k else none)
   else k (bA i.dst uv (rb g (vb !e) s))
  |some (.tup [])=>k (bA i.dst uv s)
  |_=>none
theorem ob{F:Orc}{G:TG}(B:GOk F G){i:jC}{new:Nat}{s:TSt}{k:TSt->Option R}{r:R}(h:SS G i new s k=some r):Ok (cB F (eri i) new) i.dst s k r:=by
 have A: ∀{s:TSt},nH s new (cD i.op)=true->top G i.op i.dst new s k=some r->Ok (opD F (erp i.op) new) i.dst s k r:=(by intro s q h;obtain⟨e,s',h1,h2,h3⟩:=JJV B q h;refine⟨e,s',?_,h2,h3⟩;grind [opD,run_bind,KU,po]);unfold SS at h;split at h;grind [cB,eri];rename_i g n z;split at h;rename_i x j;have o:lk g (JD s).env=some (.p (.b x)):=by show lk g (fV _ s.env)=_;rw[yS,j];rfl
 split at h;rename_i w;subst w;rw[XE j]at h;split at h;rename_i q;obtain⟨e,s',h1,h2,h3⟩:=A q h;refine⟨e,s',?_,h2,h3⟩;grind [cB,eri,wB];cases h;rename_i w;have y:x= !n:=by clear o j h;cases x<;>cases n<;>first|rfl|grind
 subst y;rw[XE j]at h;refine fP (v:=uv) ?_ h;simp only[cB,eri,z,wB,o,JQ];rw[if_neg w];rfl;rename_i j;have o:lk g (JD s).env=some (.tup []):=by show lk g (fV _ s.env)=_;rw[yS,j];rfl
 refine fP (v:=uv) ?_ h;simp only[cB,eri,z,wB,o,JQ,bI];rfl;cases h
def UR(G:TG):List jC->Nat->TSt->(TSt->Option R)->Option R|[],_,s,k=>k s|i::r,new,s,k=>SS G i new s λs=>UR G r (new+cD i.op) s k
theorem Dp{F:Orc}{G:TG}(g:GOk F G): ∀{ins:List jC} {new:Nat} {s:TSt} {k:TSt->Option R} {r:R},UR G ins new s k=some r-> ∃s',gB F (ins.map eri) new (JD s)=some (JD s')/\k s'=some r
 |[],new,s,k,r,h=>⟨s,rfl,h⟩
 |i::q,new,s,k,r,h=>by
  simp only[UR]at h;obtain⟨e,s1,h1,h2,h⟩:=ob g h;obtain⟨j,h3,n⟩:=Dp g h;grind [gB,eri,KU]
def II:List jC->Nat|[]=>0|i::r=>cD i.op+II r
theorem db: ∀ins:List jC,news (ins.map eri)=II ins
 |[]=>rfl
 |i::r=>by
  simp only[bU,news,II,db r];grind [eri,KU]
def NL(n:Nat)(s:TSt):TSt:=if n=0 then s else⟨s.env,s.sto++List.replicate n .dead⟩
theorem I8(sto:List TB)(n:Nat):lns (sto++List.replicate n .dead)=lns sto:=by
 funext c
 unfold lns;rcases zQ3 c sto.length with h|h;grind;rw[oB h,oM h,List.getElem?_replicate];split<;>rfl
theorem p7(n:Nat)(s:TSt):JD (NL n s)=⟨(JD s).env,room n (JD s).sto⟩:=by
 unfold NL room;split;rfl;unfold JD;rw[I8];simp only[CI,GF];rfl
end
end Go.Am
end
section
namespace Go.Am
def Rb{α:Type}(S:Nat->Prop)(m:RM α)(st:St):Prop:= ∀b,Loc.blk b∈m.reads st->S b
section
variable {α β:Type} {S:Nat->Prop} {st:St}
theorem bR(a:α):Rb S (.ret a) st:=λb h=>by simp[RM.reads]at h
theorem bH:Rb S (.fail:RM α) st:=λb h=>by simp[RM.reads]at h
theorem bY{m:RM α}{f:α->RM β}(h:Rb S m st)(hf: ∀a,m.run st=some a->Rb S (f a) st):Rb S (m.bind f) st:=by
 intro b e;rw[wH]at e;rcases cN.1 e with e|e;exact h b e;cases hm:m.run st with
 |none=>rw[hm]at e;simp at e
 |some a=>rw[hm]at e;exact hf a hm b (by simpa using e)
theorem oY{b:Nat}{k:Blk->RM α}(hb:S b)(h: ∀v,st.sto[b]?=some v->Rb S (k v) st):Rb S (.blk b k) st:=by
 intro c e;simp only[RM.reads,dZ]at e;rcases e with e|e;injection e with e;subst e;exact hb;cases hv:st.sto[b]? with
 |none=>rw[hv]at e;simp at e
 |some v=>rw[hv]at e;exact h v hv c e
theorem oq{n:Nat}{k:AV->RM α}(h: ∀v,lk n st.env=some v->Rb S (k v) st):Rb S (.slot n k) st:=by
 intro c e;simp only[RM.reads,dZ]at e;rcases e with e|e;cases e;cases hv:lk n st.env with
 |none=>rw[hv]at e;simp at e
 |some v=>rw[hv]at e;exact h v hv c e
theorem OX(x:Option AV):Rb S (val x) st:=by cases x<;>first|exact bH|exact bR _
theorem kD(x:Opd):Rb S (ev x) st:=by cases x<;>first|exact bR _|exact oq λv _=>bR v
theorem YB: ∀xs:List Opd,Rb S (evs xs) st|[]=>bR _|x::r=>bY (kD x) λv _=>bY (YB r) λvs _=>bR _
theorem WY(x:Option Opd):Rb S (evo x) st:=by
 cases x with
 |none=>exact bR _
 |some x=>exact bY (kD x) λv _=>bR _
end
def fR:AV->List Nat| .ptr b _=>[b]| .slr b _ _=>[b]| .ep b _ _ _=>[b]|_=>[]
def avR:AV->List Nat| .agg cs=>cs.flatMap fR|x=>fR x
section
variable {S:Nat->Prop} {st:St}
theorem JIY{x:AV}(h: ∀b∈fR x,S b):Rb S (fz.fz1 x) st:=by
 cases x with
 |slr b i n=>
  refine oY (h b (by simp[fR])) λv _=>?_;cases v with
  |arr w esz rows=>dsimp only;split<;>first|exact bR _|exact bH
  |_=>exact bH
 |p c=>exact bR _
 |_=>exact bH
theorem Cb: ∀{xs:List AV},(∀b∈xs.flatMap fR,S b)->Rb S (fz.fzL xs) st|[],_=>bR _|x::r,h=>bY (JIY λb e=>h b (by simp[e])) λa _=>bY (Cb λb e=>h b (by simp only[List.flatMap_cons,cN];exact .inr e)) λc _=>bR _
theorem ID{x:AV}(h: ∀b∈avR x,S b):Rb S (fz x) st:=by
 cases x with
 |slr b i n=>
  refine oY (h b (by simp[avR,fR])) λv _=>?_;cases v with
  |arr w esz rows=>dsimp only;split<;>first|exact bR _|exact bH
  |_=>exact bH
 |p c=>exact bR _
 |data cs=>exact bR _
 |agg cs=>exact Cb h
 |_=>exact bH
theorem JKB{x:AV}{a:List PV×List (Nat×Blk)}(h:(fz.fz1 x).run st=some a): ∀y∈a.2,y.1∈fR x:=by
 cases x with
 |slr b i n=>
  simp only[fz.fz1,eR]at h;obtain⟨v,_,h⟩:=cK.1 h;cases v with
  |arr w esz rows=>
   dsimp only at h;split at h;injection h with h;subst h;simp[fR];cases h
  |_=>cases h
 |p c=>injection h with h;subst h;simp
 |_=>cases h
theorem C0: ∀{xs:List AV} {a:List PV×List (Nat×Blk)},(fz.fzL xs).run st=some a-> ∀y∈a.2,y.1∈xs.flatMap fR
 |[],a,h,y,g=>by injection h with h;subst h;simp at g
 |x::r,a,h,y,g=>by
  simp only[fz.fzL]at h;obtain⟨c,h1,h⟩:=bind_some h;obtain⟨e,h2,h⟩:=bind_some h;injection h with h;subst h;simp only[cN]at g;simp only[List.flatMap_cons,cN];rcases g with g|g;exact .inl (JKB h1 y g);exact .inr (C0 h2 y g)
theorem HU{x:AV}{a:List PV×List (Nat×Blk)}(h:(fz x).run st=some a): ∀y∈a.2,y.1∈avR x:=by
 cases x with
 |slr b i n=>
  simp only[fz,eR]at h;obtain⟨v,_,h⟩:=cK.1 h;cases v with
  |arr w esz rows=>
   dsimp only at h;split at h;injection h with h;subst h;simp[avR,fR];cases h
  |_=>cases h
 |p c=>injection h with h;subst h;simp
 |data cs=>injection h with h;subst h;simp
 |agg cs=>exact C0 h
 |_=>cases h
theorem ZC{esz:Nat}{x:AV}(h: ∀b∈avR x,S b):Rb S (dE esz x) st:=by
 unfold dE;split;split<;>first|exact bR _|exact bH
 split<;>first|exact bR _|exact bH
 refine oY (h _ (by simp[avR,fR])) λv _=>?_;split;split<;>first|exact bR _|exact bH
 exact bH;exact bH
theorem JI9{agg:Bool}{size:Nat}{x:AV}(h: ∀b∈avR x,S b):Rb S (gK agg size x) st:=by
 unfold gK;split;split<;>first|exact OX _|exact bH
 refine oY (h _ (by simp[avR,fR])) λv _=>?_;split;split<;>first|exact OX _|exact bH
 exact bH;refine oY (h _ (by simp[avR,fR])) λv _=>?_;split;split;split;split<;>first|exact OX _|exact bH
 exact bH;exact bH;exact bH;exact bH
theorem PD{x:Option AV}{e:Eff}(h:(val x).run st=some e):e.ws=[]:=by
 cases x with
 |none=>cases h
 |some v=>injection h with h;subst h;rfl
theorem JI0{agg:Bool}{size:Nat}{x:AV}{e:Eff}(h:(gK agg size x).run st=some e):e.ws=[]:=by
 unfold gK at h;split at h;split at h<;>first|exact PD h|cases h
 simp only[eR]at h;obtain⟨v,_,h⟩:=cK.1 h;split at h;split at h<;>first|exact PD h|cases h
 cases h;simp only[eR]at h;obtain⟨v,_,h⟩:=cK.1 h;split at h;split at h;split at h;split at h<;>first|exact PD h|cases h
 cases h;cases h;cases h;cases h
theorem JGx{size:Nat}{x v:AV}(h: ∀b∈avR x,S b)(hv: ∀b∈avR v,S b):Rb S (iE size x v) st:=by
 unfold iE;split;refine oY (h _ (by simp[avR,fR])) λy _=>?_;split;split;split;split<;>first|exact bR _|exact bH
 exact bH;exact bH;exact bH;refine oY (h _ (by simp[avR,fR])) λy _=>?_;split;split;split;refine bY (ID hv) λa _=>?_;split;split<;>first|exact bR _|exact bH
 exact bH;exact bH;exact bH;exact bH;exact bH
theorem JH8{size:Nat}{x v:AV}{e:Eff}(h:(iE size x v).run st=some e): ∀y∈e.ws,y.1∈avR x++avR v:=by
 unfold iE at h;split at h;simp only[eR]at h;obtain⟨w,_,h⟩:=cK.1 h;split at h;split at h;split at h;split at h;injection h with h;subst h;simp[avR,fR];cases h;cases h;cases h;cases h;simp only[eR]at h;obtain⟨w,_,h⟩:=cK.1 h;split at h;split at h;split at h;obtain⟨a,h1,h⟩:=bind_some h;split at h;split at h;injection h with h;subst h;intro y g;simp only[cN,lZ]at g⊢;rcases g with g|rfl;exact .inr (HU h1 y g);exact .inl (by simp[avR,fR]);cases h;cases h;cases h;cases h;cases h;cases h
theorem JER{esz:Nat}{x i:AV}(h: ∀b∈avR x,S b):Rb S (mC esz x i) st:=by
 unfold mC;split;split;split<;>first|exact bR _|exact bH
 exact bH;refine oY (h _ (by simp[avR,fR])) λv _=>?_;split;split<;>first|exact bR _|exact bH
 exact bH;exact bH
theorem JH2{esz:Nat}{x i:AV}{e:Eff}(h:(mC esz x i).run st=some e):e.ws=[]:=by
 unfold mC at h;split at h;split at h;split at h;injection h with h;subst h;rfl;cases h;cases h;simp only[eR]at h;obtain⟨v,_,h⟩:=cK.1 h;split at h;split at h;injection h with h;subst h;rfl;cases h;cases h;cases h
theorem JKD{esz bytes:Nat}{x y:AV}(h: ∀b∈avR x,S b)(hy: ∀b∈avR y,S b):Rb S (iN esz bytes x y) st:=by
 unfold iN;split;refine oY (h _ (by simp[avR,fR])) λv _=>?_;split;refine bY (ZC hy) λnew _=>?_;split<;>first|exact bR _|exact bH
 exact bH;exact bH
theorem JJz{esz bytes:Nat}{x y:AV}{e:Eff}(h:(iN esz bytes x y).run st=some e): ∀z∈e.ws,z.1∈avR x:=by
 unfold iN at h;split at h;simp only[eR]at h;obtain⟨v,_,h⟩:=cK.1 h;split at h;obtain⟨new,_,h⟩:=bind_some h;split at h;injection h with h;subst h;simp[avR,fR];cases h;cases h;cases h
theorem og: ∀{k new:Nat},(∀j,j<k->S (new+j))->Rb S (sO new k) st
 |0,_,_=>bR _
 |k+1,new,h=>oY (h 0 (by omega)) λv _=>by
  cases v with
  |dead=>exact og λj e=>by have:=h (j+1) (by omega);rwa[Nat.add_comm j 1,<-GJ]at this
  |_=>exact bH
theorem Ck: ∀{xs:List Opd},(∀x∈xs,∀v,(ev x).run st=some v-> ∀b∈avR v,S b)->Rb S (fzs xs) st|[],_=>bR _|x::r,h=>bY (kD x) λv e=>bY (ID (h x (by simp) v e)) λa _=>bY (Ck λy g=>h y (by simp[g])) λc _=>bR _
theorem XZ: ∀{xs:List Opd} {a:List (List PV)×List (Nat×Blk)},(∀x∈xs,∀v,(ev x).run st=some v-> ∀b∈avR v,S b)->(fzs xs).run st=some a-> ∀y∈a.2,S y.1
 |[],a,_,h,y,g=>by injection h with h;subst h;simp at g
 |x::r,a,j,h,y,g=>by
  simp only[fzs]at h;obtain⟨v,h0,h⟩:=bind_some h;obtain⟨c,h1,h⟩:=bind_some h;obtain⟨e,h2,h⟩:=bind_some h;injection h with h;subst h;simp only[cN]at g;rcases g with g|g;exact j x (by simp) v h0 _ (HU h1 y g);exact XZ (λz k=>j z (by simp[k])) h2 y g
theorem C1{x:AV}(h: ∀b∈avR x,S b):Rb S (jA x) st:=by
 cases x with
 |slr b i n=>refine bY (ID h) λa _=>?_;split<;>first|exact bR _|exact bH
 |agg cs=>exact bY (ID h) λa _=>bR _
 |tup cs=>exact bH
 |_=>exact bR _
theorem Dr{x:AV}{a:AV×List (Nat×Blk)}(h:(jA x).run st=some a): ∀y∈a.2,y.1∈avR x:=by
 cases x with
 |slr b i n=>
  simp only[jA]at h;obtain⟨c,h1,h⟩:=bind_some h;split at h;injection h with h;subst h;exact HU h1;cases h
 |agg cs=>simp only[jA]at h;obtain⟨c,h1,h⟩:=bind_some h;injection h with h;subst h;exact HU h1
 |tup cs=>cases h
 |_=>injection h with h;subst h;simp
theorem LE: ∀{m:List Bool} {xs:List AV},(∀x∈xs,∀b∈avR x,S b)->Rb S (fM m xs) st|_,[],_=>by unfold fM;exact bR _|[],x::r,h=>bY (C1 (h x (by simp))) λa _=>bY (LE λy e=>h y (by simp[e])) λc _=>bR _|true::m,x::r,h=>bY (LE λy e=>h y (by simp[e])) λc _=>bR _|false::m,x::r,h=>bY (C1 (h x (by simp))) λa _=>bY (LE λy e=>h y (by simp[e])) λc _=>bR _
theorem LG: ∀{m:List Bool} {xs:List AV} {a:List AV×List (Nat×Blk)},(∀x∈xs,∀b∈avR x,S b)->(fM m xs).run st=some a-> ∀y∈a.2,S y.1
 |m,[],a,_,h,y,g=>by unfold fM at h;injection h with h;subst h;simp at g
 |[],x::r,a,j,h,y,g=>by
  simp only[fM]at h;obtain⟨c,h1,h⟩:=bind_some h;obtain⟨e,h2,h⟩:=bind_some h;injection h with h;subst h;simp only[cN]at g;rcases g with g|g;exact j x (by simp) _ (Dr h1 y g);exact LG (λz k=>j z (by simp[k])) h2 y g
 |true::m,x::r,a,j,h,y,g=>by simp only[fM]at h;obtain⟨e,h2,h⟩:=bind_some h;injection h with h;subst h;exact LG (λz k=>j z (by simp[k])) h2 y g
 |false::m,x::r,a,j,h,y,g=>by
  simp only[fM]at h;obtain⟨c,h1,h⟩:=bind_some h;obtain⟨e,h2,h⟩:=bind_some h;injection h with h;subst h;simp only[cN]at g;rcases g with g|g;exact j x (by simp) _ (Dr h1 y g);exact LG (λz k=>j z (by simp[k])) h2 y g
theorem D9{ws:List (Nat×Blk)}{b:Nat}(h:S b):Rb S (pY ws b) st:=oY h λv _=>by split<;>exact bR _
theorem YZ{ws:List (Nat×Blk)}: ∀{r:List Nat} {acc:List Ent},(∀b∈r,S b)->Rb S (eM ws (r.map .whole) acc) st|[],acc,_=>bR _|b::r,acc,h=>by simp only[bU,eM];refine bY (D9 (h b (by simp))) λx _=>?_;cases x<;>exact YZ λc e=>h c (by simp[e])
theorem rz{ws:List (Nat×Blk)}{ρ:Ent->Option Nat}: ∀{r:List Nat},(∀b∈r,S b)->Rb S (kH ws ρ (r.map .whole)) st
 |[],_=>bR _
 |b::r,h=>by
  simp only[bU,kH,yJ];refine bY (bY (D9 (h b (by simp))) λx _=>?_) λx _=>bY (rz λc g=>h c (by simp[g])) λl _=>bR _;cases x with
  |box cs=>dsimp only;split<;>first|exact bR _|exact bH
  |arr w e rows=>exact bR _
  |dead=>exact bH
theorem sr{ws:List (Nat×Blk)}{es:List Ent}{new:Nat}: ∀{r:List Nat} {l:List Blk},Rb S (iU ws es new (r.map .whole) l) st
 |[],l=>by cases l<;>exact bR _
 |b::r,[]=>bH
 |b::r,x::l=>by
  simp only[bU,iU];refine bY ?_ λy _=>bY sr λg _=>bR _;cases x with
  |box cs=>simp only[sW];split<;>first|exact bR _|exact bH
  |arr w e rows=>exact bR _
  |dead=>exact bH
theorem su{ws:List (Nat×Blk)}{es:List Ent}{new:Nat}: ∀{r:List Nat} {l:List Blk} {g:List (Nat×Blk)},(iU ws es new (r.map .whole) l).run st=some g-> ∀y∈g,y.1∈r
 |[],l,g,h,y,j=>by
  have:g=[]:=by cases l<;>(injection h with h;exact h.symm)
  subst this;simp at j
 |b::r,[],g,h,_,_=>by cases h
 |b::r,x::l,g,h,y,j=>by
  simp only[bU,iU]at h;obtain⟨z,h1,h⟩:=bind_some h;obtain⟨k,h2,h⟩:=bind_some h;injection h with h;subst h;rcases dZ.1 j with rfl|j;cases x with
  |box cs=>
   simp only[sW]at h1;split at h1;injection h1 with h1;subst h1;simp;cases h1
  |arr w e rows=>injection h1 with h1;subst h1;simp
  |dead=>cases h1
  exact xU _ (su h2 y j)
theorem ga{es:List Ent}{new:Nat}: ∀{l:List Blk} {k:Nat} {n:List (Nat×Blk)},hI es new k l=some n-> ∀y∈n,∃j,j<l.length/\y.1=k+j
 |[],k,n,h,y,g=>by injection h with h;subst h;simp at g
 | .dead::l,k,n,h,_,_=>by cases h
 | .box cs::l,k,n,h,y,g=>by
  simp only[hI]at h;split at h;rename_i c q _ o;injection h with h;subst h;rcases dZ.1 g with rfl|g;exact⟨0,by simp,rfl⟩;obtain⟨j,r,e⟩:=ga o y g;exact⟨j+1,by simp;omega,by omega⟩;cases h
 | .arr w e rows::l,k,n,h,y,g=>by
  simp only[hI]at h;split at h;rename_i q o;injection h with h;subst h;rcases dZ.1 g with rfl|g;exact⟨0,by simp,rfl⟩;obtain⟨j,r,e⟩:=ga o y g;exact⟨j+1,by simp;omega,by omega⟩;cases h
theorem eo(e x:Ent)(l:List Ent)(h:e∈l):e∈vQ x l:=by unfold vQ;split<;>simp[h]
mutual
theorem JGR: ∀(x:AV) (l:List Ent) (e:Ent),e∈l->e∈cQ x l| .ptr b off,l,e,h=>eo e _ l h| .slr b i n,l,e,h=>eo e _ l h| .ep b g i off,l,e,h=>eo e _ l h| .fn f a c,l,e,h=>entsL_sub c _ e (entsL_sub a l e h)| .agg cs,l,e,h=>entsL_sub cs l e h| .tup cs,l,e,h=>entsL_sub cs l e h| .p _,l,e,h=>h| .data _,l,e,h=>h| .cp _ _,l,e,h=>h| .unk,l,e,h=>h
theorem entsL_sub: ∀(xs:List AV) (l:List Ent) (e:Ent),e∈l->e∈cQ.entsOfL xs l|[],l,e,h=>h|x::r,l,e,h=>entsL_sub r _ e (JGR x l e h)
end
theorem qb{ws:List (Nat×Blk)}: ∀{r acc l:List Ent},(eM ws r acc).run st=some l-> ∀e∈acc,e∈l:=by
 intro r
 induction r with
 |nil=>intro acc l h e g;injection h with h;subst h;exact g
 |cons x r ih=>
  intro acc l h e g;cases x with
  |whole b=>
   simp only[eM]at h;obtain⟨y,_,h⟩:=bind_some h;cases y with
   |box cs=>exact ih h e (entsL_sub cs acc e g)
   |_=>exact ih h e g
  |elem b j i=>exact ih h e g
theorem rm{F:Orc}{f:FuncId}{xs:List AV}{ws:List (Nat×Blk)}{e0 o ids:List Nat}{n new:Nat}(r: ∀b∈ids,S b)(hw: ∀y∈ws,S y.1)(hn: ∀j,j<n->S (new+j))
  (h0:cQ.entsOfL xs []=e0.map .whole) (h1:(eM ws (e0.map .whole) (e0.map .whole)).run st=some (o.map .whole)) (h2:(eM ws (o.map .whole) (o.map .whole)).run st=some (ids.map .whole)):
  Rb S (fW F f (xs,ws) n new) st/\(∀e,(fW F f (xs,ws) n new).run st=some e-> ∀y∈e.ws,S y.1):=by
 have s1: ∀b∈o,S b:=λb q=>by have:=qb h2 (.whole b) (jB.2 ⟨b,q,rfl⟩);obtain⟨c,w,e⟩:=jB.1 this;injection e with e;subst e;exact r c w
 have s0: ∀b∈e0,S b:=λb q=>by have:=qb h1 (.whole b) (jB.2 ⟨b,q,rfl⟩);obtain⟨c,w,e⟩:=jB.1 this;injection e with e;subst e;exact s1 c w
 constructor;unfold fW;simp only[h0];refine bY (YZ s0) λa g=>?_;rw[h1]at g;injection g with g;subst g;refine bY (YZ s1) λa g=>?_;rw[h2]at g;injection g with g;subst g;split;split;exact bH;refine bY (rz r) λbl _=>?_;split;exact bH;split;split;exact bY sr λ_ _=>bR _;exact bH;exact bH;exact bH;intro e h y k;unfold fW at h;simp only[h0]at h;obtain⟨a,g,h⟩:=bind_some h;rw[h1]at g;injection g with g;subst g;obtain⟨a,g,h⟩:=bind_some h;rw[h2]at g;injection g with g;subst g;split at h;split at h;cases h;obtain⟨bl,_,h⟩:=bind_some h;split at h;cases h;split at h;rename_i hlen;split at h;rename_i v fresh _ z;obtain⟨x,q,h⟩:=bind_some h;injection h with h;subst h;simp only[cN]at k;rcases k with(k|k)|k;exact hw y k;exact r _ (su q y k);obtain⟨j,A,e⟩:=ga z y k;rw[e];exact hn j (by simp only[yC,fA]at A hlen;omega);cases h;cases h;cases h
end
def tcR:TC->List Nat| .ptr b _=>[b]| .slr b=>[b]| .slo b _=>[b]| .ep b _ _=>[b]| .epo b _ _ _=>[b]|_=>[]
def tvR:TV->List Nat| .a (.c x)=>tcR x| .a (.m _ cs)=>cs.flatMap tcR|_=>[]
theorem JK8(L:Nat->Nat)(x:TC):fR (aX L x)=tcR x:=by cases x<;>rfl
theorem jL(L:Nat->Nat)(v:TV):avR (aT L v)=tvR v:=by
 cases v with
 |a x=>
  cases x with
  |c x=>cases x<;>rfl
  |dt t x=>rfl
  |m t cs=>
   show(cs.map (aX L)).flatMap fR=cs.flatMap tcR;rw[List.flatMap_map]
   congr 1
   funext x;exact JK8 L x
  |fn f a c=>rfl
 |tup vs=>rfl
def rng(new:Nat):Nat->List Nat|0=>[]|k+1=>new::rng (new+1) k
theorem qY: ∀{k new j:Nat},j<k->new+j∈rng new k
 |0,_,_,h=>by omega
 |k+1,new,j,h=>by
  cases j with
  |zero=>simp[rng]
  |succ j=>simp only[rng,dZ];right;rw[show new+(j+1)=new+1+j by omega];exact qY (by omega)
def hZ{α β:Type}(m:Option α)(f:α->Option β):Option β:=match m with|some x=>f x|none=>none
theorem iF{α β:Type}{m:Option α}{f:α->Option β}{b:β}(h:hZ m f=some b): ∃a,m=some a/\f a=some b:=by
 cases m with
 |none=>cases h
 |some a=>exact⟨a,rfl,h⟩
def ke(l:List (TV×Bool))(s:TSt):Option (List Nat):=HT l s λxs s1=>hZ (DV xs []) λe=>hZ (vH s1 e e) λi1=>vH s1 i1 i1
def tcU(l:List (TV×Bool))(n new:Nat)(s:TSt):Option (List Nat×List Nat):=hZ (ke l s) λids=>some (rng new n++(l.flatMap λx=>tvR x.1)++ids,rng new n++(l.flatMap λx=>tvR x.1)++ids)
def tpR(s:TSt):List (Nat×TO)->Option (List Nat)|[]=>some []|(_,o)::r=>hZ (tev o s) λv=>hZ (tpR s r) λl=>some (tvR v++l)
def uw(op:TOp)(new:Nat)(s:TSt):Option (List Nat×List Nat):=
 match op with
 | .load _ _ x=>hZ (tev x s) λv=>some (tvR v,[])
 | .newbox _=>some ([new],[new])
 | .store _ x y=>hZ (tev x s) λv=>hZ (tev y s) λu=>some (tvR v++tvR u,tvR v++tvR u)
 | .iaddr _ x _=>hZ (tev x s) λv=>some (tvR v,[])
 | .lits own t n ps=>hZ (tpR s ps) λl=>some (rng new (cD (.lits own t n ps))++l,rng new (cD (.lits own t n ps))++l)
 | .appn _ _ y=>hZ (tev y s) λv=>some (new::tvR v,[new])
 | .app _ _ x y=>hZ (tev x s) λv=>hZ (tev y s) λu=>some (tvR v++tvR u,tvR v)
 | .slice _ x _ _ _=>hZ (tev x s) λv=>some (tvR v,tvR v)
 | .call _ args n=>hZ (uU (args.map λx=>(x,false)) s) λl=>tcU l n new s
 | .callo _ args n=>hZ (uU args s) λl=>tcU l n new s
 | .mkslice own t bytes l c=>some (rng new (cD (.mkslice own t bytes l c)),rng new (cD (.mkslice own t bytes l c)))
 | .conv k x=>hZ (tev x s) λv=>some (rng new (cD (.conv k x))++tvR v,rng new (cD (.conv k x)))
 |_=>none
theorem nM{F:Orc}{op:TOp}{new:Nat}{st:St}{S:Nat->Prop}(hd: ∀j,j<cD op->S (new+j))(h:Rb S (opR F (erp op) new) st):Rb S (opD F (erp op) new) st:=by unfold opD;rw[KU];exact bY (og hd) λ_ _=>h
theorem nQ{F:Orc}{op:AOp}{new:Nat}{st:St}{e:Eff}(h:(opD F op new).run st=some e):(opR F op new).run st=some e:=by unfold opD at h;obtain⟨_,_,h⟩:=bind_some h;exact h
def UW(F:Orc)(op:AOp)(new:Nat)(st:St)(U W:List Nat):Prop:=Rb (· ∈U) (opD F op new) st/\ ∀e,(opD F op new).run st=some e-> ∀y∈e.ws,y.1∈W
theorem lE{x:TO}{s:TSt}{v:TV}(h:tev x s=some v){a:AV}(ha:(ev (erO x)).run (JD s)=some a):a=aT (lns s.sto) v:=by rw[bW h]at ha;injection ha with ha;exact ha.symm
theorem D5{l:List (TV×Bool)}{s:TSt}{ids:List Nat}(h:ke l s=some ids): ∃(xs:List AV) (ws:List (Nat×Blk)) (e i1:List Nat),(fM (l.map (·.2)) (l.map λx=>aT (lns s.sto) x.1)).run (JD s)=some (xs,ws)/\
  cQ.entsOfL xs []=e.map .whole/\(eM ws (e.map .whole) (e.map .whole)).run (JD s)=some (i1.map .whole)/\(eM ws (i1.map .whole) (i1.map .whole)).run (JD s)=some (ids.map .whole):=by
 unfold ke at h;obtain⟨xs,s1,ws,h1,g,h⟩:=ZU (Fzd.refl s) h;rw[nC]at g;obtain⟨e,h2,h⟩:=iF h;obtain⟨i1,h3,j⟩:=iF h;exact⟨_,ws,e,i1,h1,RC (lns s.sto) (l:=[]) h2,yZ g h3,yZ g j⟩
theorem JGE{F:Orc}{f:FuncId}{vs:List AV}{n new:Nat}{st:St}{S:Nat->Prop}{a:List AV×List (Nat×Blk)}(ha:(jZ vs).run st=some a)(hr:Rb S (jZ vs) st)
  (h: ∀(_:Unit),Rb S (fW F f a n new) st):Rb S (iC F f vs n new) st:=by
 unfold iC;refine bY hr λo j=>?_;rw[ha]at j;injection j with j;subst j;have h:=h ();unfold fW at h;intro b g;refine h b ?_
 revert g
 simp only[wH];intro g;rcases cN.1 g with g|g;exact cN.2 (.inl g);refine cN.2 (.inr ?_)
 revert g
 cases(eM a.2 (cQ.entsOfL a.1 []) (cQ.entsOfL a.1 [])).run st with
 |none=>intro g;exact g
 |some k=>
  simp only[dJ,TH,wH];intro g;rcases cN.1 g with g|g;exact cN.2 (.inl g);refine cN.2 (.inr ?_)
  revert g
  cases(eM a.2 k k).run st with
  |none=>intro g;exact g
  |some es=>
   simp only[dJ,TH];split;split;intro g;exact g;simp only[wH];intro g;rcases cN.1 g with g|g;exact cN.2 (.inl g);refine cN.2 (.inr ?_)
   revert g
   cases(kH a.2 (λe=>dV e es 0) es).run st with
   |none=>intro g;exact g
   |some bl=>
    simp only[dJ,TH];split;intro g;exact g;split;rename_i hlen;rw[if_pos (by omega)];intro g;exact g;intro g;simp[RM.reads]at g
   intro g;exact g
theorem JLn(F:Orc){op:TOp}{new:Nat}{s:TSt}{U W:List Nat}(h:uw op new s=some (U,W)):UW F (erp op) new (JD s) U W:=by
 unfold uw at h;split at h;rename_i agg t x;obtain⟨v,C,h⟩:=iF h;injection h with h;injection h with h1 h2;subst h1 h2;refine⟨nM (op:=.load agg t x) (λj B=>by simp[cD]at B) (bY (kD _) λa r=>?_),λe g y A=>?_⟩;rw[lE C r];exact JI9 λb w=>by rw[jL]at w;exact w
 have g:=nQ g;simp only[erp,opR]at g;obtain⟨a,r,g⟩:=bind_some g;rw[JI0 g]at A;simp at A;rename_i t;injection h with h;injection h with h1 h2;subst h1 h2;refine⟨nM (op:=.newbox t) (λj B=>by simp[cD]at B;subst B;simp) (bR _),λe g y A=>?_⟩;have g:=nQ g;injection g with g;subst g;simp only[lZ]at A;subst A;simp;rename_i t x y;obtain⟨v,C,h⟩:=iF h;obtain⟨u,K,h⟩:=iF h;injection h with h;injection h with h1 h2;subst h1 h2;refine⟨nM (op:=.store t x y) (λj B=>by simp[cD]at B) (bY (kD _) λa r=>bY (kD _) λc J=>?_),λe g z H=>?_⟩;rw[lE C r,lE K J];exact JGx (λb w=>by rw[jL]at w;simp[w]) (λb w=>by rw[jL]at w;simp[w]);have g:=nQ g;simp only[erp,opR]at g;obtain⟨a,r,g⟩:=bind_some g;obtain⟨c,J,g⟩:=bind_some g;have:=JH8 g z H;rwa[lE C r,lE K J,jL,jL]at this;rename_i t x i;obtain⟨v,C,h⟩:=iF h;injection h with h;injection h with h1 h2;subst h1 h2;refine⟨nM (op:=.iaddr t x i) (λj B=>by simp[cD]at B) (bY (kD _) λa r=>bY (kD _) λc J=>?_),λe g y A=>?_⟩;rw[lE C r];exact JER λb w=>by rw[jL]at w;exact w
 have g:=nQ g;simp only[erp,opR]at g;obtain⟨a,r,g⟩:=bind_some g;obtain⟨c,J,g⟩:=bind_some g;rw[JH2 g]at A;simp at A;rename_i own t n ps;obtain⟨l,E,h⟩:=iF h;injection h with h;injection h with h1 h2;subst h1 h2;have Q: ∀x∈ps.map (λx=>erO x.2),∀v,(ev x).run (JD s)=some v-> ∀b∈avR v,b∈rng new (cD (.lits own t n ps))++l:=by
  have Y: ∀(ps:List (Nat×TO)) (l:List Nat),tpR s ps=some l-> ∀x∈ps.map (λx=>erO x.2),∀v,(ev x).run (JD s)=some v-> ∀b∈avR v,b∈l:=by
   intro ps
   induction ps with
   |nil=>intro l _ x D;simp at D
   |cons p ps ih=>
    intro l E x D v C b w;obtain⟨i,o⟩:=p;simp only[tpR]at E;obtain⟨u,K,E⟩:=iF E;obtain⟨q,hq,E⟩:=iF E;injection E with E;subst E;simp only[bU,dZ]at D;rcases D with rfl|D;rw[lE K C,jL]at w;simp[w];simp[ih q hq x D v C b w]
  intro x D v C b w;exact cN.2 (.inr (Y ps l E x D v C b w))
 have I:(ps.map λx=>(x.1,erO x.2)).map (·.2)=ps.map λx=>erO x.2:=by simp
 refine⟨nM (op:=.lits own t n ps) (λj B=>cN.2 (.inl (qY B))) ?_,λe g y A=>?_⟩;simp only[erp,opR,I];refine bY (Ck Q) λa _=>?_;split;split<;>exact bR _
 exact bH;have g:=nQ g;simp only[erp,opR,I]at g;obtain⟨a,r,g⟩:=bind_some g;split at g;split at g;rename_i N;injection g with g;subst g;simp only[cN,lZ]at A;rcases A with A|rfl;exact XZ Q r y A;exact cN.2 (.inl (by have:=qY (k:=cD (.lits own t n ps)) (new:=new) (j:=0) (by simp[cD,N]);simpa using this));injection g with g;subst g;exact XZ Q r y A;cases g;rename_i t bytes y;obtain⟨v,C,h⟩:=iF h;injection h with h;injection h with h1 h2;subst h1 h2;refine⟨nM (op:=.appn t bytes y) (λj B=>by simp[cD]at B;subst B;simp) (bY (kD _) λa r=>?_),λe g z H=>?_⟩;rw[lE C r];refine bY (ZC λb w=>by rw[jL]at w;simp[w]) λrows _=>?_;split<;>first|exact bR _|exact bH
 have g:=nQ g;simp only[erp,opR]at g;obtain⟨a,r,g⟩:=bind_some g;obtain⟨rows,_,g⟩:=bind_some g;split at g;injection g with g;subst g;simp only[lZ]at H;subst H;simp;cases g;rename_i t bytes x y;obtain⟨v,C,h⟩:=iF h;obtain⟨u,K,h⟩:=iF h;injection h with h;injection h with h1 h2;subst h1 h2;refine⟨nM (op:=.app t bytes x y) (λj B=>by simp[cD]at B) (bY (kD _) λa r=>bY (kD _) λc J=>?_),λe g z H=>?_⟩;rw[lE C r,lE K J];exact JKD (λb w=>by rw[jL]at w;simp[w]) (λb w=>by rw[jL]at w;simp[w]);have g:=nQ g;simp only[erp,opR]at g;obtain⟨a,r,g⟩:=bind_some g;obtain⟨c,J,g⟩:=bind_some g;have:=JJz g z H;rwa[lE C r,jL]at this;rename_i kd x lo hi mx;obtain⟨v,C,h⟩:=iF h;injection h with h;injection h with h1 h2;subst h1 h2;refine⟨nM (op:=.slice kd x lo hi mx) (λj B=>by simp[cD]at B) (bY (kD _) λa r=>bY (WY _) λ_ _=>bY (WY _) λ_ _=>bY (WY _) λ_ _=>?_),λe g z H=>?_⟩;have e:=lE C r;split;refine bY (ID λb w=>?_) λy _=>?_;rw[e,jL]at w;exact w;split;split<;>first|exact bR _|exact bH
 exact bH;exact OX _;have g:=nQ g;simp only[erp,opR]at g;obtain⟨a,r,g⟩:=bind_some g;obtain⟨_,_,g⟩:=bind_some g;obtain⟨_,_,g⟩:=bind_some g;obtain⟨_,_,g⟩:=bind_some g;have e0:=lE C r;split at g;obtain⟨y,A,g⟩:=bind_some g;split at g;split at g;injection g with g;subst g;have:=HU A z H;rwa[e0,jL]at this;cases g;cases g;rw[PD g]at H;simp at H;rename_i f args n;obtain⟨l,E,h⟩:=iF h;unfold tcU at h;obtain⟨ids,hi,h⟩:=iF h;injection h with h;injection h with h1 h2;subst h1 h2;obtain⟨xs,ws,i0,i1,G,V,R,P⟩:=D5 hi;obtain⟨I,T⟩:=yW E;rw[QJ]at I;rw[LV _ _ (λx D=>by rw[T,yE]at D;obtain⟨y,_,rfl⟩:=jB.1 D;rfl)]at G;have L: ∀x∈l.map (λx=>aT (lns s.sto) x.1),∀b∈avR x,b∈rng new n++(l.flatMap λx=>tvR x.1)++ids:=by intro x D b w;obtain⟨y,A,rfl⟩:=jB.1 D;rw[jL]at w;simp only[cN];exact .inl (.inr (List.mem_flatMap.2 ⟨y,A,w⟩))
 have Z:Rb (· ∈rng new n++(l.flatMap λx=>tvR x.1)++ids) (jZ (l.map λx=>aT (lns s.sto) x.1)) (JD s):=by rw[<-RO];exact LE L
 have M: ∀y∈ws,y.1∈rng new n++(l.flatMap λx=>tvR x.1)++ids:=by rw[<-RO]at G;exact LG (S:=(· ∈rng new n++(l.flatMap λx=>tvR x.1)++ids)) L G
 obtain⟨c1,O⟩:=rm (F:=F) (f:=f) (S:=(· ∈rng new n++(l.flatMap λx=>tvR x.1)++ids)) (n:=n) (new:=new) (λb w=>by simp[w]) M
  (λj B=>by simp only[cN];exact .inl (.inl (qY B))) V R P
 refine⟨nM (op:=.call f args n) (λj B=>by simp only[cN];exact .inl (.inl (qY B))) (bY (YB _) λa r=>?_),λe g y A=>?_⟩;rw[I]at r;injection r with r;subst r;exact JGE G Z λ_=>c1;have g:=nQ g;simp only[erp,opR]at g;obtain⟨a,r,g⟩:=bind_some g;rw[I]at r;injection r with r;subst r;obtain⟨ar,h1,h2⟩:=Dk g;rw[G]at h1;injection h1 with h1;subst h1;exact O e h2 y A;rename_i f args n;obtain⟨l,E,h⟩:=iF h;unfold tcU at h;obtain⟨ids,hi,h⟩:=iF h;injection h with h;injection h with h1 h2;subst h1 h2;obtain⟨xs,ws,i0,i1,G,V,R,P⟩:=D5 hi;obtain⟨I,T⟩:=yW E;have L: ∀x∈l.map (λx=>aT (lns s.sto) x.1),∀b∈avR x,b∈rng new n++(l.flatMap λx=>tvR x.1)++ids:=by intro x D b w;obtain⟨y,A,rfl⟩:=jB.1 D;rw[jL]at w;simp only[cN];exact .inl (.inr (List.mem_flatMap.2 ⟨y,A,w⟩))
 rw[T]at G;have M: ∀y∈ws,y.1∈rng new n++(l.flatMap λx=>tvR x.1)++ids:=LG (S:=(· ∈rng new n++(l.flatMap λx=>tvR x.1)++ids)) L G;obtain⟨c1,O⟩:=rm (F:=F) (f:=f) (S:=(· ∈rng new n++(l.flatMap λx=>tvR x.1)++ids)) (n:=n) (new:=new) (λb w=>by simp[w]) M
  (λj B=>by simp only[cN];exact .inl (.inl (qY B))) V R P
 refine⟨nM (op:=.callo f args n) (λj B=>by simp only[cN];exact .inl (.inl (qY B))) (bY (YB _) λa r=>?_),λe g y A=>?_⟩;rw[I]at r;injection r with r;subst r;refine bY (LE L) λa r=>?_;rw[G]at r;injection r with r;subst r;exact c1;have g:=nQ g;simp only[erp,opR]at g;obtain⟨a,r,g⟩:=bind_some g;rw[I]at r;injection r with r;subst r;obtain⟨a,r,g⟩:=bind_some g;rw[G]at r;injection r with r;subst r;exact O e g y A;rename_i own t bytes l c;injection h with h;injection h with h1 h2;subst h1 h2;refine⟨nM (op:=.mkslice own t bytes l c) (λj B=>qY B) (bY (kD _) λa r=>bY (kD _) λd hd=>?_),λe g y A=>?_⟩;split;split;split<;>exact bR _
 exact bH;exact bH;have g:=nQ g;simp only[erp,opR]at g;obtain⟨a,r,g⟩:=bind_some g;obtain⟨d,hd,g⟩:=bind_some g;split at g;split at g;split at g;rename_i N;injection g with g;subst g;simp only[lZ]at A;subst A;have:=qY (k:=cD (.mkslice own t bytes l c)) (new:=new) (j:=0) (by simp[cD,N]);simpa using this;injection g with g;subst g;simp at A;cases g;cases g;rename_i k x;obtain⟨v,C,h⟩:=iF h;injection h with h;injection h with h1 h2;subst h1 h2;refine⟨nM (op:=.conv k x) (λj B=>cN.2 (.inl (qY B))) (bY (kD _) λa r=>?_),λe g y A=>?_⟩;have hr: ∀b∈avR a,b∈rng new (cD (.conv k x))++tvR v:=λb w=>by rw[lE C r,jL]at w;simp[w]
 split;exact bR _;exact bR _;refine bY (ZC hr) λrows _=>?_;split<;>first|exact bR _|exact bH
 split<;>exact bR _
 exact bH;have g:=nQ g;simp only[erp,opR]at g;obtain⟨a,r,g⟩:=bind_some g;split at g;injection g with g;subst g;simp at A;injection g with g;subst g;simp at A;obtain⟨rows,_,g⟩:=bind_some g;split at g;injection g with g;subst g;simp at A;cases g;split at g;rename_i N;injection g with g;subst g;simp only[lZ]at A;subst A;simp[cD,N,rng];injection g with g;subst g;simp at A;cases g;cases h
abbrev oC:=Option (List Nat×List Nat)
section
variable {R:Type}
def zv(i:jC)(s:TSt):Bool:=match i.g with|none=>false|some (g,e)=>if i.dst=some g then false else match tlk g s.env with|some (.a (.c (.d .b x)))=>if x=e then false else true|some (.tup [])=>true|_=>false
def uwI(i:jC)(new:Nat)(s s':TSt):oC:=if zv i s'=true then some ([],[])else uw i.op new s
def NY(G:TG):List jC->Nat->TSt->List oC->(TSt->List oC->Option R)->Option R|[],_,s,l,k=>k s l|i::r,new,s,l,k=>SS G i new s λs'=>NY G r (new+cD i.op) s' (l++[uwI i new s s']) k
def sN:oC->(List Nat×List Nat)->Prop|none,_=>True|some (U,W),x=>(∀b∈x.1,b∈U)/\ ∀b∈x.2,b∈W
def OK(l:List oC):List (Nat×Nat)->Bool
 |[]=>true
 |(i,j)::r=>(match l[i]?,l[j]? with
  |some (some a),some (some b)=>gG a.2 b.1&&gG a.2 b.2&&gG a.1 b.2
  |_,_=>false)&&OK l r
theorem LQ{b:Nat}: ∀{l:List Loc},b∈jO l->Loc.blk b∈l
 | .blk c::r,h=>by
  simp only[jO,dZ]at h;rcases h with rfl|h;simp;simp[LQ h]
 | .slot n::r,h=>by simp only[jO]at h;simp[LQ h]
theorem sN.snoc{l:List oC}{l0:Log}{x:oC}{y:List Nat×List Nat}(hl:l.length=l0.length)(ho: ∀(j:Nat) a b,l[j]?=some a->l0[j]?=some b->sN a b)(hx:sN x y)(j:Nat)(a:oC)(b:List Nat×List Nat)(ha:(l++[x])[j]?=some a)(hb:(l0++[y])[j]?=some b):sN a b:=by
 rcases zQ3 j l.length with g|g;rw[uR g]at ha;rw[uR (by omega)]at hb;exact ho j a b ha hb;rw[oB g]at ha;rw[oB (by omega)]at hb;have e:j-l.length=0:=by have:=JC ha;simp at this;omega
 rw[e]at ha;rw[<-hl,e]at hb;simp at ha hb;subst ha hb;exact hx
theorem JIA{F:Orc}{i:jC}{new:Nat}{s s':TSt}{e:Eff}(h:(cB F (eri i) new).run (JD s)=some e)(hp:put i.dst e (JD s)=JD s'):sN (uwI i new s s') (jO ((cB F (eri i) new).reads (JD s)),e.ws.map (·.1)):=by
 unfold uwI;split;rename_i k;unfold zv at k;split at k;cases k;rename_i g o C;split at k;cases k;rename_i G;have D:lk g (JD s').env=lk g (JD s).env:=(by rw[<-hp];unfold put;split;rename_i d B;show lk g ((d,e.val)::(JD s).env)=_;simp only[lk];rw[if_neg (λH=>G (by rw[B,H]))];rfl);have r: ∀v,tlk g s'.env=some v->lk g (JD s).env=some (aT (lns s'.sto) v):=λv z=>by rw[<-D];show lk g (fV _ s'.env)=_;rw[yS,z];rfl
 split at k;rename_i x w;split at k;cases k;rename_i E;have n:=r _ w;rw[e_b]at n;have hi:cB F (eri i) new=.slot g fun
  | .p (.b x)=>if x=o then opD F (eri i).op new else .ret ⟨gM,[]⟩
  | .tup []=>.ret ⟨gM,[]⟩
  |_=>.fail:=by unfold cB;rw[show(eri i).g=i.g from rfl,C];rfl
 rw[hi]at h⊢;refine⟨λb j=>?_,λb j=>?_⟩;have:=LQ j;simp only[RM.reads,n,dZ,if_neg E]at this;rcases this with this|this;cases this;simp at this;simp only[wB,n,JQ,if_neg E,bI]at h;injection h with h;subst h;exact j;rename_i w;have n:=r _ w;have n:lk g (JD s).env=some (.tup []):=n;have hi:cB F (eri i) new=.slot g fun
  | .p (.b x)=>if x=o then opD F (eri i).op new else .ret ⟨gM,[]⟩
  | .tup []=>.ret ⟨gM,[]⟩
  |_=>.fail:=by unfold cB;rw[show(eri i).g=i.g from rfl,C];rfl
 rw[hi]at h⊢;refine⟨λb j=>?_,λb j=>?_⟩;have:=LQ j;simp only[RM.reads,n,dZ]at this;rcases this with this|this;cases this;simp at this;simp only[wB,n,JQ,bI]at h;injection h with h;subst h;exact j;cases k;cases hu:uw i.op new s with
 |none=>trivial
 |some A=>
  obtain⟨U,W⟩:=A;obtain⟨h1,h2⟩:=JLn F hu;have I:Rb (· ∈U) (cB F (eri i) new) (JD s):=(by unfold cB;split;exact h1;refine oq λv z=>?_;split;split;exact h1;exact bR _;exact bR _;exact bH);refine⟨λb j=>I b (LQ j),λb j=>?_⟩;obtain⟨y,q,rfl⟩:=jB.1 j;unfold cB at h;split at h;exact h2 e h y q;simp only[wB]at h;obtain⟨v,z,h⟩:=cK.1 h;split at h;split at h;exact h2 e h y q;injection h with h;subst h;simp at q;injection h with h;subst h;simp at q;cases h
theorem pp{F:Orc}{G:TG}(v:GOk F G): ∀{ins:List jC} {new:Nat} {s:TSt} {l:List oC} {l0:Log} {k:TSt->List oC->Option R} {r:R},l.length=l0.length->(∀(j:Nat) a b,l[j]?=some a->l0[j]?=some b->sN a b)->
  NY G ins new s l k=some r-> ∃s' l' g,jM F (ins.map eri) new (JD s) l0=some (JD s',l')/\k s' g=some r/\g.length=l'.length/\ ∀(j:Nat) a b,g[j]?=some a->l'[j]?=some b->sN a b
 |[],new,s,l,l0,k,r,n,o,h=>⟨s,l0,l,rfl,h,n,o⟩
 |i::q,new,s,l,l0,k,r,n,o,h=>by simp only[NY]at h;obtain⟨e,s1,h1,h2,h⟩:=ob v h;obtain⟨w,l',g,h3,y,z,x⟩:=pp v (l0:=l0++[(jO ((cB F (eri i) new).reads (JD s)),e.ws.map (·.1))]) (by rw[eI,eI,n];rfl) (sN.snoc n o (JIA h1 h2)) h;refine⟨w,l',g,?_,y,z,x⟩;simp only[bU,jM,h1];rw[show put (eri i).dst e (JD s)=JD s1 from h2,show lA (eri i).op=cD i.op from KU _,h3]
theorem da{a b e g:List Nat}(h:gG e g=true)(ha: ∀x∈a,x∈e)(hb: ∀x∈b,x∈g):gG a b=true:=by unfold gG at h⊢;rw[ST]at h⊢;intro x k;have:=h x (ha x k);simp only[lX,List.contains_eq_mem,decide_eq_false_iff_not]at this⊢;exact λj=>this (hb x j)
theorem pn{l:List oC}{l':Log}(hl:l.length=l'.length)(ho: ∀(j:Nat) a b,l[j]?=some a->l'[j]?=some b->sN a b): ∀{ps:List (Nat×Nat)},OK l ps=true->EI l' ps=true
 |[],_=>rfl
 |(i,j)::r,h=>by
  simp only[OK,aS]at h;obtain⟨h1,h2⟩:=h;simp only[EI,aS];refine⟨?_,pn hl ho h2⟩;split at h1;rename_i a b n o;have hi:i<l'.length:=by have:=JC n;omega
  have k:j<l'.length:=by have:=JC o;omega
  have e:=ho i _ _ n (zQ9 hi);have g:=ho j _ _ o (zQ9 k);rw[zQ9 hi,zQ9 k];simp only[aS]at h1⊢;exact⟨⟨da h1.1.1 e.2 g.1,da h1.1.2 e.2 g.2⟩,da h1.2 e.1 g.2⟩;cases h1
def kj(G:TG)(pairs:List (Nat×Nat))(ins:List jC)(s:TSt)(k:TSt->Option R):Option R:=
 match pairs with
 |[]=>UR G ins s.sto.length (NL (II ins) s) k
 |p::ps=>NY G ins s.sto.length (NL (II ins) s) [] λs' l=>if OK l (p::ps)=true then k s' else none
theorem JIG{F:Orc}{G:TG}(e:GOk F G){pairs:List (Nat×Nat)}{ins:List jC}{s:TSt}{k:TSt->Option R}{r:R}(h:kj G pairs ins s k=some r): ∃s',region F pairs (ins.map eri) (JD s)=some (JD s')/\k s'=some r:=by
 have hlen:(JD s).sto.length=s.sto.length:=by simp[JD]
 unfold kj at h;split at h;obtain⟨s',h1,h2⟩:=Dp e h;refine⟨s',?_,h2⟩;simp only[region,db];rw[p7]at h1;rw[hlen];exact h1;obtain⟨s',l',q,h1,h2,h3,g⟩:=pp e (l0:=[]) rfl (λj a b o v=>by simp at o) h;split at h2;rename_i n;refine⟨s',?_,h2⟩;simp only[region,db];rw[p7]at h1;rw[hlen,h1];simp only[pn h3 g n,if_true];cases h2
end
end Go.Am
end
section
namespace Go.Am
def vA(m:Nat)(ids:List Nat)(s:TSt):TC->Option TC
 | .ptr b p=>if b<m then some (.ptr b p)else match eT b ids m with|some k=>some (.ptr k p)|none=>none
 | .slr b=>if b<m then some (.slr b)else match eT b ids m with|some k=>some (.slr k)|none=>match s.sto[b]? with|some (.arr _ t rows)=>some (.d (.l t) rows)|_=>none
 | .slo b n=>if b<m then some (.slo b n)else match eT b ids m with|some k=>some (.slo k n)|none=>none
 | .ep b i p=>if b<m then some (.ep b i p)else match eT b ids m with|some k=>some (.ep k i p)|none=>none
 | .epo b e i p=>if b<m then some (.epo b e i p)else match eT b ids m with|some k=>some (.epo k e i p)|none=>none
 |x=>some x
def yH(m:Nat)(ids:List Nat)(s:TSt):List TC->Option (List TC)|[]=>some []|x::r=>match vA m ids s x,yH m ids s r with|some y,some l=>some (y::l)|_,_=>none
def DB(m:Nat)(ids:List Nat)(s:TSt):TA->Option TA
 | .c x=>match vA m ids s x with|some y=>some (.c y)|none=>none
 | .dt t x=>some (.dt t x)
 | .m t cs=>match yH m ids s cs with
  |some l=>match asm t l with|some x=>some (.dt t x)|none=>if l.any SR=true then some (.m t l)else none
  |none=>none
 | .fn f a c=>match yH m ids s a,yH m ids s c with|some a,some c=>some (.fn f a c)|_,_=>none
def IT(m:Nat)(ids:List Nat)(s:TSt):List TA->Option (List TA)|[]=>some []|x::r=>match DB m ids s x,IT m ids s r with|some y,some l=>some (y::l)|_,_=>none
def lj(m:Nat)(ids:List Nat)(s:TSt):TV->Option TV
 | .a x=>match DB m ids s x with|some y=>some (.a y)|none=>none
 | .tup vs=>match IT m ids s vs with|some l=>some (.tup l)|none=>none
def HW(m:Nat)(ids:List Nat)(s:TSt):TB->Option TB
 | .mbox t cs=>match yH m ids s cs with|some l=>some (mkb t l)|none=>none
 |x=>some x
def vO(m:Nat)(ids:List Nat)(s:TSt):List TB->Option (List TB)|[]=>some []|x::r=>match HW m ids s x,vO m ids s r with|some y,some l=>some (y::l)|_,_=>none
def NR(m:Nat)(s:TSt):List (Nat×TV)->Option (List (Nat×TV))|[]=>some []|(k,x)::r=>match lj m [] s x,NR m s r with|some y,some l=>some ((k,y)::l)|_,_=>none
def pA:List Nat->List (Nat×TV)->List (Nat×TV)|[],_=>[]|k::r,env=>match tlk k env with|some v=>(k,v)::pA r env|none=>pA r env
theorem LL(L:Nat->Nat)(env:List (Nat×TV)): ∀live:List Nat,restr live (fV L env)=fV L (pA live env)
 |[]=>rfl
 |k::r=>by
  simp only[restr,pA,yS];cases tlk k env with
  |none=>exact LL L env r
  |some v=>
   have ih:=LL L env r;grind [fV]
section
variable {m:Nat} {ids:List Nat} {s:TSt} {L':Nat->Nat} (h1: ∀b,b<m->L' b=lns s.sto b) (h2: ∀b k,eT b ids m=some k->L' k=lns s.sto b)
include h1 h2
theorem ql{x y:TC}(h:vA m ids s x=some y):fin m ids (JD s).sto (aX (lns s.sto) x)=some (aX L' y):=by
 cases x with
 |ptr b p=>
  grind [vA,aX,fin]
 |slr b=>
  simp only[vA]at h;simp only[aX,fin];split at h;grind
  ·rename_i g;rw[if_neg g];split at h
   all_goals grind [eV,XI,nR,cel,hdP]
 |slo b n=>
  grind [vA,aX,fin]
 |ep b i p=>
  grind [vA,aX,fin]
 |epo b e i p=>
  grind [vA,aX,fin]
 |_=>injection h with h;subst h;rfl
theorem QI: ∀{xs e:List TC},yH m ids s xs=some e->fin.finL m ids (JD s).sto (xs.map (aX (lns s.sto)))=some (e.map (aX L'))
 |[],e,h=>by injection h with h;subst h;rfl
 |x::r,e,h=>by
  simp only[yH]at h;split at h;rename_i y l j g;injection h with h;subst h;simp only[bU,fin.finL,ql h1 h2 j,QI g];cases h
theorem pl{x y:TA}(h:DB m ids s x=some y):fin m ids (JD s).sto (bV (lns s.sto) x)=some (bV L' y):=by
 cases x with
 |c x=>
  simp only[DB]at h;split at h;rename_i y j;injection h with h;subst h;exact ql h1 h2 j;cases h
 |dt t x=>injection h with h;subst h;rfl
 |m t cs=>
  simp only[DB]at h;split at h;rename_i l g;have e:=QI h1 h2 g;grind [bV,fin,KA,LD,YG];cases h
 |fn f a c=>
  grind [DB,bV,fin,QI]
theorem fx: ∀{xs e:List TA},IT m ids s xs=some e->fin.finL m ids (JD s).sto (xs.map (bV (lns s.sto)))=some (e.map (bV L'))
 |[],e,h=>by injection h with h;subst h;rfl
 |x::r,e,h=>by
  simp only[IT]at h;split at h;rename_i y l j g;injection h with h;subst h;simp only[bU,fin.finL,pl h1 h2 j,fx g];cases h
theorem JGi{x y:TV}(h:lj m ids s x=some y):fin m ids (JD s).sto (aT (lns s.sto) x)=some (aT L' y):=by cases x<;>grind [lj,pl,aT,fin,fx]
theorem JFa{x y:TB}(h:HW m ids s x=some y):gA m ids (JD s).sto (aY (lns s.sto) x)=some (aY L' y):=by
 cases x with
 |mbox t cs=>
  grind [HW,KQ,gA,QI,QA]
 |box t x=>injection h with h;grind [DU,gA,sd]
 |_=>injection h with h;subst h;rfl
theorem RF: ∀{xs e:List TB},vO m ids s xs=some e->qE m ids (JD s).sto (xs.map (aY (lns s.sto)))=some (e.map (aY L'))
 |[],e,h=>by injection h with h;subst h;rfl
 |x::r,e,h=>by
  simp only[vO]at h;split at h;rename_i y l j g;injection h with h;subst h;simp only[bU,qE,JFa h1 h2 j,RF g];cases h
end
theorem JE7{m:Nat}{ids:List Nat}{s:TSt}{x y:TB}(h:HW m ids s x=some y):lnB y=lnB x:=by
 cases x with
 |mbox t cs=>
  simp only[HW]at h;split at h;injection h with h;subst h;exact PQ _ _;cases h
 |_=>injection h with h;subst h;rfl
theorem RN{m:Nat}{ids:List Nat}{s:TSt}: ∀{xs e:List TB},vO m ids s xs=some e->e.length=xs.length/\ ∀(k:Nat),lns e k=lns xs k
 |[],e,h=>by injection h with h;simp_all
 |x::r,e,h=>by
  simp only[vO]at h;split at h;rename_i y l j g;injection h with h;subst h;obtain⟨n,o⟩:=RN g;refine⟨by simp[n],λk=>?_⟩;cases k with
  |zero=>exact JE7 j
  |succ k=>exact o k
  cases h
theorem o8{m:Nat}{s:TSt}{L':Nat->Nat}(h1: ∀b,b<m->L' b=lns s.sto b): ∀{env e:List (Nat×TV)},NR m s env=some e->uM m (JD s).sto (fV (lns s.sto) env)=some (fV L' e)
 |[],e,h=>by injection h with h;subst h;rfl
 |(k,x)::r,e,h=>by
  simp only[NR]at h;split at h;rename_i y l n j;injection h with h;subst h;simp only[fV,bU,uM];rw[JGi (ids:=[]) h1 (λb k g=>by cases g) n];have ih:=o8 h1 j;grind [fV];cases h
def qR(n:Nat)(live:List Nat)(s:TSt):Option TSt:=
 if s.sto.length=n then some ⟨pA live s.env,s.sto⟩
 else match NR n s (pA live s.env),vO n [] s (s.sto.take n)with|some e,some l=>some ⟨e,l⟩|_,_=>none
theorem ET{n:Nat}{live:List Nat}{s s':TSt}(h:qR n live s=some s'):clean n live (JD s)=some (JD s'):=by
 unfold qR at h;have hlen:(JD s).sto.length=s.sto.length:=by simp[JD]
 split at h;grind [clean,JD,LL];rename_i o;split at h;rename_i e l q g;injection h with h;subst h;obtain⟨v,y⟩:=RN g;have hL: ∀b,b<n->lns l b=lns s.sto b:=λb r=>by
  grind [lns]
 unfold clean;rw[hlen,if_neg o];have x:=o8 hL q;have w:=RF (ids:=[]) hL (λb k j=>by cases j) g;grind [JD,LL,List.map_take];cases h
inductive yG where|tmp (t:Nat)|cell (t:Nat) (agg:Bool) (ty:Ty)
def erR:yG->uN| .tmp t=>.tmp t| .cell t agg ty=>.cell t agg ty.sz
def mr(agg:Bool)(ty:Ty)(v:TV)(s:TSt):Option TA:=
 if agg=true\/ty.sz=1 then
  match v with
  | .a (.c (.ptr b []))=>match s.sto[b]? with
   |some (.box e x)=>if h:e=ty then(if agg=true then some (.dt ty (h▸x))else some (.c (.d ty (h▸x))))else none
   |some (.mbox _ cs)=>if cs.length=ty.sz then
    match mka agg ty cs with
    |some (.a x)=>some x
    |_=>none
    else none
   |_=>none
  |_=>none
 else none
theorem JF9{agg:Bool}{ty:Ty}{v:TV}{s:TSt}{x:TA}(h:mr agg ty v s=some x): ∃e,(gK agg ty.sz (aT (lns s.sto) v)).run (JD s)=some e/\e.val=bV (lns s.sto) x:=by
 unfold mr at h;split at h;rename_i r;split at h;rename_i b;split at h;rename_i g y j;split at h;rename_i h0;subst h0;refine⟨⟨bV (lns s.sto) x,[]⟩,?_,rfl⟩;have w:kK agg ((cel g y).map .p)=nT agg (cel g y):=by
  unfold kK nT;split;rw[LD];cases hcel:cel g y with
  |nil=>rfl
  |cons a l=>cases l<;>rfl
 have k:sub (cel g y) 0 g.sz=some (cel g y):=YD (eO _ _);have q:=DO (lns s.sto) r y;simp only[kF,spo,gK,eR,eV,j,dJ,JQ,DU,ER,k,w,q,val,bI];unfold mkv;split at h;rename_i h1;injection h with h;subst h;rw[if_pos h1];rfl;rename_i h1;injection h with h;subst h;rw[if_neg h1];rfl;cases h;rename_i cs j;split at h;rename_i o;split at h;rename_i y n;injection h with h;subst h;have k:sub cs 0 ty.sz=some cs:=YD o;refine⟨⟨bV (lns s.sto) y,[]⟩,?_,rfl⟩;simp only[kF,spo,gK,eR,eV,j,dJ,JQ,KQ,ER,k,DW (lns s.sto) n,val,bI];rfl;cases h;cases h;cases h;cases h;cases h
def CM:List yG->TSt->Option (List TA)
 |[],_=>some []
 | .tmp t::r,s=>match tlk t s.env,CM r s with|some (.a x),some l=>some (x::l)|_,_=>none
 | .cell t agg ty::r,s=>match tlk t s.env with
  |some v=>match mr agg ty v s,CM r s with|some x,some l=>some (x::l)|_,_=>none
  |none=>none
theorem Dg(s:TSt)(t:Nat):(RM.slot t RM.ret).run (JD s)=(tlk t s.env).map (aT (lns s.sto)):=by rw[wB];show(lk t (fV _ s.env)).bind _=_;simp[yS]
theorem YM{s:TSt}: ∀{k:List yG} {l:List TA},CM k s=some l->(mZ (k.map erR)).run (JD s)=some (l.map (bV (lns s.sto)))
 |[],l,h=>by injection h with h;subst h;rfl
 | .tmp t::r,l,h=>by
  simp only[CM]at h;split at h;rename_i x l' j g;injection h with h;subst h;simp only[bU,erR,mZ,run_bind,Dg,j,dJ,JQ,YM g,bI];rfl;cases h
 | .cell t agg ty::r,l,h=>by
  simp only[CM]at h;split at h;rename_i v n;split at h;rename_i x l' j g;injection h with h;subst h;obtain⟨e,o,q⟩:=JF9 j;simp only[bU,erR,mZ,run_bind,Dg,n,dJ,JQ,o,YM g,bI,q];cases h;cases h
def HZ(s:TSt):List Nat->List Nat->Option (List Nat)
 |[],acc=>some acc
 |b::r,acc=>match s.sto[b]? with
  |some (.mbox _ cs)=>match uZ cs acc with|some acc=>HZ s r acc|none=>none
  |some _=>HZ s r acc
  |none=>none
theorem QN{s:TSt}: ∀{r acc l:List Nat},HZ s r acc=some l->qG (JD s).sto (r.map .whole) (acc.map .whole)=l.map .whole
 |[],acc,l,h=>by injection h with h;subst h;rfl
 |b::r,acc,l,h=>by
  simp only[HZ]at h;split at h;rename_i cs e;split at h;rename_i g j;simp only[bU,qG,eV,e,dJ,KQ,LH (lns s.sto) j];exact QN h;cases h;rename_i x k e;simp only[bU,qG,eV,e,dJ];cases x with
  |mbox t cs=>simp_all
  |box t x=>simp only[DU];rw[ru];exact QN h
  |_=>exact QN h
  cases h
def lH(m:Nat)(fresh:Bool)(s:TSt):List Nat->List Nat
 |[]=>[]
 |b::r=>if b<m then lH m fresh s r else
  match s.sto[b]? with
  |some (.box _ _)=>b::lH m fresh s r
  |some (.mbox _ _)=>b::lH m fresh s r
  |some (.arr _ _ _)=>if fresh=true then b::lH m fresh s r else lH m fresh s r
  |_=>lH m fresh s r
theorem tc{m:Nat}{fresh:Bool}{s:TSt}: ∀r:List Nat,jP m fresh (JD s).sto (r.map .whole)=lH m fresh s r
 |[]=>rfl
 |b::r=>by
  simp only[bU,jP,lH,eV];rw[tc r];split;rfl;cases s.sto[b]? with
  |none=>rfl
  |some x=>cases x<;>rfl
def OA(s:TSt):List Nat->Option (List TB)|[]=>some []|b::r=>match s.sto[b]?,OA s r with|some x,some l=>some (x::l)|_,_=>none
theorem pd{s:TSt}: ∀{ids:List Nat} {l:List TB},OA s ids=some l->vI (JD s).sto ids=some (l.map (aY (lns s.sto)))/\l.length=ids.length/\ ∀(j b:Nat),ids[j]?=some b->lns l j=lns s.sto b
 |[],l,h=>by injection h with h;simp_all
 |b::r,l,h=>by
  simp only[OA]at h;split at h;rename_i x l' o e;injection h with h;subst h;obtain⟨g,n,k⟩:=pd e;grind [vI,eV,lns];cases h
def GG:List TA->TV|[x]=>.a x|l=>.tup l
theorem od(L:Nat->Nat)(l:List TA):one (l.map (bV L))=aT L (GG l):=by
 match l with
 |[]=>rfl
 |[x]=>rfl
 |x::y::r=>rfl
section
variable {R:Type}
def KT(res:List yG)(fresh:Bool)(m:Nat)(s:TSt)(E:TV->List TB->Option R):Option R:=
 match CM res s with
 |none=>none
 |some vs=>
  if s.sto.length=m then E (GG vs) s.sto
  else match DV vs []with
   |none=>none
   |some e=>match HZ s e e with
    |none=>none
    |some i1=>if jK (lH m fresh s i1)=true/\m<=s.sto.length then
     match IT m (lH m fresh s i1) s vs,vO m (lH m fresh s i1) s (s.sto.take m),OA s (lH m fresh s i1)with
     |some ws,some l,some q=>match vO m (lH m fresh s i1) s q with|some q'=>E (GG ws) (l++q')|none=>none
     |_,_,_=>none
     else none
theorem JCU{f:AFn}{res:List yG}{fresh:Bool}{m:Nat}{s:TSt}{E:TV->List TB->Option R}{r:R}(n:f.res=res.map erR)(J:f.fresh=fresh)(h:KT res fresh m s E=some r):
  ∃v out,hA f m (JD s)=some (aT (lns out) v,out.map (aY (lns out)))/\E v out=some r:=by
 unfold KT at h;have hlen:(JD s).sto.length=s.sto.length:=by simp[JD]
 split at h;cases h;rename_i vs hvs;have C:=YM hvs;split at h;rename_i z;refine⟨GG vs,s.sto,?_,h⟩;unfold hA;rw[n,C];dsimp only;rw[hlen,if_pos z,od];rfl;rename_i z;split at h;cases h;rename_i B x;split at h;cases h;rename_i i1 o;split at h;rename_i j;obtain⟨L,hm⟩:=j;generalize g:lH m fresh s i1=ids at*;split at h;rename_i ws l q w y F;split at h;rename_i q' e;refine⟨GG ws,l++q',?_,h⟩;obtain⟨V,G⟩:=RN y;obtain⟨S,O,M⟩:=pd F;obtain⟨P,T⟩:=RN e;have I:l.length=m:=by simp_all
 have h1: ∀b,b<m->lns (l++q') b=lns s.sto b:=λb Y=>by
  have:=G b;grind [lns]
 have h2: ∀b k,eT b ids m=some k->lns (l++q') k=lns s.sto b:=λb k D=>by
  obtain⟨K,H⟩:=RG D;grind [lns]
 have e1:=fx h1 h2 w;have Z:=RF h1 h2 y;have U:=RF h1 h2 e;have W:cQ.entsOfL (vs.map (bV (lns s.sto))) []=B.map .whole:=RC (lns s.sto) (l:=[]) x;have N:=QN o;have A:=tc (m:=m) (fresh:=fresh) (s:=s) i1;rw[g]at A;have Q:(JD s).sto.take m=(s.sto.take m).map (aY (lns s.sto)):=by simp[JD]
 grind [hA,od];cases h;cases h;cases h
end
end Go.Am
end
section
namespace Go.Am
inductive ShC where
 |d (t:Ty)
 |sc (t:Ty)
 |np
 |nf
 |un
 |ptr (b:Nat) (p:List Sp)
 |cp (t:Ty) (p:List Sp)
 |slr (b:Nat)
 |fn (f:FuncId)
 deriving DecidableEq
inductive ShA where
 |c (x:ShC)
 |dt (t:Ty)
 |m (t:Ty) (cs:List ShC)
 |fn (f:FuncId) (a c:List ShC)
 deriving DecidableEq
inductive ShV where
 |a (x:ShA)
 |tup (vs:List ShA)
 deriving DecidableEq
inductive ShB where
 |dead
 |box (t:Ty)
 |mbox (t:Ty) (cs:List ShC)
 |arr (w:Bool) (t:Ty)
 deriving DecidableEq
structure ShS where
 env:List (Nat×ShV)
 sto:List ShB
 deriving DecidableEq
abbrev Lf:=(t:Ty)×t.D
def shC:TC->Option (ShC×List Lf)| .d t x=>some (.d t,[⟨t,x⟩])| .sc t rows=>some (.sc t,[⟨.l t,rows⟩])| .np=>some (.np,[])| .nf=>some (.nf,[])| .un=>some (.un,[])| .ptr b p=>if(sG p).isSome=true then some (.ptr b p,[])else none| .cp t x p=>if(sG p).isSome=true then some (.cp t p,[⟨t,x⟩])else none| .slr b=>some (.slr b,[])| .fn f=>some (.fn f,[])|_=>none
def lf1(t:Ty)(l:List Lf):Option (t.D×List Lf):=
 match l with
 |⟨t',x⟩::r=>if h:t'=t then some (h▸x,r)else none
 |[]=>none
def mkC:ShC->List Lf->Option (TC×List Lf)
 | .d t,l=>match lf1 t l with|some (x,r)=>some (.d t x,r)|none=>none
 | .sc t,l=>match lf1 (.l t) l with|some (x,r)=>some (.sc t x,r)|none=>none
 | .np,l=>some (.np,l)
 | .nf,l=>some (.nf,l)
 | .un,l=>some (.un,l)
 | .ptr b p,l=>some (.ptr b p,l)
 | .cp t p,l=>match lf1 t l with|some (x,r)=>some (.cp t x p,r)|none=>none
 | .slr b,l=>some (.slr b,l)
 | .fn f,l=>some (.fn f,l)
theorem IV(t:Ty)(x:t.D)(r:List Lf):lf1 t (⟨t,x⟩::r)=some (x,r):=by simp[lf1]
theorem IY{x:TC}{sh:ShC}{e:List Lf}(h:shC x=some (sh,e))(rest:List Lf):mkC sh (e++rest)=some (x,rest):=by
 cases x<;>simp only[shC]at h<;>first
  |(split at h
    simp only[Option.some.injEq,Prod.mk.injEq]at h;obtain⟨rfl,rfl⟩:=h;simp only[sH,nC,mkC,IV];cases h)
  |(simp only[Option.some.injEq,Prod.mk.injEq]at h
    obtain⟨rfl,rfl⟩:=h;simp only[sH,nC,mkC,IV])
  |cases h
def shL{α σ:Type}(f:α->Option (σ×List Lf)):List α->Option (List σ×List Lf)|[]=>some ([],[])|x::r=>match f x,shL f r with|some (s,l),some (q,k)=>some (s::q,l++k)|_,_=>none
def mkL{α σ:Type}(g:σ->List Lf->Option (α×List Lf)):List σ->List Lf->Option (List α×List Lf)
 |[],l=>some ([],l)
 |s::r,l=>match g s l with
  |some (x,l)=>match mkL g r l with|some (q,l)=>some (x::q,l)|none=>none
  |none=>none
theorem oX{α σ:Type}{f:α->Option (σ×List Lf)}{g:σ->List Lf->Option (α×List Lf)}(n: ∀{x:α} {s:σ} {e:List Lf},f x=some (s,e)-> ∀rest,g s (e++rest)=some (x,rest)):
  ∀{xs:List α} {j:List σ} {e:List Lf},shL f xs=some (j,e)-> ∀rest,mkL g j (e++rest)=some (xs,rest)
 |[],j,e,h,rest=>by injection h with h;injection h with h1 h2;subst h1 h2;rfl
 |x::r,j,e,h,rest=>by
  simp only[shL]at h;split at h;rename_i s l q k h1 h2;injection h with h;injection h with h3 h4;subst h3 h4;simp only[mkL,iB,n h1,oX n h2];cases h
def shA:TA->Option (ShA×List Lf)
 | .c x=>match shC x with|some (s,l)=>some (.c s,l)|none=>none
 | .dt t x=>some (.dt t,[⟨t,x⟩])
 | .m t cs=>match shL shC cs with|some (s,l)=>some (.m t s,l)|none=>none
 | .fn f a c=>match shL shC a,shL shC c with|some (s,l),some (q,k)=>some (.fn f s q,l++k)|_,_=>none
def mkA:ShA->List Lf->Option (TA×List Lf)
 | .c s,l=>match mkC s l with|some (x,l)=>some (.c x,l)|none=>none
 | .dt t,l=>match lf1 t l with|some (x,l)=>some (.dt t x,l)|none=>none
 | .m t s,l=>match mkL mkC s l with|some (x,l)=>some (.m t x,l)|none=>none
 | .fn f a c,l=>match mkL mkC a l with
  |some (x,l)=>match mkL mkC c l with|some (y,l)=>some (.fn f x y,l)|none=>none
  |none=>none
theorem XU{x:TA}{sh:ShA}{e:List Lf}(h:shA x=some (sh,e))(rest:List Lf):mkA sh (e++rest)=some (x,rest):=by
 cases x with
 |c x=>
  simp only[shA]at h;split at h;rename_i s l h1;injection h with h;injection h with h2 h3;subst h2 h3;simp only[mkA,IY h1];cases h
 |dt t x=>injection h with h;grind [mkA,IV]
 |m t cs=>
  simp only[shA]at h;split at h;rename_i s l h1;injection h with h;injection h with h2 h3;subst h2 h3;simp only[mkA,oX IY h1];cases h
 |fn f a c=>
  simp only[shA]at h;split at h;rename_i s l q k h1 h2;injection h with h;injection h with h3 h4;subst h3 h4;simp only[mkA,iB,oX IY h1,oX IY h2];cases h
def shV:TV->Option (ShV×List Lf)
 | .a x=>match shA x with|some (s,l)=>some (.a s,l)|none=>none
 | .tup vs=>match shL shA vs with|some (s,l)=>some (.tup s,l)|none=>none
def mkV:ShV->List Lf->Option (TV×List Lf)
 | .a s,l=>match mkA s l with|some (x,l)=>some (.a x,l)|none=>none
 | .tup s,l=>match mkL mkA s l with|some (x,l)=>some (.tup x,l)|none=>none
theorem Cs{x:TV}{sh:ShV}{e:List Lf}(h:shV x=some (sh,e))(rest:List Lf):mkV sh (e++rest)=some (x,rest):=by
 cases x with
 |a x=>
  simp only[shV]at h;split at h;rename_i s l h1;injection h with h;injection h with h2 h3;subst h2 h3;simp only[mkV,XU h1];cases h
 |tup vs=>
  simp only[shV]at h;split at h;rename_i s l h1;injection h with h;injection h with h2 h3;subst h2 h3;simp only[mkV,oX XU h1];cases h
def shB:TB->Option (ShB×List Lf)
 | .dead=>some (.dead,[])
 | .box t x=>some (.box t,[⟨t,x⟩])
 | .mbox t cs=>match shL shC cs with|some (s,l)=>some (.mbox t s,l)|none=>none
 | .arr w t rows=>some (.arr w t,[⟨.l t,rows⟩])
def mkB:ShB->List Lf->Option (TB×List Lf)
 | .dead,l=>some (.dead,l)
 | .box t,l=>match lf1 t l with|some (x,l)=>some (.box t x,l)|none=>none
 | .mbox t s,l=>match mkL mkC s l with|some (x,l)=>some (.mbox t x,l)|none=>none
 | .arr w t,l=>match lf1 (.l t) l with|some (x,l)=>some (.arr w t x,l)|none=>none
theorem XP{x:TB}{sh:ShB}{e:List Lf}(h:shB x=some (sh,e))(rest:List Lf):mkB sh (e++rest)=some (x,rest):=by
 cases x with
 |dead=>injection h with h;injection h with h2 h3;subst h2 h3;rfl
 |box t x=>injection h with h;grind [mkB,IV]
 |mbox t cs=>
  simp only[shB]at h;split at h;rename_i s l h1;injection h with h;injection h with h2 h3;subst h2 h3;simp only[mkB,oX IY h1];cases h
 |arr w t rows=>injection h with h;grind [mkB,IV]
def shE(x:Nat×TV):Option ((Nat×ShV)×List Lf):=match shV x.2 with|some (s,l)=>some ((x.1,s),l)|none=>none
def mkE(x:Nat×ShV)(l:List Lf):Option ((Nat×TV)×List Lf):=match mkV x.2 l with|some (v,l)=>some ((x.1,v),l)|none=>none
theorem JJg{x:Nat×TV}{sh:Nat×ShV}{e:List Lf}(h:shE x=some (sh,e))(rest:List Lf):mkE sh (e++rest)=some (x,rest):=by
 unfold shE at h;split at h;rename_i s l h1;injection h with h;injection h with h2 h3;subst h2 h3;simp only[mkE,Cs h1];cases h
def shS(s:TSt):Option (ShS×List Lf):=match shL shE s.env,shL shB s.sto with|some (a,l),some (c,k)=>some (⟨a,c⟩,l++k)|_,_=>none
def uY(s:ShS)(l:List Lf):Option TSt:=match mkL mkE s.env l with
 |some (a,l)=>match mkL mkB s.sto l with|some (c,[])=>some ⟨a,c⟩|_=>none
 |none=>none
theorem Eb{x:TSt}{sh:ShS}{g:List Lf}(h:shS x=some (sh,g)):uY sh g=some x:=by
 unfold shS at h;split at h;rename_i a l c k h1 h2;injection h with h;injection h with h3 h4;subst h3 h4;have e:=oX XP h2 [];rw[lV]at e;simp only[uY,oX JJg h1,e];cases h
def tyL:List Ty->Ty|[]=>.u|[t]=>t|t::t'::r=>.pr t (tyL (t'::r))
def CJ:(e:List Lf)->(tyL (e.map (·.1))).D|[]=>()|[x]=>x.2|x::y::r=>(x.2,CJ (y::r))
def nI:(ts:List Ty)->(tyL ts).D->List Lf|[],_=>[]|[t],x=>[⟨t,x⟩]|t::t'::r,x=>⟨t,x.1⟩::nI (t'::r) x.2
theorem fk: ∀e:List Lf,nI (e.map (·.1)) (CJ e)=e
 |[]=>rfl
 |[x]=>rfl
 |x::y::r=>by
  have:=fk (y::r);grind [nI,CJ]
def asL(ts:List Ty)(e:List Lf):Option (tyL ts).D:=if h:e.map (·.1)=ts then some (h▸CJ e)else none
theorem XC{ts:List Ty}{e:List Lf}{x:(tyL ts).D}(h:asL ts e=some x):nI ts x=e:=by
 grind [asL,fk]
def CF(sh:ShS)(ts:List Ty)(s:TSt):Option (tyL ts).D:=match shS s with|some (e,g)=>if e=sh then asL ts g else none|none=>none
theorem Du{sh:ShS}{ts:List Ty}{s:TSt}{x:(tyL ts).D}(h:CF sh ts s=some x):uY sh (nI ts x)=some s:=by
 grind [CF,XC,Eb]
inductive TCo where|skip|bad|reg (draw:Bool) (pairs:List (Nat×Nat)) (ins:List jC)|seq (a b:TCo)|cond (c:TO) (a b:TCo)|block (id:Nat) (c:TCo)|loop (live:List Nat) (c:TCo)|scope (c:TCo)|exit (id:Nat)|ret|keep (live:List Nat) (c:TCo)|tidy (live:List Nat) (c:TCo)|jn (sh:ShS) (ts:List Ty) (a b:TCo)
def erc:TCo->cC| .skip=>.skip| .bad=>.bad| .reg d p ins=>.reg d p (ins.map eri)| .seq a b=>.seq (erc a) (erc b)| .cond c a b=>.cond (erO c) (erc a) (erc b)| .block id c=>.block id (erc c)| .loop live c=>.loop live (erc c)| .scope c=>.scope (erc c)| .exit id=>.exit id| .ret=>.ret| .keep live c=>.keep live (erc c)| .tidy live c=>.tidy live (erc c)| .jn sh _ a b=>.seq (erc a) (.keep (sh.env.map (·.1)) (erc b))
structure TK(R:Type) where
 n:TSt->Option R
 x:Nat->TSt->Option R
 r:TSt->Option R
def TK.at'{R:Type}(K:TK R):AX->TSt->Option R| .normal=>K.n| .exit i=>K.x i| .ret=>K.r
def rbO(c:TO)(v:Bool)(s:TSt):TSt:=match c with| .t n=>rb n (vb v) s| .c _=>s
def jnO{σ R:Type}(m:Option (σ⊕R))(f:σ->Option R):Option R:=match m with|some (.inl x)=>f x|some (.inr r)=>some r|none=>none
def inl?{σ R:Type}(m:Option σ):Option (σ⊕R):=match m with|some x=>some (.inl x)|none=>none
def onO{α R:Type}(m:Option α)(k:α->Option R):Option R:=match m with|some x=>k x|none=>none
theorem rA{α R:Type}{m:Option α}{k:α->Option R}{r:R}(h:onO m k=some r): ∃x,m=some x/\k x=some r:=by
 cases m with
 |none=>cases h
 |some x=>exact⟨x,rfl,h⟩
def TY{R:Type}(clean:TSt->Option TSt)(body:(TSt->Option R)->TSt->Option R):Nat->TSt->Option R|0,_=>none|k+1,s=>body (λs'=>onO (clean s') (TY clean body k)) s
def orO{σ R:Type}(m:Option σ)(f:Unit->Option R):Option (σ⊕R):=match m with|some x=>some (.inl x)|none=>(f ()).map .inr
noncomputable def trc(G:TG):TCo->(R:Type)->TK R->TSt->Option R
 | .skip,_,K,s=>K.n s
 | .bad,_,_,_=>none
 | .reg _ p ins,_,K,s=>kj G p ins s K.n
 | .seq a b,R,K,s=>trc G a R ⟨λs=>trc G b R K s,K.x,K.r⟩ s
 | .cond c a b,R,K,s=>match tev c s with|some (.a (.c (.d .b x)))=>if x=true then trc G a R K (rbO c true s)else trc G b R K (rbO c false s)|_=>none
 | .block id c,R,K,s=>trc G c R ⟨K.n,λi s=>if i=id then K.n s else K.x i s,K.r⟩ s
 | .loop live c,R,K,s=>onO (shS ⟨pA live s.env,s.sto⟩) fun(sh,e)=>
   Jg (λx:(tyL (e.map (·.1))).D=>onO (uY sh (nI (e.map (·.1)) x)) λs1=>
    trc G c ((tyL (e.map (·.1))).D⊕R) ⟨λs'=>onO (qR s.sto.length live s') λs'=>orO (CF sh (e.map (·.1)) s') λ_=>TY (qR s.sto.length live) (λagain s=>trc G c R ⟨again,K.x,K.r⟩ s) 3 s',λi s'=>(K.x i s').map .inr,λs'=>(K.r s').map .inr⟩ s1) (CJ e)
 | .scope c,R,K,s=>trc G c R K s
 | .exit id,_,K,s=>K.x id s
 | .ret,_,K,s=>K.r s
 | .keep live c,R,K,s=>trc G c R K ⟨pA live s.env,s.sto⟩
 | .tidy live c,R,K,s=>trc G c R ⟨λs'=>onO (qR s.sto.length live s') K.n,λi s'=>onO (qR s.sto.length live s') (K.x i),λs'=>onO (qR s.sto.length live s') K.r⟩ s
 | .jn sh ts a b,R,K,s=>jnO (trc G a ((tyL ts).D⊕R) ⟨λs'=>inl? (CF sh ts ⟨pA (sh.env.map (·.1)) s'.env,s'.sto⟩),λi s'=>(K.x i s').map .inr,λs'=>(K.r s').map .inr⟩ s)
   λx=>onO (uY sh (nI ts x)) λs1=>trc G b R K s1
theorem dj(live:List Nat)(s:TSt):JD ⟨pA live s.env,s.sto⟩=⟨restr live (JD s).env,(JD s).sto⟩:=by simp[JD,LL]
theorem Ce{c:TO}{x:Bool}{s:TSt}(h:tev c s=some (vb x)):rbO c x s=s:=by
 cases c with
 |t n=>exact XE h
 |c v=>rfl
theorem JG9{σ R:Type}{m:Option σ}{o:σ⊕R}(h:inl? m=some o): ∃x,m=some x/\o=.inl x:=by
 cases m with
 |none=>cases h
 |some x=>injection h with h;simp_all
theorem lD{T:eN}{G:TG}(n:GOk (AF T) G): ∀{c:TCo} {R:Type} {K:TK R} {s:TSt} {r:R},trc G c R K s=some r-> ∃o s',X T (erc c) (JD s)=some (o,JD s')/\K.at' o s'=some r
 | .skip,R,K,s,r,h=>⟨.normal,s,by simp[erc],h⟩
 | .bad,R,K,s,r,h=>by cases h
 | .reg d p ins,R,K,s,r,h=>by obtain⟨s',h1,h2⟩:=JIG n h;exact⟨.normal,s',by simp_all [erc,Bo],h2⟩
 | .seq a b,R,K,s,r,h=>by
  obtain⟨o,s1,h1,h2⟩:=lD n (c:=a) h;rw[erc,Bv,h1];cases o with
  |normal=>obtain⟨o,j,h3,g⟩:=lD n (c:=b) h2;exact⟨o,j,h3,g⟩
  |exit i=>exact⟨.exit i,s1,rfl,h2⟩
  |ret=>exact⟨.ret,s1,rfl,h2⟩
 | .cond c a b,R,K,s,r,h=>by
  unfold trc at h;split at h;rename_i x q;have e:evv (erO c) (JD s).env=some (.p (.b x)):=by rw[<-OW (erO c) (JD s),bW q];rfl
  rw[erc,JJ1,e,Bn];split at h;rename_i z;subst z;rw[Ce q]at h;simp only[if_true];exact lD n (c:=a) h;rename_i z;have:x=false:=by simpa using z
  subst this;rw[Ce q]at h;simp only[eK,if_false];exact lD n (c:=b) h;cases h
 | .block id c,R,K,s,r,h=>by
  obtain⟨o,s1,h1,h2⟩:=lD n (c:=c) h;rw[erc,JHG,h1];cases o with
  |normal=>exact⟨.normal,s1,rfl,h2⟩
  |exit i=>
   simp only[qa];simp only[TK.at']at h2;split at h2;rename_i hi;rw[if_pos hi];exact⟨.normal,s1,rfl,h2⟩;rename_i hi;rw[if_neg hi];exact⟨.exit i,s1,rfl,h2⟩
  |ret=>exact⟨.ret,s1,rfl,h2⟩
 | .loop live c,R,K,s,r,h=>by
  unfold trc at h;obtain⟨⟨sh,v⟩,M,h⟩:=rA h;dsimp only at h;have E: ∀(k:Nat) {j:TSt} {r:R},TY (qR s.sto.length live) (λagain s=>trc G c R ⟨again,K.x,K.r⟩ s) k j=some r->
    ∃o s',X T (.lp s.sto.length live (erc c)) (JD j)=some (o,JD s')/\K.at' o s'=some r:=by
   intro k
   induction k with
   |zero=>intro j r h;cases h
   |succ k ih=>
    intro j r h;obtain⟨o,A,h1,h2⟩:=lD n (c:=c) h;rw[ko,h1];cases o with
    |normal=>
     obtain⟨N,C,h2⟩:=rA h2;grind [LN,ET]
    |exit i=>exact⟨.exit i,A,rfl,h2⟩
    |ret=>exact⟨.ret,A,rfl,h2⟩
  have B: ∀{x:(tyL (v.map (·.1))).D} {r:R},Jg (λx:(tyL (v.map (·.1))).D=>onO (uY sh (nI (v.map (·.1)) x)) λs1=>
    trc G c ((tyL (v.map (·.1))).D⊕R) ⟨λs'=>onO (qR s.sto.length live s') λs'=>orO (CF sh (v.map (·.1)) s') λ_=>TY (qR s.sto.length live) (λagain s=>trc G c R ⟨again,K.x,K.r⟩ s) 3 s',λi s'=>(K.x i s').map .inr,λs'=>(K.r s').map .inr⟩ s1) x=some r->
    ∃st,uY sh (nI (v.map (·.1)) x)=some st/\ ∃o s',X T (.lp s.sto.length live (erc c)) (JD st)=some (o,JD s')/\K.at' o s'=some r:=by
   intro x r L;refine fg (P:=fun(x:(tyL (v.map (·.1))).D) (r:R)=> ∃st,uY sh (nI (v.map (·.1)) x)=some st/\ ∃o s',X T (.lp s.sto.length live (erc c)) (JD st)=some (o,JD s')/\K.at' o s'=some r) ?_ ?_ L;intro x r q;obtain⟨st,w,q⟩:=rA q;obtain⟨o,s1,h1,h2⟩:=lD n (c:=c) q;refine⟨st,w,?_⟩;rw[ko,h1];cases o with
   |normal=>
    obtain⟨j,C,h2⟩:=rA h2;unfold orO at h2;grind [Option.map_eq_some_iff,LN,ET]
   |exit i=>obtain⟨r',h3,g⟩:=fZ.1 h2;injection g with g;subst g;exact⟨.exit i,s1,rfl,h3⟩
   |ret=>obtain⟨r',h3,g⟩:=fZ.1 h2;injection g with g;subst g;exact⟨.ret,s1,rfl,h3⟩
   rintro x y r q ⟨st',I,o,A,J,H⟩;obtain⟨st,w,q⟩:=rA q;obtain⟨F,s1,h1,h2⟩:=lD n (c:=c) q;refine⟨st,w,?_⟩;rw[ko,h1];cases F with
   |normal=>
    obtain⟨j,C,h2⟩:=rA h2;unfold orO at h2;grind [Du,LN,ET,Option.map_eq_some_iff]
   |exit i=>obtain⟨r',_,g⟩:=fZ.1 h2;cases g
   |ret=>obtain⟨r',_,g⟩:=fZ.1 h2;cases g
  obtain⟨st,w,o,s',h1,h2⟩:=B h;rw[fk,Eb M]at w;grind [erc,JD,JK2,dj]
 | .scope c,R,K,s,r,h=>by
  obtain⟨o,s1,h1,h2⟩:=lD n (c:=c) h;grind [erc,JI2]
 | .exit id,R,K,s,r,h=>⟨.exit id,s,by simp[erc],h⟩
 | .ret,R,K,s,r,h=>⟨.ret,s,by rw[erc,Z4],h⟩
 | .keep live c,R,K,s,r,h=>by
  obtain⟨o,s1,h1,h2⟩:=lD n (c:=c) h;grind [erc,Ch,dj]
 | .tidy live c,R,K,s,r,h=>by
  obtain⟨o,s1,h1,h2⟩:=lD n (c:=c) h;rw[erc,JJu,h1,F9,show(JD s).sto.length=s.sto.length by simp[JD]];cases o with
  |normal=>obtain⟨j,h3,g⟩:=rA h2;rw[ET h3];exact⟨.normal,j,rfl,g⟩
  |exit i=>obtain⟨j,h3,g⟩:=rA h2;rw[ET h3];exact⟨.exit i,j,rfl,g⟩
  |ret=>obtain⟨j,h3,g⟩:=rA h2;rw[ET h3];exact⟨.ret,j,rfl,g⟩
 | .jn sh ts a b,R,K,s,r,h=>by
  unfold trc at h;rw[erc,Bv];cases ho:trc G a ((tyL ts).D⊕R) ⟨λs'=>inl? (CF sh ts ⟨pA (sh.env.map (·.1)) s'.env,s'.sto⟩),λi s'=>(K.x i s').map .inr,λs'=>(K.r s').map .inr⟩ s with
  |none=>rw[ho]at h;cases h
  |some res=>
   rw[ho]at h;obtain⟨o,s1,h1,h2⟩:=lD n (c:=a) ho;rw[h1];cases o with
   |normal=>
    obtain⟨x,q,rfl⟩:=JG9 h2;obtain⟨j,h3,g⟩:=rA h;rw[Du q]at h3;injection h3 with h3;subst h3;obtain⟨o,A,J,H⟩:=lD n (c:=b) g;grind [LN,Ch,dj]
   |exit i=>obtain⟨r',h3,g⟩:=fZ.1 h2;subst g;injection h with h;subst h;exact⟨.exit i,s1,rfl,h3⟩
   |ret=>obtain⟨r',h3,g⟩:=fZ.1 h2;subst g;injection h with h;subst h;exact⟨.ret,s1,rfl,h3⟩
end Go.Am
end
section
namespace Go.Am
structure TFn where
 np:Nat
 nt:Nat
 body:TCo
 res:List yG
 fresh:Bool
def aL(f:TFn):AFn:=⟨f.np,f.nt,erc f.body,f.res.map erR,f.fresh⟩
def IH:Nat->List TA->List (Nat×TV)|_,[]=>[]|k,x::r=>(k,.a x)::IH (k+1) r
theorem pu(L:Nat->Nat): ∀(k:Nat) (xs:List TA),jD k (xs.map (bV L))=fV L (IH k xs)|_,[]=>rfl|k,x::r=>by have:=pu L (k+1) r;simp only[bU,jD,IH,fV,this];rfl
noncomputable def uK(G:TG)(f:TFn){R:Type}(xs:List TA)(bl:List TB)(E:TV->List TB->Option R):Option R:=if xs.length=f.np then trc G f.body R ⟨λs=>KT f.res f.fresh bl.length s E,λ_ _=>none,λs=>KT f.res f.fresh bl.length s E⟩ ⟨IH 0 xs,bl⟩else none
theorem JIm{T:eN}{G:TG}(e:GOk (AF T) G){g:FuncId}{f:TFn}(hf:T g=some (.fn (aL f))){R:Type}{xs:List TA}{bl:List TB}{E:TV->List TB->Option R}{r:R}(h:uK G f xs bl E=some r):
  ∃v out,AF T g (xs.map (bV (lns bl))) (bl.map (aY (lns bl)))=some (aT (lns out) v,out.map (aY (lns out)))/\E v out=some r:=by
 unfold uK at h;split at h;rename_i x;obtain⟨o,s',h1,h2⟩:=lD e h;have j:JD ⟨IH 0 xs,bl⟩=⟨jD 0 (xs.map (bV (lns bl))),bl.map (aY (lns bl))⟩:=by simp[JD,pu]
 rw[j]at h1;have fin:KT f.res f.fresh bl.length s' E=some r-> ∃v out,hA (aL f) bl.length (JD s')=some (aT (lns out) v,out.map (aY (lns out)))/\E v out=some r:=
  λh=>JCU rfl rfl h
 have y: ∀q,hA (aL f) bl.length (JD s')=some q->(o=.normal\/o=.ret)->AF T g (xs.map (bV (lns bl))) (bl.map (aY (lns bl)))=some q:=by intro q k w;rw[JLM T hf,if_pos (by rw[fA];exact x),show(aL f).body=erc f.body from rfl,h1,fA];rcases w with rfl|rfl<;>exact k
 cases o with
 |normal=>
  obtain⟨v,out,h3,n⟩:=fin h2;grind
 |exit i=>cases h2
 |ret=>
  obtain⟨v,out,h3,n⟩:=fin h2;grind
 cases h
structure TE where
 f:FuncId
 go: ∀{R:Type},List TA->List TB->(TV->List (Bool×TB)->Option R)->Option R
 fit:List TA->List TB->Bool
structure EOk(F:Orc)(e:TE):Prop where
 ok: ∀{R:Type} {xs:List TA} {bl:List TB} {kk:TV->List (Bool×TB)->Option R} {r:R},e.go xs bl kk=some r->
  ∃v out,F e.f (xs.map (bV (lns bl))) (bl.map (aY (lns bl)))=some (aT (qC out) v,out.map λx=>aY (qC out) x.2)/\
   (∀(k:Nat) x,out[k]?=some (true,x)->k<bl.length->lnB x=lns bl k)/\kk v out=some r
def goE{R:Type}(f:FuncId)(xs:List TA)(bl:List TB)(kk:TV->List (Bool×TB)->Option R):List TE->Option R|[]=>none|e::r=>if f=e.f/\e.fit xs bl=true then e.go xs bl kk else goE f xs bl kk r
def TG.of(l:List TE):TG:=⟨λf xs bl kk=>goE f xs bl kk l⟩
def yF(F:Orc):List TE->Prop|[]=>True|e::r=>EOk F e/\yF F r
theorem B4{F:Orc}{R:Type}{f:FuncId}{xs:List TA}{bl:List TB}{kk:TV->List (Bool×TB)->Option R}{r:R}: ∀{l:List TE},yF F l->goE f xs bl kk l=some r->
  ∃v out,F f (xs.map (bV (lns bl))) (bl.map (aY (lns bl)))=some (aT (qC out) v,out.map λx=>aY (qC out) x.2)/\
   (∀(k:Nat) x,out[k]?=some (true,x)->k<bl.length->lnB x=lns bl k)/\kk v out=some r
 |[],_,h=>by cases h
 |e::l,g,h=>by
  simp only[goE]at h;split at h;rename_i j;obtain⟨rfl,_⟩:=j;exact g.1.ok h;exact B4 g.2 h
theorem JKu{F:Orc}{l:List TE}(h:yF F l):GOk F (TG.of l):=⟨λe=>B4 h e⟩
structure Sig where
 args:List ShA
 blks:List ShB
 ti:List Ty
 res:ShV
 out:List ShB
 same:List Bool
 to:List Ty
def mY(g:Sig)(x:(tyL g.ti).D):Option (List TA×List TB):=match mkL mkA g.args (nI g.ti x)with
 |some (xs,l)=>match mkL mkB g.blks l with|some (bl,[])=>some (xs,bl)|_=>none
 |none=>none
def xP(g:Sig)(xs:List TA)(bl:List TB):Option (tyL g.ti).D:=match shL shA xs,shL shB bl with|some (a,l),some (c,k)=>if a=g.args/\c=g.blks then asL g.ti (l++k)else none|_,_=>none
theorem JIc{g:Sig}{xs:List TA}{bl:List TB}{x:(tyL g.ti).D}(h:xP g xs bl=some x):mY g x=some (xs,bl):=by
 unfold xP at h;split at h;rename_i a l c k h1 h2;split at h;rename_i h0;obtain⟨rfl,rfl⟩:=h0;have e:=oX XP h2 [];rw[lV]at e;unfold mY;rw[XC h,oX XU h1 k];simp only[e];cases h;cases h
def HS(g:Sig)(y:(tyL g.to).D):Option (TV×List TB):=match mkV g.res (nI g.to y)with
 |some (v,l)=>match mkL mkB g.out l with|some (out,[])=>some (v,out)|_=>none
 |none=>none
def oP(g:Sig)(v:TV)(out:List TB):Option (tyL g.to).D:=match shV v,shL shB out with|some (a,l),some (c,k)=>if a=g.res/\c=g.out then asL g.to (l++k)else none|_,_=>none
theorem JGw{g:Sig}{v:TV}{out:List TB}{y:(tyL g.to).D}(h:oP g v out=some y):HS g y=some (v,out):=by
 unfold oP at h;split at h;rename_i a l c k h1 h2;split at h;rename_i h0;obtain⟨rfl,rfl⟩:=h0;have e:=oX XP h2 [];rw[lV]at e;unfold HS;rw[XC h,Cs h1 k];simp only[e];cases h;cases h
def flg(same:List Bool)(out:List TB):List (Bool×TB):=match same,out with|b::r,x::l=>(b,x)::flg r l|[],x::l=>(false,x)::flg [] l|_,[]=>[]
theorem KZ: ∀(same:List Bool) (out:List TB),(flg same out).map (·.2)=out|[],[]=>rfl|[],x::l=>by simp only[flg,bU,KZ [] l]|b::r,[]=>rfl|b::r,x::l=>by simp only[flg,bU,KZ r l]
def aE(f:FuncId)(g:Sig)(S:(tyL g.ti).D->Option (tyL g.to).D):TE:=
 ⟨f,λxs bl kk=>match xP g xs bl with
  |some x=>(S x).bind λy=>match HS g y with|some (v,out)=>kk v (flg g.same out)|none=>none
  |none=>none,λxs bl=>(xP g xs bl).isSome⟩
def kc:ShB->Bool| .arr _ _=>false|_=>true
def DY(g:Sig):Bool:=(List.range g.same.length).all λk=>match g.same[k]?,g.blks[k]?,g.out[k]? with|some true,some a,some c=>kc a&&kc c|some true,some _,none=>false|_,_,_=>true
theorem p9{x:TB}{s:ShB}{e:List Lf}(h:shB x=some (s,e))(hb:kc s=true):lnB x=0:=by
 cases x with
 |arr w t rows=>injection h with h;injection h with h1;subst h1;cases hb
 |_=>rfl
theorem WV{α σ:Type}{f:α->Option (σ×List Lf)}: ∀{xs:List α} {e:List σ} {j:List Lf},shL f xs=some (e,j)-> ∀(k:Nat) x,xs[k]?=some x-> ∃s l,e[k]?=some s/\f x=some (s,l)
 |[],_,_,_,k,x,g=>by simp at g
 |y::r,e,j,h,k,x,g=>by
  simp only[shL]at h;split at h;rename_i s l q k' h1 h2;injection h with h;injection h with h3 h4;subst h3 h4;cases k with
  |zero=>simp_all
  |succ k=>exact WV h2 k x (by simpa using g)
  cases h
theorem XV: ∀{same:List Bool} {out:List TB} {k:Nat} {x:TB},(flg same out)[k]?=some (true,x)->same[k]?=some true/\out[k]?=some x
 |[],[],k,x,h=>by simp[flg]at h
 |[],y::l,k,x,h=>by
  cases k with
  |zero=>simp[flg]at h
  |succ k=>simp only[flg,List.getElem?_cons_succ]at h;have:=XV (same:=[]) h;simp at this
 |b::r,[],k,x,h=>by simp[flg]at h
 |b::r,y::l,k,x,h=>by
  cases k with
  |zero=>grind [flg]
  |succ k=>simp only[flg,List.getElem?_cons_succ]at h;simpa using XV h
theorem KE{T:eN}{f:FuncId}{g:Sig}{S:(tyL g.ti).D->Option (tyL g.to).D}(hs:DY g=true)
  (h: ∀x xs bl y,mY g x=some (xs,bl)->S x=some y-> ∃v out,AF T f (xs.map (bV (lns bl))) (bl.map (aY (lns bl)))=some (aT (lns out) v,out.map (aY (lns out)))/\oP g v out=some y):EOk (AF T) (aE f g S):=by
 refine⟨fun{R xs bl kk r} j=>?_⟩;simp only[aE]at j;split at j;rename_i x n;obtain⟨y,L,j⟩:=cK.1 j;split at j;rename_i v out o;obtain⟨C,e,h1,h2⟩:=h x xs bl y (JIc n) L;rw[JGw h2]at o;injection o with o;injection o with hv1 hv2;subst hv1 hv2;refine⟨C,flg g.same e,?_,λk z K A=>?_,j⟩;unfold qC;rw[KZ];have:(flg g.same e).map (λx=>aY (lns e) x.2)=e.map (aY (lns e)):=by
  conv=>rhs;rw[<-KZ g.same e,yE]
  simp[KZ]
 rw[this];exact h1;obtain⟨q,w⟩:=XV K;unfold DY at hs;rw[ST]at hs;have hs:=hs k (by grind);unfold xP at n;split at n;rename_i a l c k' V J;split at n;rename_i H;obtain⟨U,lb,I,M⟩:=WV J k _ (zQ9 A);unfold oP at h2;split at h2;rename_i W Y O P Q G;split at h2;rename_i B;obtain⟨sc,N,F,E⟩:=WV G k z w;rw[q,<-H.2,I,<-B.2,F]at hs;simp only[aS]at hs;rw[p9 E hs.2];unfold lns;rw[zQ9 A];exact(p9 M hs.1).symm;cases h2;cases h2;cases n;cases n;cases j;cases j
theorem lz{T:eN}{f:FuncId}{g:Sig}{fn:TFn}{S:(tyL g.ti).D->Option (tyL g.to).D}{l:List TE}(hf:T f=some (.fn (aL fn)))(hl:yF (AF T) l)(hs:DY g=true)
  (h: ∀x,onO (mY g x) (λy=>uK (TG.of l) fn y.1 y.2 (oP g))=S x):EOk (AF T) (aE f g S):=by
 refine KE hs λx xs bl y j e=>?_;have h0:=h x;rw[j,e]at h0;exact JIm (JKu hl) hf h0
def pX{α β:Type}(S:(α->Option β)->α->Option β):Nat->α->Option β|0=>λ_=>none|n+1=>S (pX S n)
theorem XT{T:eN}{f:FuncId}{g:Sig}{fn:TFn}{S:((tyL g.ti).D->Option (tyL g.to).D)->(tyL g.ti).D->Option (tyL g.to).D}{l:List TE}(hf:T f=some (.fn (aL fn)))(hl:yF (AF T) l)(hs:DY g=true)
  (h: ∀r x,onO (mY g x) (λy=>uK (TG.of (aE f g r::l)) fn y.1 y.2 (oP g))=S r x): ∀n,EOk (AF T) (aE f g (pX S n))
 |0=>KE hs λx xs bl y j e=>by cases e
 |n+1=>lz hf (l:=aE f g (pX S n)::l) (And.intro (XT hf hl hs h n) hl) hs (h (pX S n))
end Go.Am
end
section
namespace Go.Am
end Go.Am
end
section
namespace Go.Am
theorem JGy(t:Ty)(x:t.D)(r:List Lf):lf1 t (⟨t,x⟩::r)=some (x,r):=by simp[lf1]
end Go.Am
end
