/-
  Parts of a proof.
-/
import Derived.Orders
import Derived.LoopN
import Derived.Scope
import Derived.Below
import Derived.Test.YtckgllmahldikaaGreatM1
set_option linter.unusedSimpArgs false
set_option linter.unusedVariables false
set_option linter.unusedSectionVars false
section
namespace Go.Am
section
variable {P:Program} {F:Orc} {s:Sn} {a:Act} {env:List (Nat×AV)} {o:Oper} {new:Nat} {e:Eff}
theorem O8{r:List Blk}(hi:Inv s)(B:Frz r s.σ){x:AV}{y:AV×List (Nat×Blk)}{v:Value}(h:(jS x).run ⟨env,r⟩=some y)(hr:JK s x v):
  ∃g',Inv ⟨upd y.2 s.σ,g',s.w⟩/\bJ s ⟨upd y.2 s.σ,g',s.w⟩/\Frz s.σ (upd y.2 s.σ)/\JK ⟨upd y.2 s.σ,g',s.w⟩ y.1 v:=by
 have same: ∀{z:AV},(RM.ret (z,[]):RM (AV×List (Nat×Blk))).run ⟨env,r⟩=some y->JK s z v-> ∃g',Inv ⟨upd y.2 s.σ,g',s.w⟩/\bJ s ⟨upd y.2 s.σ,g',s.w⟩/\Frz s.σ (upd y.2 s.σ)/\JK ⟨upd y.2 s.σ,g',s.w⟩ y.1 v:=(by intro z j hr;simp only[RM.run]at j;injection j with j;subst j;exact⟨s.g,hi,.refl s,.refl _,hr⟩);cases x with
 |slr b i n=>
  simp only[jS]at h;obtain⟨C,h1,h⟩:=bind_some h;obtain⟨g',o,A,q,c,hc,E⟩:=PH hi B h1 hr;rw[hc]at h;simp only[RM.run]at h;injection h with h;subst h;exact⟨g',o,A,q,.p _ _ E⟩
 |agg cs=>
  simp only[jS]at h;obtain⟨C,h1,h⟩:=bind_some h;simp only[RM.run]at h;injection h with h;subst h;obtain⟨g',o,A,q,F,D⟩:=gi hi B h1 hr;cases hr with
  |agg _ vs h1 I h2=>exact⟨g',o,A,q,.data _ _ F λi x v G H=>D i x v G H⟩
 |tup=>grind [jS,RM.run]
 |p c=>exact same h hr
 |data cs=>exact same h hr
 |ptr b off=>exact same h hr
 |cp cs off=>exact same h hr
 |ep b e i off=>exact same h hr
 |fn f first caps=>exact same h hr
 |unk=>exact same h hr
 |pre b n k=>exact same h hr
theorem x8{o:List Blk}: ∀{xs:List AV} {s:Sn} {y:List AV×List (Nat×Blk)} {vs:List Value},Inv s->Frz o s.σ->(kZ xs).run ⟨env,o⟩=some y->xs.length=vs.length->
  (∀(i:Nat) x v,xs[i]?=some x->vs[i]?=some v->JK s x v)->
  ∃g',Inv ⟨upd y.2 s.σ,g',s.w⟩/\bJ s ⟨upd y.2 s.σ,g',s.w⟩/\Frz s.σ (upd y.2 s.σ)/\y.1.length=vs.length/\
   ∀(i:Nat) x v,y.1[i]?=some x->vs[i]?=some v->JK ⟨upd y.2 s.σ,g',s.w⟩ x v
 |[],s,y,vs,hi,e,h,hl,j=>by
  simp only[kZ,RM.run]at h;injection h with h;subst h;exact⟨s.g,hi,.refl s,.refl _,by simpa using hl,λi c v hc=>by simp at hc⟩
 |x::xs,s,y,[],hi,e,h,hl,j=>by simp at hl
 |x::xs,s,y,v::vs,hi,e,h,hl,j=>by
  simp only[kZ]at h;obtain⟨r,h1,h⟩:=bind_some h;obtain⟨H,h2,h⟩:=bind_some h;simp only[RM.run]at h;injection h with h;subst h;obtain⟨B,i1,n,k,I⟩:=O8 hi e h1 (j 0 x v rfl rfl);obtain⟨A,i2,q,z,E,J⟩:=x8 (s:=⟨upd r.2 s.σ,B,s.w⟩) i1 (e.trans k) h2 (by simpa using hl) λi x v C D=>(j (i+1) x v (by simpa using C) (by simpa using D)).mono hi n;refine⟨A,by grind [fH],by rw[fH];exact n.trans q,by rw[fH];exact k.trans z,by simp[E],λi c' G hc' F=>?_⟩;grind [JK.mono,upd]
def Kj(s1:Sn)(es:List Ent)(new:Nat)(e:Ent)(x:Blk)(y:Nat×Blk):Prop:=
 y.1=e.id/\match e with
 | .whole _=>(∃cs l,x=.box cs/\bk.bkL es new cs=some l/\y.2=.box l)\/(∃w esz rows,x=.arr w esz rows/\y.2=.arr w esz rows)
 | .elem b _ i=> ∃w esz rows g,s1.σ[b]?=some (.arr w esz rows)/\x=.box (g.map .p)/\y.2=.arr w esz (rows.set i g)
theorem JGI{g:List Blk}{ws:List (Nat×Blk)}(j:s.σ=upd ws g){es:List Ent}{en:Ent}{x:Blk}{y:Nat×Blk}(h:(vR ws es new en x).run ⟨env,g⟩=some y):Kj s es new en x y:=by
 unfold vR at h;split at h;rename_i b cs;split at h;rename_i l hl;simp only[RM.run]at h;injection h with h;subst h;exact⟨rfl,.inl ⟨cs,l,rfl,hl,rfl⟩⟩;cases h;simp only[RM.run]at h;injection h with h;subst h;exact⟨rfl,.inr ⟨_,_,_,rfl,rfl⟩⟩;rename_i b ext i cs;obtain⟨z,h1,h⟩:=bind_some h;have hb:=js h1;rw[<-j]at hb;cases z with
 |arr w esz rows=>
  dsimp only at h;split at h;rename_i e k;simp only[RM.run]at h;injection h with h;subst h;exact⟨rfl,w,esz,rows,e,hb,by grind [OY],rfl⟩;cases h
 |_=>cases h
 cases h
theorem A6{j:List Blk}{ws:List (Nat×Blk)}(n:s.σ=upd ws j){es:List Ent}: ∀{e:List Ent} {xs:List Blk} {g:List (Nat×Blk)},(jM ws es new e xs).run ⟨env,j⟩=some g->
  e.length=g.length/\e.length<=xs.length/\ ∀(k:Nat) en x y,e[k]?=some en->xs[k]?=some x->g[k]?=some y->Kj s es new en x y
 |[],xs,g,h=>by grind [jM,RM.run]
 |_::_,[],g,h=>by cases h
 |en::e,x::xs,g,h=>by
  simp only[jM]at h;obtain⟨y,h1,h⟩:=bind_some h;obtain⟨l,h2,h⟩:=bind_some h;simp only[RM.run]at h;injection h with h;subst h;obtain⟨o,q,r⟩:=A6 n h2;grind [JGI]
theorem ml{es:List Ent}: ∀{xs:List Blk} {g:Nat} {e:List (Nat×Blk)},iJ es new g xs=some e->
  xs.length=e.length/\ ∀(j:Nat) x y,xs[j]?=some x->e[j]?=some y->y.1=g+j/\((∃cs l,x=.box cs/\bk.bkL es new cs=some l/\y.2=.box l)\/(∃w esz rows,x=.arr w esz rows/\y.2=.arr w esz rows))
 |[],g,e,h=>by grind [iJ]
 | .dead::_,g,e,h=>by grind [iJ]
 | .box cs::xs,g,e,h=>by
  simp only[iJ]at h;split at h;rename_i c l hc hl;injection h with h;subst h;obtain⟨k,n⟩:=ml hl;grind;cases h
 | .arr w esz rows::xs,g,e,h=>by
  simp only[iJ]at h;split at h;rename_i l hl;injection h with h;subst h;obtain⟨k,n⟩:=ml hl;grind;cases h
theorem xu(b:Nat)(p q:List (Nat×Blk)):kD b (p++q)=match kD b q with
  |some y=>some y
  |none=>kD b p:=by
 induction p with
 |nil=>grind [kD]
 |cons x p ih=>
  grind [kD]
theorem kd{b:Nat}{x:Blk}: ∀{ws:List (Nat×Blk)},(ws.map (·.1)).Nodup-> ∀{k:Nat},ws[k]?=some (b,x)->kD b ws=some x
 |[],_,k,h=>by simp at h
 |(c,z)::r,hn,k,h=>by
  obtain⟨h1,h2⟩:=List.nodup_cons.1 hn;simp only[kD];cases k with
  |zero=>
   grind [zL]
  |succ k=>rw[kd h2 (k:=k) (by simpa using h)]
theorem JCK(n k:Nat):((List.range k).map (n+ ·)).Nodup:=by
 grind [List.nodup_range]
theorem xx(hF:kJ P F){f:FuncId}{ar:List AV×List (Nat×Blk)}{q:Nat}{vals:Array Value}(H: ∀j,j<q->s.σ[new+j]?=some .dead)
  {g1:Gh} (i1:Inv ⟨upd ar.2 s.σ,g1,s.w⟩) (t1:bJ s ⟨upd ar.2 s.σ,g1,s.w⟩) (f1:Frz s.σ (upd ar.2 s.σ)) (l1:ar.1.length=vals.toList.length)
  (r1: ∀(i:Nat) x v,ar.1[i]?=some x->vals.toList[i]?=some v->JK ⟨upd ar.2 s.σ,g1,s.w⟩ x v)
  (h:(fW F f ar q new).run ⟨env,s.σ⟩=some e)
  (ai: ∀fn,P.funcs[f]?=some fn→fn.body.isSome=true→(fn.name== "runtime.NumGoroutine")=false→(execOp a.eval o).run P s.w=.ok (.enter f vals) s.w):cA P o a s e:=by
 unfold fW at h;obtain⟨b6,h2,h⟩:=bind_some h;obtain⟨es,h3,h⟩:=bind_some h;split at h;rename_i ah;split at h;cases h;rename_i N a6;obtain⟨blks,h4,h⟩:=bind_some h;split at h;cases h;rename_i r a8;split at h;rename_i V;obtain⟨k,hlen,hk⟩: ∃k,r.2.length=es.length+k/\k<=q:=⟨r.2.length-es.length,by omega,by omega⟩;have M: ∀j,j<k->s.σ[new+j]?=some .dead:=λj hj=>H j (by omega);clear V;split at h;rename_i v fresh hv K;obtain⟨n,h5,h⟩:=bind_some h;simp only[RM.run]at h;injection h with h;subst h
 let s1:Sn:=⟨upd ar.2 s.σ,g1,s.w⟩
 obtain⟨bl,a5⟩:=Ac (s:=s1) rfl h4;have cin:fu s1 es blks:=⟨i1,XB ah,bl,a5⟩;obtain⟨⟨fn,af,O,S⟩,R⟩:=hF f N blks r a8;obtain⟨q1,q2⟩:=wC a6;have ci:=JR6 cin;have hc:=R (iP s1 es blks).g s.w vals ci (by grind) (λi x v hx hv=>by have A:=JD hx;have Y:ar.1[i]?=some (ar.1[i]'(by omega)):=bC _;exact I7 cin (r1 i _ v Y (by simpa using hv)) (q2 i _ x Y hx));intro next Q T;simp only[Oper.wp,ai fn af O S,Oper.upon];refine hc.mono ?_;rintro e w' ⟨rv,g',rfl,a7,I,a3⟩;simp only;obtain⟨b1,b2,b3⟩:=A6 (s:=s1) rfl h5;obtain⟨n1,n2⟩:=ml K;have B: ∀j,j<k->s1.σ[new+j]?=some .dead:=λj hj=>f1.2 _ _ (M j hj) (by simp);have b9:(r.2.drop es.length).length=k:=by simp;omega
 have ac:n.map (·.1)=es.map Ent.id:=(by apply zQ6;intro i;rw[iB,iB];by_cases A:i<es.length;have E:es[i]?=some es[i]:=bC A;have L:n[i]?=some (n[i]'(by omega)):=bC _;have G:r.2[i]?=some (r.2[i]'(by omega)):=bC _;have:=(b3 i _ _ _ E G L).1;grind;grind);have ab: ∀j,j<k->fresh[j]?=some (new+j,(fresh[j]?.map (·.2)).getD .dead):=(by grind);have am:(fresh.map (·.1)).Nodup:=(by have:fresh.map (·.1)=(List.range k).map (new+ ·):=(by apply zQ6;grind);grind [JCK]);have al: ∀b,b∈fresh.map (·.1)↔new<=b/\b<new+k:=(by intro b;constructor;grind [List.getElem?_of_mem];intro hm;have:=ab (b-new) (by omega);grind);have W:(upd (n++fresh) s1.σ).length=s1.σ.length:=CU _ _;have U: ∀{q:Nat} {en:Ent},es[q]?=some en->en.id<s1.σ.length/\ ¬(new<=en.id/\en.id<new+k):=by
  intro q en C;obtain⟨x,_,Z⟩:=sQ cin C;have z: ∃y,s1.σ[en.id]?=some y/\y≠.dead:=by
   cases en with
   |whole b=>
    rcases Z with⟨cs',l,h1,h2,rfl⟩|⟨w,a2,rows',h1,rfl⟩;exact⟨_,h1,by simp⟩;exact⟨_,h1,by simp⟩
   |elem b ext i=>obtain⟨a2,rows',row,h1,h2,h3,rfl⟩:=Z;exact⟨_,h1,by simp⟩
  obtain⟨y,z,hd⟩:=z;refine⟨JD z,λhm=>?_⟩;have:=B (en.id-new) (by omega);rw[show new+(en.id-new)=en.id by omega,z]at this;grind
 have aa: ∀{q:Nat} {en:Ent} {y:Nat×Blk},es[q]?=some en->n[q]?=some y->(upd (n++fresh) s1.σ)[en.id]?=some y.2:=by intro q en y C z;obtain⟨A,b7⟩:=U C;have G:r.2[q]?=some (r.2[q]'(by grind)):=bC _;have ag:=(b3 q en _ y C G z).1;rw[yV _ _ _ A,xu,zL (by grind)];simp only;rw[kd (x:=y.2) (by rw[ac];exact cin.nodup) (k:=q) (by grind)]
 have av: ∀{j:Nat} {y:Nat×Blk},j<k->fresh[j]?=some y->(upd (n++fresh) s1.σ)[new+j]?=some y.2:=(by grind [yV,xu,kd]);have co:Nq s1 es blks new k ⟨r.2,g',w'⟩ (upd (n++fresh) s1.σ):=by
  refine⟨cin,a7,I,hlen,W,B,λq y z=>?_,λb bb b8=>?_⟩;have z:r.2[q]?=some y:=z;unfold qO;cases C:es[q]? with
  |some en=>
   have A:=JD C;have L:n[q]?=some (n[q]'(by omega)):=bC _;obtain⟨ag,a0⟩:=b3 q en y _ C z L;have hg:=aa C L;cases en with
   |whole b=>
    rcases a0 with⟨cs,l,E,G,J⟩|⟨w,esz,rows,E,J⟩;exact .inl ⟨cs,l,E,G,by rw[<-J];exact hg⟩;exact .inr ⟨w,esz,rows,E,by rw[<-J];exact hg⟩
   |elem b ext i=>obtain⟨w,esz,rows,a4,E,G,J⟩:=a0;exact⟨w,esz,rows,a4,E,G,by rw[<-J];exact hg⟩
  |none=>
   have ba:es.length<=q:=(by grind);have A:=JD z;have L:fresh[q-es.length]?=some (fresh[q-es.length]'(by omega)):=bC _;grind
  grind [yV,zL]
 have oi:=JNv co;have ot:=yr co;have D:upd (ar.2++n++fresh) s.σ=upd (n++fresh) s1.σ:=by grind [fH]
 refine T rv w' (fP s1 es new k ⟨r.2,g',w'⟩ (upd (n++fresh) s1.σ)).g ?_ ?_ ?_;rw[D];exact oi;rw[D];exact t1.trans ot;rw[D];exact Nx co a3 hv;cases h;cases h;cases h
theorem Mh{f:FuncId}{args:List AV}{k:Nat}{s:St}(h:(iT F f args k new).run s=some e): ∃ar,(kZ args).run s=some ar/\(fW F f ar k new).run s=some e:=by
 unfold iT at h;obtain⟨ar,h1,h⟩:=bind_some h;obtain⟨w,h2,h⟩:=bind_some h;obtain⟨es,v,h⟩:=bind_some h;refine⟨ar,h1,?_⟩;unfold fW;rw[run_bind,h2,JE,run_bind,v,JE];split at h;rename_i n;rw[if_pos n];split at h;cases h;rename_i o g;obtain⟨blks,q,h⟩:=bind_some h
 try rw[g]
 try dsimp only
 rw[run_bind,q,JE];split at h;cases h;rename_i r j
 try rw[j]
 try dsimp only
 split at h;grind;cases h;cases h
theorem Mk(z:kJ P F)(hi:Inv s){f:FuncId}{args:List AV}{k:Nat}{vals:Array Value}(g: ∀j,j<k->s.σ[new+j]?=some .dead)
  (h:(iT F f args k new).run ⟨env,s.σ⟩=some e) (hl:args.length=vals.size) (hr: ∀(i:Nat) x v,args[i]?=some x->vals[i]?=some v->JK s x v)
  (r: ∀fn,P.funcs[f]?=some fn→fn.body.isSome=true→(fn.name== "runtime.NumGoroutine")=false→(execOp a.eval o).run P s.w=.ok (.enter f vals) s.w):cA P o a s e:=by
 obtain⟨ar,h1,h2⟩:=Mh h;obtain⟨D,i1,A,y,B,C⟩:=x8 (vs:=vals.toList) hi (.refl _) h1 (by simpa using hl) (λi x v n q=>hr i x v n (by simpa using q));grind [xx]
theorem JIt{q:List Blk}: ∀{m:List Bool} {xs:List AV} {s:Sn} {y:List AV×List (Nat×Blk)} {vs:List Value},Inv s->Frz q s.σ->(fO m xs).run ⟨env,q⟩=some y->xs.length=vs.length->
  (∀(i:Nat) x v,xs[i]?=some x->vs[i]?=some v->JK s x v)->
  ∃g',Inv ⟨upd y.2 s.σ,g',s.w⟩/\bJ s ⟨upd y.2 s.σ,g',s.w⟩/\Frz s.σ (upd y.2 s.σ)/\y.1.length=vs.length/\
   ∀(i:Nat) x v,y.1[i]?=some x->vs[i]?=some v->JK ⟨upd y.2 s.σ,g',s.w⟩ x v:=by
 intro m xs
 induction xs generalizing m with
 |nil=>
  intro s y vs hi o h hl j;have h:(RM.ret ([],[]):RM (List AV×List (Nat×Blk))).run ⟨env,q⟩=some y:=by cases m<;>exact h
  simp only[RM.run]at h;injection h with h;subst h;exact⟨s.g,hi,.refl s,.refl _,by simpa using hl,λi c v hc=>by simp at hc⟩
 |cons x xs ih=>
  intro s y vs hi o h hl j;cases vs with
  |nil=>simp at hl
  |cons v vs=>
   have r: ∀{z:List Bool},((jS x).bind λa=>(fO z xs).bind λc=>.ret (a.1::c.1,a.2++c.2)).run ⟨env,q⟩=some y->
     ∃g',Inv ⟨upd y.2 s.σ,g',s.w⟩/\bJ s ⟨upd y.2 s.σ,g',s.w⟩/\Frz s.σ (upd y.2 s.σ)/\y.1.length=(v::vs).length/\
      ∀(i:Nat) x n,y.1[i]?=some x->(v::vs)[i]?=some n->JK ⟨upd y.2 s.σ,g',s.w⟩ x n:=by
    intro z h;obtain⟨H,h1,h⟩:=bind_some h;obtain⟨I,h2,h⟩:=bind_some h;simp only[RM.run]at h;injection h with h;subst h;obtain⟨J,i1,G,F,L⟩:=O8 hi o h1 (j 0 x v rfl rfl);obtain⟨B,i2,k,A,E,K⟩:=ih (m:=z) (s:=⟨upd H.2 s.σ,J,s.w⟩) i1 (o.trans F) h2 (by simpa using hl) λi x v C D=>(j (i+1) x v (by simpa using C) (by simpa using D)).mono hi G;refine⟨B,by grind [fH],by rw[fH];exact G.trans k,by rw[fH];exact F.trans A,by simp[E],λi c' n hc' e=>?_⟩;grind [JK.mono,upd]
   cases m with
   |nil=>exact r h
   |cons b m=>
    cases b with
    |false=>exact r h
    |true=>
     simp only[fO]at h;obtain⟨I,h2,h⟩:=bind_some h;simp only[RM.run]at h;injection h with h;subst h;obtain⟨B,i2,k,A,E,K⟩:=ih (m:=m) hi o h2 (by simpa using hl) λi x v C D=>j (i+1) x v (by simpa using C) (by simpa using D);refine⟨B,i2,k,A,by simp[E],λi c' n hc' e=>?_⟩;cases i with
     |zero=>simp at hc' e;subst hc' e;exact(j 0 x v rfl rfl).mono hi k
     |succ i=>grind
theorem m0{f:FuncId}{args:Array Value}{fn:Func}(h1:P.funcs[f]?=some fn)(h2:fn.body.isSome=true)(h3:(fn.name== "runtime.NumGoroutine")=false)(w:World):
  (callFunc f args).run P w=.ok (.enter f args) w:=by
 have e:fn.name≠ "runtime.NumGoroutine" :=by simpa using h3
 have g:fn.body≠none:=by grind
 simp_all [callFunc]
theorem JNV(y:kJ P F)(hi:Inv s)(he:bV s a.tmps env){f args k}(n: ∀j,j<k->s.σ[new+j]?=some .dead)(h:(opR F (.call f args k) new).run ⟨env,s.σ⟩=some e)
  (hc:bD P (.call f args k) o.op=true):cA P o a s e:=by
 simp only[opR]at h;obtain⟨vs,h1,w⟩:=bind_some h;clear h;unfold bD at hc;simp only at hc;split at hc;rename_i c C;split at hc;rename_i g z;simp only[aY,beq_iff_eq]at hc;obtain⟨rfl,q⟩:=hc;obtain⟨l,r⟩:=ID he h1 q;refine Mk y hi n w (vals:=c.args.map a.eval) (by simpa using l) (λi x v A B=>r i x v A (by simpa using B)) λfn G E D=>?_;simp_all [execOp,resolve,Act.eval,Deferred.ofValue,invoke,m0];cases hc;cases hc
theorem JKb(z:kJ P F)(hi:Inv s)(he:bV s a.tmps env){f keep args k}(n: ∀j,j<k->s.σ[new+j]?=some .dead)(h:(opR F (.callo f keep args k) new).run ⟨env,s.σ⟩=some e)
  (hc:bD P (.callo f keep args k) o.op=true):cA P o a s e:=by
 simp only[opR]at h;obtain⟨vs,h1,w⟩:=bind_some h;obtain⟨ar,h2,G⟩:=bind_some w;clear h w;unfold bD at hc;simp only at hc;split at hc;rename_i c J;split at hc;rename_i g A;simp only[aY,beq_iff_eq]at hc;obtain⟨rfl,q⟩:=hc;obtain⟨l,r⟩:=ID he h1 q;obtain⟨E,i1,B,y,C,D⟩:=JIt (vs:=(c.args.map a.eval).toList) hi (.refl _) h2 (by simpa using l) (λi x v H I=>r i x v H (by simpa using I));refine xx z n (vals:=c.args.map a.eval) i1 B y C D G λfn E L K=>?_;simp_all [execOp,resolve,Act.eval,Deferred.ofValue,invoke,m0];cases hc;cases hc
theorem JK4(C:kJ P F)(hi:Inv s)(he:bV s a.tmps env){x args k}(g: ∀j,j<k->s.σ[new+j]?=some .dead)(h:(opR F (.callv x args k) new).run ⟨env,s.σ⟩=some e)
  (hc:bD P (.callv x args k) o.op=true):cA P o a s e:=by
 simp only[opR]at h;obtain⟨u,E,q⟩:=bind_some h;clear h;unfold bD at hc;simp only at hc;split at hc;rename_i c G;split at hc;rename_i y D;simp only[aY]at hc;obtain⟨B,n⟩:=hc;have A:=bR he E B;cases u with
 |fn f first caps=>
  dsimp only at q;obtain⟨vs,h1,w⟩:=bind_some q;obtain⟨l,r⟩:=ID he h1 n;generalize N:a.eval y=z at A;cases A with
  |fn _ _ _ fs cs K J H I=>
   have l':vs.length=c.args.size:=by simpa using l
   refine Mk C hi g w (vals:=fs++c.args.map a.eval++cs) (by simp;omega) (λi x v B Q=>?_) λfn O M L=>?_;grind;grind [execOp,resolve,Deferred.ofValue,invoke,m0]
 |_=>cases q
 cases hc;cases hc
end
section
variable {P:Program} {F:Orc} {s:Sn} {a:Act} {env:List (Nat×AV)} {o:Oper} {new:Nat} {e:Eff}
theorem j9: ∀(os:List (Nat×Nat)) (n:Nat) {s:Sn},Inv s->(∀j,j<os.length->s.σ[n+j]?=some .dead)->
  ∃g',Inv ⟨upd (iF os n) s.σ,g',s.w⟩/\bJ s ⟨upd (iF os n) s.σ,g',s.w⟩/\
   (∀j,j<os.length->(∃esz,(upd (iF os n) s.σ)[n+j]?=some (.arr true esz []))/\g'.μ (n+j)=none)/\
   (∀b,b<n\/n+os.length<=b->(upd (iF os n) s.σ)[b]?=s.σ[b]?/\g'.μ b=s.g.μ b)
 |[],n,s,hi,_=>⟨s.g,hi,.refl s,λj e=>by simp at e,λb _=>⟨rfl,rfl⟩⟩
 |(off,esz)::r,n,s,hi,hd=>by
  obtain⟨i1,v⟩:=VI hi (hd 0 (by simp)) esz;obtain⟨g',i2,q,h1,h2⟩:=j9 r (n+1) (s:=⟨s.σ.set n (.arr true esz []),fM s.g n none,s.w⟩) i1 (λj e=>by
   show(s.σ.set n _)[n+1+j]?=_;rw[tK (by omega)];have:=hd (j+1) (by simp;omega);grind)
  refine⟨g',i2,v.trans q,λj e=>?_,λb hb=>?_⟩;cases j with
  |zero=>
   obtain⟨o,k⟩:=h2 n (.inl (by omega));refine⟨⟨esz,?_⟩,?_⟩;grind [upd,iF];rw[xN,k];exact if_pos rfl
  |succ j=>have:=h1 j (by simpa using e);rw[show n+(j+1)=n+1+j by omega];exact this
  obtain⟨o,k⟩:=h2 b (by grind);have h:n≠b:=by grind
  exact⟨o.trans (tK h),k.trans (if_neg (Ne.symm h))⟩
theorem z7{t:TypeId}{os:List (Nat×Nat)}{v:Value}(hv:zeT P t=some v)(h:TD P t os=true): ∀x∈os,v.cells[x.1]?=some (.slice none 0 0):=by
 grind [TD]
theorem j8{cells:Array Value}: ∀(os:List (Nat×Nat)) (n:Nat) {cs:List AV},(∀x∈os,cells[x.1]?=some (.slice none 0 0))->
  (∀j,j<os.length->(∃esz,s.σ[n+j]?=some (.arr true esz []))/\s.g.μ (n+j)=none)->
  (∀(i:Nat) x,cs[i]?=some x-> ∃u,cells[i]?=some u/\JK s x u/\u.oneCell'=true)->
  ∀(i:Nat) x,(nI os n cs)[i]?=some x-> ∃u,cells[i]?=some u/\JK s x u/\u.oneCell'=true
 |[],_,_,_,_,h=>h
 |(off,esz)::r,n,cs,hz,ha,h=>by
  refine j8 r (n+1) (λx e=>hz x (by simp[e])) (λj q=>by
   have:=ha (j+1) (by simpa using q);grind) λi x e=>?_
  by_cases hi:off=i;subst hi;have k:=JD e;rw[List.length_set]at k;rw[QN k]at e;injection e with e;subst e;obtain⟨⟨o,h1⟩,h2⟩:=ha 0 (by simp);rw[xN]at h1 h2;exact⟨.slice none 0 0,hz (off,esz) (by simp),.slr n 0 0 _ true o [] ⟨none,0,rfl,.inl rfl⟩ h1 (zQ0 _) λ_=>.inl ⟨h2,rfl,rfl,rfl⟩,rfl⟩;simp_all
theorem ju: ∀(os:List (Nat×Nat)) (n:Nat) (cs:List AV),(nI os n cs).length=cs.length|[],_,_=>rfl|_::r,n,cs=>(ju r (n+1) _).trans (by simp)
theorem JFk(hi:Inv s){zero os}(n: ∀j,j<os.length+1->s.σ[new+j]?=some .dead)(h:(opR F (.newboxo zero os) new).run ⟨env,s.σ⟩=some e)(hc:bD P (.newboxo zero os) o.op=true):cA P o a s e:=by
 simp only[opR,RM.run]at h;injection h with h;subst h;unfold bD at hc;simp only at hc;split at hc;rename_i t J;simp only[aY]at hc;obtain⟨B,E⟩:=hc;obtain⟨v,G,hl,D⟩:=DD B;obtain⟨r,i1,z,h1,h2⟩:=j9 os new hi λj M=>n j (by omega);have hd:(upd (iF os new) s.σ)[new+os.length]?=some .dead:=((h2 _ (.inr (zQ0 _))).1).trans (n _ (by omega))
 let s1:Sn:=⟨upd (iF os new) s.σ,r,s.w⟩
 obtain⟨A,t'⟩:=VD (s0:=s1) i1 hd (blk:=.box (nI os new (zero.map .p))) (c:=v.cells) (e:=t) (fz:=(0,0)) (w':={s.w with heap:=s.w.heap.push (.cells v.cells t)}) rfl rfl rfl
  (λo _ _ h=>by simp at h) (λ_ _ _ h=>by cases h) ⟨by grind [ju],λi x q=>by
   obtain⟨u,L,K,I⟩:=j8 (s:=s1) (cells:=v.cells) os new (z7 G E) h1 (λi x q=>by
    rw[iB]at q;cases hzi:zero[i]? with
    |none=>simp_all
    |some c=>
     simp[hzi]at q;subst q;have H:=JD hzi;have y:i<v.cells.size:=by omega
     have:=D (w:=s1.w) (C:=s1.g.C) i c v.cells[i] hzi (by simp);exact⟨v.cells[i],by simp,.p _ _ this,this.one⟩) i x q
   simp_all⟩
 have k:upd (iF os new++[(new+os.length,Blk.box (nI os new (zero.map .p)))]) s.σ=(upd (iF os new) s.σ).set (new+os.length) (.box (nI os new (zero.map .p))):=by rw[fH];rfl
 refine hJ (e:=⟨.ptr (new+os.length) 0,iF os new++[(new+os.length,.box (nI os new (zero.map .p)))]⟩) (v:=.pointer (some ⟨s.w.heap.size,0,none⟩)) (g':=fM r (new+os.length) (some (s.w.heap.size,0))) ?_
  (by rw[k];exact A) (by rw[k];exact z.trans t') (by rw[k];exact .ptr (new+os.length) 0 _ 0 (if_pos rfl) ⟨_,kP hd⟩)
 simp_all [execOp,Instr.alloc,IQ,newVar,newRow];cases hc
theorem JIq(hi:Inv s)(he:bV s a.tmps env)(hn:s.σ[new]?=some .dead){esz x}(h:(opR F (.storen esz x) new).run ⟨env,s.σ⟩=some e)(hc:bD P (.storen esz x) o.op=true):cA P o a s e:=by
 simp only[opR]at h;obtain⟨u,h1,L⟩:=bind_some h;obtain⟨G,h2,B⟩:=bind_some L;clear h L;simp only[RM.run]at B;injection B with B;subst B;obtain⟨J,Q⟩:=VI hi hn esz;unfold bD at hc;simp only at hc;split at hc;rename_i t M ad;simp only[aY,beq_iff_eq]at hc;obtain⟨hs,hx⟩:=hc;have v:=bR he h1 hx;have N: ∀{r n:Nat} {w':World},a.eval M=.pointer (some ⟨r,n,none⟩)->(storeVar t ⟨r,n,none⟩ (.slice none 0 0)).run P s.w=.ok () w'->(execOp a.eval o).run P s.w=.ok .skip w':=by intro r n w' R a6;have a9:a.eval (.const (.slice none 0 0))=.slice none 0 0:=rfl;simp_all [execOp,Instr.storeAt,Instr.sureAddr]
 unfold iV at h2;split at h2;rename_i b off;simp only[RM.run]at h2;split at h2;rename_i blk hb;split at h2;rename_i cs;split at h2;rename_i l hl;split at h2;rename_i a3;split at h2;rename_i cs' D;simp only[RM.run]at h2;injection h2 with h2;subst h2;have hb:s.σ[b]?=some (.box cs):=hb;have O:new≠b:=λe=>by simp_all
 let s1:Sn:=⟨s.σ.set new (.arr true esz []),fM s.g new none,s.w⟩
 have C:s1.σ[b]?=some (.box cs):=(tK O).trans hb;have Y:JK s1 (.slr new 0 0) (.slice none 0 0):=
  .slr new 0 0 _ true esz [] ⟨none,0,rfl,.inl rfl⟩ (kP hn) (zQ0 _) λ_=>.inl ⟨if_pos rfl,rfl,rfl,rfl⟩
 generalize R:a.eval M=z at v;have v:=JK.mono (s:=s1) hi Q v;cases v with
 |ptr _ _ r n m a7=>
  obtain⟨Z,I,W⟩:=XO hl Y;obtain⟨S,j2,U,j4⟩:=UT D;obtain⟨r1,o1,c,et,fz,A,H,aa,a8,hf⟩:=J.box b cs C;rw[m]at A;injection A with A;injection A with m1 m2;subst m1 m2;have q:=PX (vs:=(Value.slice none 0 0).cells.toList) (o:=n+off) H (by simp;omega);have hlen:(Value.slice none 0 0).cells.toList.length=l.length:=by simp[Z]
  obtain⟨i',t'⟩:=lj (s0:=s1) J (blk:=.box cs') C q (λk h1 h2=>by
   grind [Wr1]) (.box _ _ S) (λa4 j E=>by
   injection j with j;subst j;obtain⟨c0,e0,ac,c',y,T,p3,p4,V,p6⟩:=q.there;rw[H]at y;injection y with y;injection y with q1 q2 q3;subst q1 q2 q3;refine⟨r,n,c',et,fz,m,T,by omega,λi x K=>?_,by simp_all⟩;by_cases ae:off<=i/\i<off+l.length;have G:cs'[off+(i-off)]?=l[i-off]?:=U (i-off) (by omega);rw[show off+(i-off)=i by omega,K]at G;have a5:i-off<(Value.slice none 0 0).cells.size:=by omega
   have e2:=V (i-off) (Value.slice none 0 0).cells[i-off] (by simp);refine⟨(Value.slice none 0 0).cells[i-off],by rw[<-e2];congr 1;omega,E (W (i-off) x _ G.symm (by simp)),I _ (by simp)⟩;grind)
   (λ_ _ j=>by cases j)
  refine kz (e:=⟨hE,(new,.arr true esz [])::[(b,.box cs')]⟩) (N R (m6 (by simp_all) H (by omega) (λk h1 h2=>hf k (by omega) (by omega)) I)) rfl i' (Q.trans t')
 cases h2;cases h2;cases h2;cases h2;cases h2;rename_i b ext i off;have ab:(fz (.slr new 0 0)).run ⟨env,s.σ⟩=none:=(by grind [fz,RM.run]);simp only[RM.run]at h2;split at h2;split at h2;split at h2;split at h2;grind [run_bind];cases h2;cases h2;cases h2;cases h2;cases h2;cases hc
theorem JIT(hi:Inv s)(he:bV s a.tmps env){zero parts os}(D: ∀j,j<os.length->s.σ[new+j]?=some .dead)(h:(opR F (.buildo zero parts os) new).run ⟨env,s.σ⟩=some e)
  (hc:bD P (.buildo zero parts os) o.op=true):cA P o a s e:=by
 simp only[opR]at h;obtain⟨l,h1,q⟩:=bind_some h;clear h;unfold bD at hc;simp only at hc;split at hc;rename_i t ps a9;simp only[aY]at hc;obtain⟨⟨hz,hn⟩,ht⟩:=hc;obtain⟨z,M,aa,O⟩:=DD hz;obtain⟨Q,i1,N,J,ab⟩:=j9 os new hi D;split at q;rename_i cs hcs;split at q;rename_i r h3;simp only[RM.run]at q;injection q with q;subst q
 let s1:Sn:=⟨upd (iF os new) s.σ,Q,s.w⟩
 have E: ∀(i:Nat) x,(nI os new (zero.map AV.p))[i]?=some x-> ∃u,z.cells[i]?=some u/\JK s1 x u/\u.oneCell'=true:=
  j8 (s:=s1) (cells:=z.cells) os new (z7 M hn) J (by
   intro i x I;rw[iB]at I;cases hzi:zero[i]? with
   |none=>simp_all
   |some c=>
    simp[hzi]at I;subst I;have K:=JD hzi;have W:i<z.cells.size:=by omega
    have:=O (w:=s1.w) (C:=s1.g.C) i c z.cells[i] hzi (by simp);exact⟨z.cells[i],by simp,.p _ _ this,this.one⟩)
 have fin: ∀{place:Nat->Option (Nat×Nat)},tF place parts ps.toList=true->
   ∃n,Instr.fill place z.cells (ps.toList.map λx=>(x.1,a.eval x.2))=some n/\JK s1 r (.agg n):=by
  intro place B;obtain⟨T,k2⟩:=lz he h1 B;obtain⟨n,L,Z,f3⟩:=kn (s:=s1) (cells:=z.cells) hcs T (λk off size cs i v hk G=>by obtain⟨Y,V,S,U⟩:=k2 k off size cs i v hk G;exact⟨Y,V,S,λj y u R H=>(U j y u R H).mono hi N⟩) (by grind [ju]) E;refine⟨n,L,?_⟩;have:=UC (s:=s1) (vs:=n.toList) h3 (by simpa using Z) (λv G=>by
    obtain⟨i,hi'⟩:=jY G;have hi':n[i]?=some v:=by simpa using hi'
    have K:=XC hi';obtain⟨u,H,_,h1⟩:=f3 i cs[i] (by simp_all);simp_all)
   (λi y v R G=>by
    grind)
  simp_all
 have ac:(ps.map λx=>(x.1,a.eval x.2)).toList=ps.toList.map λx=>(x.1,a.eval x.2):=by simp
 split at ht;rename_i fs H;simp only[aY]at ht;obtain⟨A,B⟩:=ht;obtain⟨n,L,hr⟩:=fin B;have a8:(λi=>(fs.map λf=>(f.offset,(szT P f.type).getD 0))[i]?)=IF P fs:=by
  funext i
  simp only[IF,Array.getElem?_map];cases hfi:fs[i]? with
  |none=>rfl
  |some f=>have:=ZY.1 A f (Array.mem_of_getElem? hfi);cases hq:szT P f.type<;>simp[hq]at this⊢
 have a1:(fs.mapM λf=>do pure (f.offset,<-sizeOf f.type):Sem (Array (Nat×Nat))).run P s.w=.ok (fs.map λf=>(f.offset,(szT P f.type).getD 0)) s.w:=by
  rw[Array.mapM_eq_mapM_toList];simp only[Sem.run_map,ly (P:=P) (fs:=fs.toList) (λf hf=>ZY.1 A f (by simpa using hf)),uT]
  congr 1
  grind
 have hf:Instr.fill (λi=>(fs.map λf=>(f.offset,(szT P f.type).getD 0))[i]?) z.cells (ps.map λx=>(x.1,a.eval x.2)).toList=some n:=by simp_all
 have hb:(Instr.build t (ps.map λx=>(x.1,a.eval x.2))).run P s.w=.ok (.agg n) s.w:=by simp_all [Instr.build,IQ,run_underlying]
 refine hJ (e:=⟨r,iF os new⟩) (v:=.agg n) (g':=Q) ?_ i1 N hr;simp_all [execOp];cases ht;cases q;cases q;cases hc
end
theorem N1{new:Nat}{env:List (Nat×AV)}{σ:List Blk}: ∀{k new:Nat} {u:Unit},(vG new k).run ⟨env,σ⟩=some u-> ∀j,j<k->σ[new+j]?=some .dead
 |0,_,_,_,j,hj=>by omega
 |k+1,new,u,h,j,hj=>by
  simp only[vG,RM.run]at h;split at h;rename_i x e;cases x with
  |dead=>
   dsimp only at h;cases j with
   |zero=>exact e
   |succ j=>have:=N1 (new:=0) h j (by omega);grind
  |box=>cases h
  |arr=>cases h
  cases h
section
variable {P:Program} {F:Orc} {s:Sn} {a:Act} {env:List (Nat×AV)} {o:Oper} {new:Nat} {e:Eff}
theorem JRX(q:kJ P F)(hi:Inv s)(he:bV s a.tmps env){n:AOp}(h:(opD F n new).run ⟨env,s.σ⟩=some e)(hc:bD P n o.op=true):cA P o a s e:=by
 unfold opD at h;obtain⟨u,hd,h⟩:=bind_some h;have g:=N1 (new:=0) hd;clear hd;have j:nM n=1->s.σ[new]?=some .dead:=λh1=>g 0 (by omega);cases n with
 |mv x=>grind [JRz]
 |mkarr esz x=>exact JKu hi (j rfl) h hc
 |pick=>grind [JNa]
 |newbox=>exact JIU hi (j rfl) h hc
 |box=>exact JP1 hi he (j rfl) h hc
 |build=>grind [JKB]
 |lits=>grind [JO5,nM]
 |load=>grind [JOd]
 |store=>grind [JLe]
 |nilchk=>grind [JHS]
 |bin op t x y=>cases t<;>grind [JAW,JCS,JDr,JDE,JDl,JDB]
 |un=>grind [JRq]
 |conv k x=>
  grind [JGw,nM,JO0]
 |mkslice=>grind [JFZ,nM]
 |slice=>grind [JKt]
 |faddr=>grind [JKD]
 |field=>grind [JKN]
 |iaddr=>grind [JLu]
 |aaddr=>grind [JLP]
 |sidx=>grind [JNl]
 |aidx=>grind [JO2]
 |extr=>grind [JO7]
 |call=>exact JNV q hi he g h hc
 |callv=>exact JK4 q hi he g h hc
 |len=>grind [JOW]
 |app=>grind [JPj]
 |appn=>exact JO3 hi he (j rfl) h hc
 |shr=>exact JQo hi he (j rfl) h hc
 |mm=>grind [JRG]
 |mkfn=>grind [JNj]
 |newboxo=>exact JFk hi g h hc
 |buildo=>exact JIT hi he g h hc
 |storen=>exact JIq hi he (j rfl) h hc
 |callo=>exact JKb q hi he g h hc
end
def CC(P:Program)(N:Nat)(ops:Array Oper)(i:cG)(o:Oper):Bool:=
 bD P i.op o.op&&i.dst==o.dst&&(match i.dst with
  |some d=>decide (d<N)
  |none=>true)&&(match i.g,o.guard with
  |none,none=>true
  |some (g,w),some (j,w')=>w==w'&&(ops[j]?).bind (·.dst)==some g
  |_,_=>false)
def Sim(N:Nat)(E:Sn)(st:St)(a:Act)(w:World):Prop:=a.tmps.size=N/\a.defers=[]/\ ∃g,Inv ⟨st.sto,g,w⟩/\bV ⟨st.sto,g,w⟩ a.tmps st.env/\bJ E ⟨st.sto,g,w⟩
theorem bV.put{s:Sn}{tmps:Array Value}{env:List (Nat×AV)}(he:bV s tmps env){d:Nat}(hd:d<tmps.size){x:AV}{v:Value}(hv:JK s x v):
  bV s (tmps.setIfInBounds d v) ((d,x)::env):=by
 intro n y e;simp only[lk]at e;split at e;simp_all;rename_i g;obtain⟨u,h1,h2⟩:=he n y e;grind
theorem Sim.putd{N:Nat}{E:Sn}{st:St}{a:Act}{w w':World}{g g':Gh}{e:Eff}{v:Value}{d:Option Nat}
  (h1:a.tmps.size=N) (h2:a.defers=[]) (hi:Inv ⟨st.sto,g,w⟩) (he:bV ⟨st.sto,g,w⟩ a.tmps st.env) (ht:bJ E ⟨st.sto,g,w⟩) (hd: ∀x,d=some x->x<N)
  (hi':Inv ⟨upd e.ws st.sto,g',w'⟩) (h:bJ ⟨st.sto,g,w⟩ ⟨upd e.ws st.sto,g',w'⟩) (hv:JK ⟨upd e.ws st.sto,g',w'⟩ e.val v):
  Sim N E (Am.put d e st) (a.put d v) w':=by
 have j:=he.mono hi h;cases d with
 |none=>exact⟨h1,h2,g',hi',j,ht.trans h⟩
 |some d=>exact⟨by grind [Act.put],h2,g',hi',j.put (by simp_all) hv,ht.trans h⟩
section
variable {P:Program} {F:Orc} {N:Nat} {E:Sn} {st:St} {a:Act} {w:World} {ops:Array Oper} {i:cG} {o:Oper} {e:Eff} {new k:Nat} {Q:Exit->Act->World->Prop} {K:Act->World->Prop}
theorem JFM{s:Sn}:JK s hE undef:=.tup _ _ rfl λi x v h=>by simp at h
theorem Lb(C:kJ P F)(hs:Sim N E st a w)(ho:ops[k]?=some o)(hc:CC P N ops i o=true)(h:(cJ F i new).run st=some e)
  (next: ∀a' w',Sim N E (Am.put i.dst e st) a' w'->K a' w'):wpOp P ops Q k K a w:=by
 obtain⟨h1,h2,g,hi,r,ht⟩:=hs;simp only[CC,aY,beq_iff_eq]at hc;obtain⟨⟨⟨hc,hd⟩,H⟩,n⟩:=hc;have y: ∀x,i.dst=some x->x<N:=(by grind);have run: ∀{e:Eff},(opD F i.op new).run st=some e->(∀a' w',Sim N E (Am.put i.dst e st) a' w'->K a' w')->o.wp P a w K Q:=(by intro e h next;refine JRX (s:=⟨st.sto,g,w⟩) (env:=st.env) C hi r h hc K Q λv w' g' hi' G z=>next _ _ ?_;grind [Sim.putd]);have skip:(∀a' w',Sim N E (Am.put i.dst ⟨hE,[]⟩ st) a' w'->K a' w')->K (a.put o.dst undef) w:=by intro next;refine next _ _ ?_;rw[<-hd];exact Sim.putd (e:=⟨hE,[]⟩) h1 h2 hi r ht y hi (.refl _) JFM
 unfold wpOp;rw[ho];dsimp only;unfold cJ at h;cases hig:i.g with
 |none=>
  grind [Region.wanted]
 |some D=>
  obtain⟨I,B⟩:=D;rw[hig]at h n;cases hog:o.guard with
  |none=>simp_all
  |some x=>
   obtain⟨j,A⟩:=x;rw[hog]at n;simp only[aY,beq_iff_eq]at n;obtain⟨rfl,M⟩:=n;simp only[RM.run]at h;split at h;rename_i v z;obtain⟨u,L,q⟩:=r _ _ z;split at h;rename_i b;cases q with
   |p _ _ q=>
    cases q with
    |b x=>
     have J:yielded ops a.tmps j=some b:=by grind [yielded]
     grind [Region.wanted,RM.run]
   cases q with
   |tup _ vs hl _=>
    grind [yielded,Region.wanted,RM.run]
   cases h;cases h
end
theorem Ou{σ:List Blk}{n b:Nat}{x:Blk}(h:(σ++List.replicate n Blk.dead)[b]?=some x)(hx:x≠.dead):σ[b]?=some x:=by
 grind
theorem x9{σ:List Blk}{n b:Nat}{x:Blk}(h:σ[b]?=some x):(σ++List.replicate n Blk.dead)[b]?=some x:=by
 grind
theorem UV{σ:List Blk}{g:Gh}{w:World}{n b r o:Nat}:Wr1 ⟨σ++List.replicate n .dead,g,w⟩ b r o↔Wr1 ⟨σ,g,w⟩ b r o:=by
 grind [Wr1]
theorem mb{σ:List Blk}{g:Gh}{w:World}{n:Nat}:bJ ⟨σ,g,w⟩ ⟨σ++List.replicate n .dead,g,w⟩ where
 keep:=.refl _ _
 cmono _ _ h:=h
 cnew _ _ h:=.inl h
 wnew _ _ h:=let⟨b,hb⟩:=h;.inl ⟨b,UV.1 hb⟩
 len:=by simp
 box b cs h:=⟨⟨cs,x9 h,rfl⟩,rfl⟩
 arr b wm esz rows h:=⟨wm,rows,x9 h,id,zQ0 _,λ_=>rfl⟩
theorem JMn{σ:List Blk}{g:Gh}{w:World}{n:Nat}(hi:Inv ⟨σ,g,w⟩):Inv ⟨σ++List.replicate n .dead,g,w⟩:=by
 have t:=mb (σ:=σ) (g:=g) (w:=w) (n:=n);refine⟨λb cs h=>?_,λb wm esz rows h=>?_,λb1 b2 r o h1 h2=>hi.apart b1 b2 r o (UV.1 h1) (UV.1 h2),λr o hc=>⟨(hi.const r o hc).1,λb hb=>(hi.const r o hc).2 b (UV.1 hb)⟩⟩;obtain⟨r,o,c,e,fz,A,D,B,y,q⟩:=hi.box b cs (Ou h (by simp));exact⟨r,o,c,e,fz,A,D,B,λi x C=>let⟨v,j,z,k⟩:=y i x C;⟨v,j,z.mono hi t,k⟩,q⟩;exact hi.arr b wm esz rows (Ou h (by simp))
theorem Sim.room{N:Nat}{E:Sn}{st:St}{a:Act}{w:World}(h:Sim N E st a w)(n:Nat):Sim N E ⟨st.env,room n st.sto⟩ a w:=by
 unfold Am.room;split;exact h;obtain⟨h1,h2,g,hi,e,ht⟩:=h;exact⟨h1,h2,g,JMn hi,e.mono hi mb,ht.trans mb⟩
theorem Sim.heap{N:Nat}{E:Sn}{st:St}{a:Act}{w w':World}(h:Sim N E st a w)(hh:w'.heap=w.heap)(ho:w'.os=w.os)(hp:w'.output=w.output):Sim N E st a w':=by obtain⟨h1,h2,g,hi,j,ht⟩:=h;obtain⟨e,t'⟩:=yy hi hh ho hp;exact⟨h1,h2,g,e,j.mono hi t',ht.trans t'⟩
theorem Sim.congr{N:Nat}{E:Sn}{st st':St}{a:Act}{w:World}(h:Sim N E st a w)(he: ∀m,lk m st'.env=lk m st.env)(hs:st'.sto=st.sto):Sim N E st' a w:=by obtain⟨h1,h2,g,hi,e,ht⟩:=h;refine⟨h1,h2,g,?_⟩;rw[hs];exact⟨hi,λn x j=>e n x (by simp_all),ht⟩
def eT(P:Program)(N:Nat)(ops:Array Oper):List cG->List Oper->Bool|[],[]=>true|i::r,o::q=>CC P N ops i o&&eT P N ops r q|_,_=>false
def XG(x y:cG):Bool:=
 (match x.dst with
 |none=>true
 |some m=>y.dst !=some m&& !(zC y).contains m)&&(match y.dst with
 |none=>true
 |some m=> !(zC x).contains m)
def WC(x y:cG):Bool:=(!AP x.op|| !QM y.op)&&(!AP y.op|| !QM x.op)
def MO:List Nat->List Nat->List Nat|[],acc=>acc|x::r,acc=>match acc.contains x with|true=>MO r acc|false=>MO r (x::acc)
theorem ky{i:Nat}: ∀{l acc:List Nat},i∈MO l acc->i∈l\/i∈acc
 |[],_,h=>.inr h
 |x::r,acc,h=>by
  simp only[MO]at h;split at h;exact(ky h).imp (kU _) id
  ·rcases ky h with h|h
   all_goals grind
def Is(l:List Nat):List Nat:=MO l []
theorem JJP{i:Nat}{l:List Nat}(h:i∈Is l):i∈l:=(ky h).resolve_right (by simp)
def Kr(acc:List (List Nat))(o:Oper):List Nat:=Is<|(o.after.toList.filter λe=>Region.binds .any e).flatMap λe=>e.on::(acc[e.on]?).getD []
def sm(acc:List (List Nat)):List Oper->List (List Nat)|[]=>acc|o::r=>sm (acc++[Kr acc o]) r
def ig(e:List (List Nat))(pairs:List (Nat×Nat))(i j:Nat)(x y:cG):Bool:=
 ((e[j]?).getD []).contains i||(XG x y&&(WC x y||pairs.contains (i,j)))
def OV(e:List (List Nat))(pairs:List (Nat×Nat))(j:Nat)(y:cG):Nat->List cG->Bool|_,[]=>true|i,x::r=>(decide (j<=i)||ig e pairs i j x y)&&OV e pairs j y (i+1) r
def UZ(e:List (List Nat))(pairs:List (Nat×Nat))(all:List cG):Nat->List cG->Bool|_,[]=>true|j,y::r=>OV e pairs j y 0 all&&UZ e pairs all (j+1) r
def VT:Nat->List Oper->Bool|_,[]=>true|j,o::r=>(o.after.all λe=> !Region.binds .any e||decide (e.on<j))&&VT (j+1) r
def uf(P:Program)(N:Nat)(draw:Bool)(pairs:List (Nat×Nat))(ins:List cG)(ops:Array Oper):Bool:=
 eT P N ops ins ops.toList&&(!draw||(VT 0 ops.toList&&UZ (sm [] ops.toList) pairs ins 0 ins))
section
variable {P:Program} {F:Orc} {N:Nat} {E:Sn} {st st':St} {a:Act} {w:World} {ops:Array Oper} {Q:Exit->Act->World->Prop}
theorem yu: ∀{ins:List cG} {os:List Oper},eT P N ops ins os=true->ins.length=os.length/\ ∀(k:Nat) i,ins[k]?=some i-> ∃o,os[k]?=some o/\CC P N ops i o=true
 |[],[],_=>⟨rfl,by simp⟩
 |i::r,o::q,h=>by
  simp only[eT,aY]at h;obtain⟨h1,h2⟩:=yu h.2;grind
 |[],_::_,h=>by grind [eT]
 |_::_,[],h=>by grind [eT]
theorem ya(n:kJ P F): ∀{r:List cG} {k new:Nat} {st:St} {a:Act} {w:World},(∀(j:Nat) i,r[j]?=some i-> ∃o,ops[k+j]?=some o/\CC P N ops i o=true)->
  gL F r new st=some st'->Sim N E st a w->(∀a' w',Sim N E st' a' w'->Q .normal a' w')->wpOps P ops Q (List.range' k r.length) a w
 |[],k,new,st,a,w,_,h,hs,next=>by simp only[gL]at h;cases h;exact next a w hs
 |i::r,k,new,st,a,w,hc,h,hs,next=>by
  simp only[gL]at h;split at h;rename_i e x;obtain⟨o,q,g⟩:=hc 0 i rfl;rw[xG,List.range'_succ,wpOps_cons];refine Lb n hs q g x λa' w' hs'=>ya n (λj i v=>?_) h hs' next;obtain⟨o,q,g⟩:=hc (j+1) i (by simpa using v);grind;cases h
theorem Ka: ∀{ins:List cG} {g:Nat} {st:St},gL F ins g st=some st'->
  ∃(new:Nat->Nat) (S:Nat->St) (eff:Nat->Eff),Run F ins new S eff/\S 0=st/\S ins.length=st'
 |[],g,st,h=>by
  simp only[gL]at h;injection h with h;subst h;exact⟨λ_=>0,λ_=>st,λ_=>⟨hE,[]⟩,⟨by simp⟩,rfl,rfl⟩
 |i::r,g,st,h=>by
  simp only[gL]at h;split at h;rename_i e o;obtain⟨new,S,eff,j,q,hl⟩:=Ka h;refine⟨fun|0=>g|k+1=>new k,fun|0=>st|k+1=>S k,fun|0=>e|k+1=>eff k,⟨λk x n=>?_⟩,rfl,hl⟩;cases k with
  |zero=>simp_all
  |succ k=>exact j.step k x (by simpa using n)
  cases h
theorem K9: ∀{ins:List cG} {g:Nat} {st:St} {l l':Log},kI F ins g st l=some (st',l')->
  ∃(new:Nat->Nat) (S:Nat->St) (eff:Nat->Eff),Run F ins new S eff/\S 0=st/\S ins.length=st'/\
   (∀k,k<l.length->l'[k]?=l[k]?)/\ ∀(k:Nat) i,ins[k]?=some i->l'[l.length+k]?=some (kK ((cJ F i (new k)).reads (S k)),(eff k).ws.map (·.1))
 |[],g,st,l,l',h=>by
  simp only[kI]at h;injection h with h;injection h with h1 h2;subst h1 h2;exact⟨λ_=>0,λ_=>st,λ_=>⟨hE,[]⟩,⟨by simp⟩,rfl,rfl,λ_ _=>rfl,by simp⟩
 |i::r,g,st,l,l',h=>by
  simp only[kI]at h;split at h
  ·rename_i e w;obtain⟨new,S,eff,n,o,hl,v,y⟩:=K9 h;refine⟨fun|0=>g|k+1=>new k,fun|0=>st|k+1=>S k,fun|0=>e|k+1=>eff k,⟨λk x j=>?_⟩,rfl,hl,λk q=>?_,λk x j=>?_⟩
   cases k with
   |zero=>simp_all
   |succ k=>exact n.step k x (by simpa using j)
   all_goals grind
  cases h
theorem WZ{b:Nat}: ∀{l:List Loc},Loc.blk b∈l->b∈kK l
 | .blk c::r,h=>by
  simp only[kK,cV]at*;rcases h with h|h;simp_all;exact .inr (WZ h)
 | .slot n::r,h=>by simp only[kK];refine WZ ?_;simpa using h
 |[],h=>by simp at h
theorem jq{a b:List Nat}(h:gQ a b=true){x:Nat}(hx:x∈a):x∉b:=by
 grind [gQ]
theorem zr{l:Log}: ∀{ps:List (Nat×Nat)} {i j:Nat},IN l ps=true->(i,j)∈ps->
  ∃x y,l[i]?=some x/\l[j]?=some y/\gQ x.2 y.1=true/\gQ x.2 y.2=true/\gQ x.1 y.2=true
 |[],i,j,_,h=>by simp at h
 |(p,q)::r,i,j,h,hm=>by
  simp only[IN,aY]at h;obtain⟨h1,h2⟩:=h;rcases cV.1 hm with e|e;grind;exact zr h2 e
def im(ops:Array Oper)(D:Nat->Bool)(k:Nat):Prop:= ∀o,ops[k]?=some o-> ∀e∈o.after,Region.binds .any e=true->D e.on=true
def Kn(ops:Array Oper)(D:Nat->Bool):Prop:= ∀k,D k=true->im ops D k
def qn(ops:Array Oper)(k i:Nat):Prop:= ∀D,Kn ops D->im ops D k->D i=true
theorem Le: ∀{os:List Oper} {acc:List (List Nat)},(∀(j:Nat) o,os[j]?=some o->ops[acc.length+j]?=some o)->(∀(k:Nat) l i,acc[k]?=some l->i∈l->qn ops k i)->
  ∀(k:Nat) l i,(sm acc os)[k]?=some l->i∈l->qn ops k i
 |[],acc,_,n=>n
 |o::r,acc,y,n=>by
  refine Le (os:=r) (acc:=acc++[Kr acc o]) (λj x A=>?_) λk l i g hi=>?_;have:=y (j+1) x (by simpa using A);grind;rcases UY g with g|⟨B,g⟩;simp_all;have q:k=acc.length:=(by grind);subst q;simp at g;subst g;intro D hD z;replace hi:=JJP hi;simp only[List.mem_flatMap,List.mem_filter]at hi;obtain⟨e,⟨w,v⟩,hi⟩:=hi;have h:=z o (by simpa using y 0 o rfl) e (by simpa using w) v;rcases cV.1 hi with rfl|hi;exact h;cases hac:acc[e.on]? with
  |none=>simp_all
  |some l=>rw[hac]at hi;exact n _ l i hac hi D hD (hD _ h)
theorem Ax{g:List (List Nat)}{pairs:List (Nat×Nat)}{j:Nat}{y:cG}: ∀{r:List cG} {e:Nat},OV g pairs j y e r=true-> ∀(k:Nat) x,r[k]?=some x->e+k<j->ig g pairs (e+k) j x y=true
 |[],e,_,k,x,n,_=>by simp at n
 |z::r,e,h,k,x,n,o=>by
  simp only[OV,aY,AT,decide_eq_true_eq]at h;cases k with
  |zero=>grind
  |succ k=>
   have:=Ax h.2 k x (by simpa using n) (by omega);grind
theorem zo{g:List (List Nat)}{pairs:List (Nat×Nat)}{all:List cG}: ∀{r:List cG} {e:Nat},UZ g pairs all e r=true-> ∀(k:Nat) y,r[k]?=some y->OV g pairs (e+k) y 0 all=true
 |[],e,_,k,y,j=>by simp at j
 |z::r,e,h,k,y,j=>by
  simp only[UZ,aY]at h;cases k with
  |zero=>simp_all
  |succ k=>
   have:=zo h.2 k y (by simpa using j);grind
theorem Av: ∀{r:List Oper} {g:Nat},VT g r=true-> ∀(k:Nat) o,r[k]?=some o-> ∀e∈o.after,Region.binds .any e=true->e.on<g+k
 |[],g,_,k,o,j=>by simp at j
 |z::r,g,h,k,o,j=>by
  simp only[VT,aY]at h;cases k with
  |zero=>
   grind [Array.all_eq_true_iff_forall_mem]
  |succ k=>intro e n hb;have:=Av h.2 k o (by simpa using j) e n hb;omega
theorem JL2{x y:cG}(h:XG x y=true):(∀m,x.dst=some m->y.dst≠some m/\m∉zC y)/\(∀m,y.dst=some m->m∉zC x):=by
 grind [XG]
variable {ins:List cG} {new:Nat->Nat} {S:Nat->St} {eff:Nat->Eff}
theorem JLY(hr:Run F ins new S eff){i j:Nat}(hi:i<ins.length)(hj:j<ins.length)(h1:XG ins[i] ins[j]=true)
  (h2:WC ins[i] ins[j]=true\/(gQ ((eff i).ws.map (·.1)) (kK ((cJ F ins[j] (new j)).reads (S j)))=true/\
   gQ ((eff i).ws.map (·.1)) ((eff j).ws.map (·.1))=true/\gQ (kK ((cJ F ins[i] (new i)).reads (S i))) ((eff j).ws.map (·.1))=true)):SY F ins new S eff i j:=by
 obtain⟨s1,A⟩:=JL2 h1;have n:ins[i]?=some ins[i]:=bC hi;have k:ins[j]?=some ins[j]:=bC hj;obtain⟨v,_⟩:=hr.step i _ n;obtain⟨q,_⟩:=hr.step j _ k;refine⟨λx y m g e o=>?_,λx y m g e o hl=>?_,λy b e hb=>?_,λx b g hb hl=>?_⟩;rw[n]at g;cases g;rw[k]at e;cases e;exact⟨(s1 m o).1,λhl=>(s1 m o).2 (Nz F _ _ _ _ hl)⟩;rw[n]at g;cases g;rw[k]at e;cases e;exact A m o (Nz F _ _ _ _ hl);rw[k]at e;cases e;rcases h2 with h2|⟨r,w,z⟩;simp only[WC,aY,AT,GY]at h2;rcases h2.1 with h|h;rw[iq F _ _ h _ _ v]at hb;simp at hb;refine⟨?_,Oe F _ _ h _ _ q b⟩;rw[iq F _ _ (Kk h) _ _ q];simp;exact⟨jq w hb,λhl=>jq r hb (WZ hl)⟩;rw[n]at g;cases g;rcases h2 with h2|⟨r,w,z⟩;simp only[WC,aY,AT,GY]at h2;rcases h2.2 with h|h;rw[iq F _ _ h _ _ q]at hb;simp at hb;exact Oe F _ _ h _ _ v b hl;grind [jq,WZ]
def Dl(e:Array Bool):Nat->Bool:=λj=>e.getD j false
theorem Lg{e:Array Bool}{i:Nat}(hi:i<e.size):Dl (e.setIfInBounds i true)=λj=>if j=i then true else Dl e j:=by
 funext j
 unfold Dl;by_cases h:j=i
 all_goals simp_all [Ne.symm]
theorem zj{l:Array Bool}{i:Nat}(hi:i<l.size)(h:l.getD i false=false):(l.setIfInBounds i true).count false+1=l.count false:=by
 have e:l[i]=false:=by simp_all
 grind [Array.getElem_mem]
theorem zs{l:Array Bool}(h:l.count false=0){i:Nat}(hi:i<l.size):l.getD i false=true:=by
 grind [zj]
theorem Ix{l:Array Bool}: ∀m,m<=l.size->(∀j,j<m->Dl l j=true)\/ ∃k,k<m/\Dl l k=false/\ ∀j,j<k->Dl l j=true
 |0,_=>.inl λj e=>by omega
 |m+1,h=>by
  rcases Ix (l:=l) m (by omega)with h1|⟨k,a,b,c⟩
  all_goals grind
theorem JJ0{l:Array Bool}{j:Nat}(hj:j<l.size):l.getD j true=l.getD j false:=by simp[hj]
theorem JR5(W:kJ P F)(hr:Run F ins new S eff)(hlen:ins.length=ops.size)(hc: ∀(k:Nat) i,ins[k]?=some i-> ∃o,ops[k]?=some o/\CC P N ops i o=true)
  (D: ∀(k:Nat) o,ops[k]?=some o-> ∀e∈o.after,Region.binds .any e=true->e.on<k)
  (I: ∀i j,i<j->j<ins.length->qn ops j i\/SY F ins new S eff i j)
  (next: ∀a' w',Sim N E (S ins.length) a' w'->Q .normal a' w'):
  ∀(n:Nat) (g:Array Bool) (st:St) (a:Act) (w:World),g.size=ops.size->Agree ins eff (S 0) (Dl g) st->Sim N E st a w->Kn ops (Dl g)->g.count false=n->
   wpAny P .any ops Q n g a w:=by
 intro n
 induction n with
 |zero=>
  intro g st a w J B hs r A;refine⟨?_,?_⟩;cases hre:Region.ready .any ops g with
  |nil=>rfl
  |cons j l=>
   exfalso;have h:j∈Region.ready .any ops g:=by rw[hre];simp
   grind [mem_ready,zs]
  ·obtain⟨e1,e2⟩:=JIh hr B λj x=>zs A (by omega);exact next a w (hs.congr (λm=>(e1 m).symm) e2.symm)
 |succ n ih=>
  intro g st a w J B hs r A;refine⟨λY=>?_,λk G=>?_⟩;exfalso;rcases Ix (l:=g) ops.size (by omega)with z|⟨k,G,C,K⟩;have:g.count false=0:=(by rw[Array.count_eq_zero];intro h;obtain⟨i,hi,y⟩:=Array.getElem_of_mem h;have:=z i (by omega);unfold Dl at this;simp[hi,y]at this);omega;have h:k∈Region.ready .any ops g:=(by rw[mem_ready];refine⟨by rw[JJ0 (by omega)];exact C,ops[k],by simp[G],λe y hb=>?_⟩;exact K _ (D k ops[k] (by simp[G]) e y hb));simp_all;obtain⟨h1,o,U,z⟩:=mem_ready.1 G;have V:k<ops.size:=(Array.getElem?_eq_some_iff.1 U).1;have C:Dl g k=false:=by grind [Dl]
  have M:ins[k]?=some (ins[k]'(by omega)):=bC _;obtain⟨o',T,O⟩:=hc k _ M;have q:im ops (Dl g) k:=by intro L v e y hb;rw[U]at v;cases v;exact z e y hb
  obtain⟨Z,r2⟩:=JLv hr B M C (λj x hDj=>by
   rcases I j k x (by omega)with h|h;have:=h _ r q;simp_all;exact h) (λj x R hDj=>by
   rcases I k j x R with h|h;have:=h _ r (r j hDj);simp_all;exact h)
  refine Lb W hs T O Z λa' w' hs'=>ih _ _ a' w' (by simp[J]) ?_ hs' ?_ ?_;grind [Lg];rw[Lg (by omega)];intro j x L v e y hb;dsimp only at x⊢;have h:Dl g e.on=true->(if e.on=k then true else Dl g e.on)=true:=by simp_all
  by_cases H:j=k;subst H;exact h (q L v e y hb);rw[if_neg H]at x;exact h (r j x L v e y hb);grind [zj]
theorem JPy(V:kJ P F)(H:P.follows .mixedOrders=true){id:Nat}{draw:Bool}{pairs:List (Nat×Nat)}{ins:List cG}(h:region F pairs ins st=some st')
  (hc:uf P N draw pairs ins ops=true) (hs:Sim N E st a w) (next: ∀a' w',Sim N E st' a' w'->Q .normal a' w'):(Code.region id ops draw).wp P Q a w:=by
 simp only[uf,aY,AT,GY]at hc;obtain⟨K,B⟩:=hc;obtain⟨hlen,G⟩:=yu K;have hlen:ins.length=ops.size:=by simp_all
 have G: ∀(k:Nat) i,ins[k]?=some i-> ∃o,ops[k]?=some o/\CC P N ops i o=true:=λk i hi=>by simp_all
 have O:=hs.room (news ins);have J: ∃(new:Nat->Nat) (S:Nat->St) (eff:Nat->Eff),Run F ins new S eff/\S 0=⟨st.env,room (news ins) st.sto⟩/\S ins.length=st'/\
   ∀i j,(i,j)∈pairs-> ∃x y,ins[i]?=some x/\ins[j]?=some y/\gQ ((eff i).ws.map (·.1)) (kK ((cJ F y (new j)).reads (S j)))=true/\
   gQ ((eff i).ws.map (·.1)) ((eff j).ws.map (·.1))=true/\gQ (kK ((cJ F x (new i)).reads (S i))) ((eff j).ws.map (·.1))=true:=by
  unfold region at h;split at h;grind [Ka];split at h;rename_i s' l n;split at h;rename_i hp;cases h;obtain⟨new,S,eff,D,C,hl,_,q⟩:=K9 n;refine⟨new,S,eff,D,C,hl,λi j hm=>?_⟩;obtain⟨x,y,U,T,d1,d2,d3⟩:=zr hp hm;have M: ∀(k:Nat) z,l[k]?=some z->k<ins.length:=by
   intro k z Z;have:=JD Z;have a3:l.length=ins.length:=by
    clear q D C hl hp U T;have: ∀{r:List cG} {e:Nat} {s0:St} {A v:Log} {s1:St},kI F r e s0 A=some (s1,v)->v.length=A.length+r.length:=by
     intro r
     induction r with
     |nil=>simp[kI]
     |cons i r ih=>
      grind [kI]
    grind
   omega
  have hi:=M i x U;have g:=M j y T;have L:ins[i]?=some ins[i]:=bC hi;have I:ins[j]?=some ins[j]:=bC g;have W:=q i _ L;have Y:=q j _ I;simp only[List.length_nil,qN]at W Y;grind;cases h;cases h
 obtain⟨new,S,eff,D,C,hl,hp⟩:=J;cases draw with
 |false=>
  refine wp_region ?_;rw[List.range_eq_range',<-hlen];have a4: ∃e,gL F ins e ⟨st.env,room (news ins) st.sto⟩=some st':=by
   unfold region at h;split at h;grind;split at h;rename_i s' l n;split at h;cases h;have: ∀{r:List cG} {e:Nat} {s0:St} {A v:Log} {s1:St},kI F r e s0 A=some (s1,v)->gL F r e s0=some s1:=by
    intro r
    induction r with
    |nil=>intro e s0 A v s1 h;simp only[kI]at h;injection h with h;injection h with h1 h2;subst h1;rfl
    |cons i r ih=>
     grind [kI,gL]
   grind;cases h;cases h
  grind [ya]
 |true=>
  obtain⟨he,hd⟩:=B.resolve_left (by simp);refine wp_region_any H ?_;have R:Sim N E (S 0) a {w with drawn:=w.drawn+1}:=by rw[C];exact O.heap rfl rfl rfl
  refine JR5 V D hlen G (λk o ho=>?_) (λi j hij g=>?_) (by simp_all) ops.size _ (S 0) a _ (by simp) ?_ R ?_ ?_;have:=Av he k o (by simpa using ho);simp_all;have L:ins[i]?=some (ins[i]'(by omega)):=bC _;have I:ins[j]?=some ins[j]:=bC g;have h1:=zo hd j _ I;rw[qN]at h1;have h2:=Ax h1 i _ L (by omega);rw[qN]at h2;simp only[ig,AT,aY]at h2;rcases h2 with h2|⟨h2,h3⟩;grind [Le];grind [JLY];have:Dl (Array.replicate ops.size false)=λ_=>false:=by
   funext j;unfold Dl;simp[Array.getElem?_replicate];split<;>rfl
  rw[this];exact JDk;intro j g;unfold Dl at g;simp[Array.getElem?_replicate]at g;grind;simp
end
def dF(P:Program)(N:Nat):cL->Code->Bool
 | .bad,_=>true
 | .skip,c=>match c with| .skip=>true| .label _=>true|_=>false
 | .reg draw pairs ins,c=>match c with| .region _ ops d=>draw==d&&uf P N draw pairs ins ops|_=>false
 | .seq a b,c=>match c with| .seq x y=>dF P N a x&&dF P N b y|_=>false
 | .cond o a b,c=>match c with| .cond p x y=>bY o p&&dF P N a x&&dF P N b y|_=>false
 | .block id a,c=>match c with| .block e x=>id==e&&dF P N a x|_=>false
 | .loop _ a,c=>match c with| .loop x=>dF P N a x|_=>false
 | .lp _ _ _,_=>false
 | .scope a,c=>match c with| .scope x=>dF P N a x|_=>false
 | .exit id,c=>match c with| .exit e=>id==e|_=>false
 | .ret,c=>match c with| .ret=>true|_=>false
 | .keep _ a,c=>dF P N a c
 | .tidy _ a,c=>dF P N a c
 | .br _ pre o a b rest,c=>match c with| .seq (.seq p (.cond q x y)) z=>dF P N pre p&&bY o q&&dF P N a x&&dF P N b y&&dF P N rest z|_=>false
def sV:AX->Exit| .normal=>.normal| .exit id=>.exit id| .ret=>.ret
def OL(P:Program)(c:cL)(st:St)(r:Out):Prop:=
 match c with
 | .lp n _ b=> ∃k,∀(N:Nat) (e:Code) (E:Sn) (a:Act) (w:World) (Q:Exit->Act->World->Prop),dF P N b e=true->E.σ.length<=n->n<=st.sto.length->Sim N E st a w->
   (∀a' w',Sim N E r.2 a' w'->Q (sV r.1) a' w')->Code.rounds P e Q k a w
 |c=> ∀(N:Nat) (e:Code) (E:Sn) (a:Act) (w:World) (Q:Exit->Act->World->Prop),dF P N c e=true->Sim N E st a w->
  (∀a' w',Sim N E r.2 a' w'->Q (sV r.1) a' w')->e.wp P Q a w
theorem OL.get{P:Program}{c:cL}{st:St}{r:Out}(h:OL P c st r){N:Nat}{e:Code}{E:Sn}{a:Act}{w:World}{Q:Exit->Act->World->Prop}(hc:dF P N c e=true)(hs:Sim N E st a w)
  (next: ∀a' w',Sim N E r.2 a' w'->Q (sV r.1) a' w'):e.wp P Q a w:=by
 cases c<;>first|exact h N e E a w Q hc hs next|grind [dF]
theorem VX{env:List (Nat×AV)}{n:Nat}{x:AV}: ∀{live:List Nat},lk n (restr live env)=some x->lk n env=some x
 |[],h=>by grind [restr,lk]
 |k::r,h=>by
  simp only[restr]at h;split at h;rename_i v e;simp only[lk]at h;split at h;simp_all;exact VX h;exact VX h
theorem M0{m:Nat}{sto:List Blk}{n:Nat}{y:AV}: ∀{env g:List (Nat×AV)},xH m sto env=some g->lk n g=some y-> ∃x,lk n env=some x/\fin m [] sto x=some y
 |[],g,h,hy=>by grind [xH,lk]
 |(k,x)::r,g,h,hy=>by
  simp only[xH]at h;split at h;rename_i z l o hl;injection h with h;subst h;simp only[lk]at hy⊢;split at hy;simp_all;rename_i e;obtain⟨j,h1,h2⟩:=M0 hl hy;simp_all;cases h
section
variable {P:Program} {N:Nat} {E:Sn} {st st':St} {a:Act} {w:World}
theorem Sim.restr(h:Sim N E st a w)(live:List Nat):Sim N E ⟨restr live st.env,st.sto⟩ a w:=by obtain⟨h1,h2,g,hi,e,ht⟩:=h;exact⟨h1,h2,g,hi,λn x j=>e n x (VX j),ht⟩
theorem VW{n:Nat}{live:List Nat}(h:Sim N E st a w)(hc:clean n live st=some st')(q:E.σ.length<=n)(hn:n<=st.sto.length):Sim N E st' a w/\st'.sto.length=n:=by
 unfold clean at hc;split at hc;rename_i e;injection hc with hc;subst hc;exact⟨h.restr live,e⟩;split at hc;rename_i ev l o hl;injection hc with hc;subst hc;obtain⟨h1,h2,g,hi,z,ht⟩:=h;obtain⟨C,D⟩:=WX hl;have hlen:l.length=n:=by simp_all
 have j:sn ⟨st.sto,g,w⟩ n [] l:=(by refine⟨hi,hn,List.nodup_nil,λb hb=>by simp at hb,by simp[hlen],λk x F=>?_⟩;grind [vV]);refine⟨⟨h1,h2,(lI ⟨st.sto,g,w⟩ n [] l).g,Nk j,λk y r=>?_,zc j ht q⟩,hlen⟩;obtain⟨x,A,hf⟩:=M0 o r;obtain⟨v,B,hrel⟩:=z k x (VX A);exact⟨v,B,gz j hrel hf⟩;cases hc
def pL(P:Program):List xQ->List ResultVar->Bool|[],[]=>true| .tmp t::r,.tmp t'::q=>t==t'&&pL P r q| .cell t agg size::r,.cell t' ty::q=>t==t'&&agT P ty==some agg&&szT P ty==some size&&pL P r q|_,_=>false
def ZW(tmps:Array Value):ResultVar->Sem Value| .tmp t=>pure (tmps.getD t undef)| .cell a t=>do loadVar t (<-asAddr (tmps.getD a undef))
theorem ii{s:Sn}{env:List (Nat×AV)}{tmps:Array Value}(hi:Inv s)(he:bV s tmps env): ∀{A:List xQ} {B:List ResultVar} {vs:List AV},pL P A B=true->(oS A).run ⟨env,s.σ⟩=some vs->
  ∃g:List Value,(B.mapM (ZW tmps)).run P s.w=.ok g s.w/\vs.length=g.length/\ ∀(i:Nat) x v,vs[i]?=some x->g[i]?=some v->JK s x v
 |[],[],vs,_,h=>by simp_all [oS,RM.run]
 | .tmp t::r,.tmp t'::q,vs,hc,h=>by
  simp only[pL,aY,beq_iff_eq]at hc;obtain⟨rfl,hc⟩:=hc;simp only[oS]at h;obtain⟨x,h1,h⟩:=bind_some h;obtain⟨l,h2,h⟩:=bind_some h;simp only[RM.run]at h;injection h with h;subst h;simp only[RM.run]at h1;split at h1;rename_i y n;injection h1 with h1;subst h1;obtain⟨v,L,D⟩:=he _ _ n;obtain⟨g,E,k,F⟩:=ii hi he hc h2;refine⟨v::g,?_,by simp[k],λi x u K I=>?_⟩;simp_all [ZW];grind;cases h1
 | .cell t agg size::r,.cell t' ty::q,vs,hc,h=>by
  simp only[pL,aY,beq_iff_eq]at hc;obtain⟨⟨⟨rfl,M⟩,C⟩,hc⟩:=hc;simp only[oS]at h;obtain⟨x,h1,h⟩:=bind_some h;obtain⟨e,J,h⟩:=bind_some h;obtain⟨l,h2,h⟩:=bind_some h;simp only[RM.run]at h;injection h with h;subst h;simp only[RM.run]at h1;split at h1;rename_i y n;injection h1 with h1;subst h1;obtain⟨v,L,D⟩:=he _ _ n;obtain⟨g,E,k,F⟩:=ii hi he hc h2;obtain⟨G,o,ws,R,N,H,_,O⟩:=zd hi J D;obtain⟨Q,S⟩:=As (P:=P) M C N H;have j: ∃u,(loadVar ty ⟨G,o,none⟩).run P s.w=.ok u s.w/\JK s e.val u:=(by grind);obtain⟨u,I,hrel⟩:=j;refine⟨u::g,?_,by simp[k],λi x z K C=>?_⟩;simp_all [ZW,asAddr];grind;cases h1
 |[],_::_,_,hc,_=>by grind [pL]
 | .tmp _::_,[],_,hc,_=>by grind [pL]
 | .cell _ _ _::_,[],_,hc,_=>by grind [pL]
 | .tmp _::_,.cell _ _::_,_,hc,_=>by grind [pL]
 | .cell _ _ _::_,.tmp _::_,_,hc,_=>by grind [pL]
theorem WJ{m:Nat}{fresh:Bool}{sto:List Blk}: ∀{es:List Ent},∀b∈kL m fresh sto es,m<=b
 |[],b,h=>by grind [kL]
 | .elem _ _ _::r,b,h=>WJ (es:=r) b (by simpa[kL]using h)
 | .whole c::r,b,h=>by
  simp only[kL]at h;split at h;exact WJ (es:=r) b h;rename_i hc;have e:b∈c::kL m fresh sto r->m<=b:=(by intro h;rcases cV.1 h with rfl|h;omega;exact WJ (es:=r) b h);grind
theorem Ng{s:Sn}{vs:List AV}{e:List Value}(hl:vs.length=e.length)(hr: ∀(i:Nat) x v,vs[i]?=some x->e[i]?=some v->JK s x v):
  JK s (one vs) (if h:e.toArray.size=1 then e.toArray[0]else .tuple e.toArray):=by
 by_cases h:e.toArray.size=1;rw[dif_pos h];cases e with
 |nil=>simp at h
 |cons u q=>
  cases vs with
  |nil=>simp at hl
  |cons x p=>
   have g:q=[]:=by simpa using h
   subst g;have hp:p=[]:=by simpa using hl
   subst hp;exact hr 0 x u rfl rfl
 rw[dif_neg h];have:one vs=.tup vs:=by
  match vs,hl with
  |[],_=>rfl
  |[x],hl=>simp_all
  |_::_::_,_=>rfl
 rw[this];exact .tup _ _ (by simpa using hl) λi x v k j=>hr i x v k (by simpa using j)
theorem xw{e:AFn}{fn:Func}{m:Nat}{r:Res}(hs:Sim N E st a w)(hm:E.σ.length=m)(h:iI e m st=some r)(hc:pL P e.res fn.results.toList=true):
  a.defers=[]/\ ∃v,(results fn a.tmps).run P w=.ok v w/\ ∃g',Inv ⟨r.2,g',w⟩/\bJ E ⟨r.2,g',w⟩/\JK ⟨r.2,g',w⟩ r.1 v:=by
 obtain⟨h1,h2,g,hi,J,ht⟩:=hs;refine⟨h2,?_⟩;unfold iI at h;cases hvs:(oS e.res).run st with
 |none=>simp_all
 |some vs=>
  rw[hvs]at h;dsimp only at h;obtain⟨y,Q,V,H⟩:=ii (P:=P) (s:=⟨st.sto,g,w⟩) (env:=st.env) hi J hc hvs;have n:(results fn a.tmps).run P w=.ok (if h:y.toArray.size=1 then y.toArray[0]else .tuple y.toArray) w:=by
   have:results fn a.tmps=(do
    let vs<-fn.results.mapM (ZW a.tmps)
    pure (if h:vs.size=1 then vs[0]else .tuple vs)):=rfl
   simp_all [Array.mapM_eq_mapM_toList]
  refine⟨_,n,?_⟩;split at h;grind [Ng];split at h;rename_i C;have z:=WJ (m:=m) (fresh:=e.fresh) (sto:=st.sto) (es:=sM st.sto (cX.entsOfL vs []) (cX.entsOfL vs []));generalize kL m e.fresh st.sto (sM st.sto (cX.entsOfL vs []) (cX.entsOfL vs []))=ids at*;split at h;rename_i ws l q B hl I;split at h;rename_i q' D;injection h with h;subst h;obtain⟨W,L⟩:=wD B;obtain⟨b1,b2⟩:=WX hl;obtain⟨T,U⟩:=zt I;obtain⟨S,R⟩:=WX D;have F:m<=st.sto.length:=by rw[<-hm];exact ht.len
  have hlen:l.length=m:=by simp_all
  have o:sn ⟨st.sto,g,w⟩ m ids (l++q'):=(by refine⟨hi,F,XB C,z,by simp;omega,λk x A=>?_⟩;rcases UY A with A|⟨M,A⟩;grind [vV];grind [fT]);refine⟨_,Nk o,zc o ht (by omega),Ng (by omega) λi x v G K=>?_⟩;have O:=JD G;have j:vs[i]?=some (vs[i]'(by omega)):=bC _;exact gz o (H i _ v j K) (L i _ x j G);cases h;cases h;cases h
def mD(P:Program)(f:FuncId)(e:AFn):Bool:=
 match P.funcs[f]? with
 |none=>false
 |some fn=>match fn.body with
  |none=>false
  |some g=>fn.name != "runtime.NumGoroutine" &&e.nt==e.np+(fn.ntmps-e.np)&&pL P e.res fn.results.toList&&dF P e.nt e.body g
theorem ja: ∀{args:List AV} {k n:Nat} {x:AV},lk n (jW k args)=some x->k<=n/\args[n-k]?=some x
 |[],k,n,x,h=>by grind [jW,lk]
 |y::r,k,n,x,h=>by
  simp only[jW,lk]at h;split at h;simp_all;rename_i e;obtain⟨h1,h2⟩:=ja h;grind
end
section
variable {P:Program} {T:dM}
theorem JKH{f:FuncId}{j:AFn}{args:List AV}{blks:List Blk}{r:Res}(hc:mD P f j=true)(H:args.length=j.np)
  (h: ∀(k:Code) (g:Gh) (w:World) (a:Act) (Q:Exit->Act->World->Prop),dF P j.nt j.body k=true->Sim j.nt ⟨blks,g,w⟩ ⟨jW 0 args,blks⟩ a w->
   (∀e s a' w',(e=.normal\/e=.ret)->iI j blks.length s=some r->Sim j.nt ⟨blks,g,w⟩ s a' w'->Q (sV e) a' w')->k.wp P Q a w):J6a P f args blks r:=by
 unfold mD at hc;split at hc;cases hc;rename_i fn z;split at hc;cases hc;rename_i k hb;simp only[aY,beq_iff_eq,bne_iff_ne,ne_eq]at hc;obtain⟨⟨⟨C,G⟩,D⟩,y⟩:=hc;refine⟨⟨fn,z,by simp[hb],by simp_all⟩,λg w vals hinv hlen hrel=>?_⟩;refine calls_of_wp z hb ?_;have B:Sim j.nt ⟨blks,g,w⟩ ⟨jW 0 args,blks⟩ {tmps:=vals++Array.replicate (fn.ntmps-vals.size) undef,defers:=[]} w:=(by refine⟨by simp;omega,rfl,g,hinv,λn x q=>?_,.refl _⟩;obtain⟨_,q⟩:=ja q;rw[uO]at q;have F:=JD q;refine⟨vals[n]'(by omega),?_,hrel n x _ q (GQ _)⟩;grind);have fin: ∀{s},iI j blks.length s=some r-> ∀a' w',Sim j.nt ⟨blks,g,w⟩ s a' w'->a'.defers=[]/\ ∃v,(results fn a'.tmps).run P w'=.ok v w'/\ ∃A g',Ending.returned v=.returned A/\
   Inv ⟨r.2,g',w'⟩/\bJ ⟨blks,g,w⟩ ⟨r.2,g',w'⟩/\JK ⟨r.2,g',w'⟩ r.1 A:=by
  grind [xw]
 refine h k g w _ _ y B λe s a' w' E o hs=>?_;rcases E with rfl|rfl;exact fin o a' w' hs;exact fin o a' w' hs
theorem JLQ{R:cL->St->Option Out}(ih: ∀c s r,R c s=some r->OL P c s r){f:FuncId}{k:kT}{args:List AV}{blks:List Blk}{r:Res}(hc:mD P f k.af=true)(I:args.length=k.np)
  (h:vL R k args blks=some r):J6a P f args blks r:=by
 refine JKH hc I λn g w a Q j y fin=>?_;simp only[kT.af]at j fin y;cases n<;>simp only[dF,fF]at j;rename_i N M;simp only[aY]at j;obtain⟨D,q⟩:=j;unfold vL at h;split at h
 rename_i s0 G;split at h;rename_i s1 A;refine wp_seq ((ih _ _ _ G).get D y λa0 w0 x=>?_);split at q;rename_i cp F Y W O;simp only[aY]at q;obtain⟨⟨⟨⟨hp,J⟩,hx⟩,Z⟩,U⟩:=q;simp only[sV,Exit.then];refine wp_seq (wp_seq ((ih _ _ _ A).get hp x λC B x=>?_));have V: ∀{c:cL} {n:Code},dF P k.nt c n=true->uZ k.af blks.length (thn (R c s1) λs=>R k.rest s)=some r->
   n.wp P (Exit.then (O.wp P Q) Q) C B:=by
  intro c n hc ht;cases hR:R c s1 with
  |none=>rw[hR]at ht;cases ht
  |some o=>
   obtain⟨e,E⟩:=o;rw[hR]at ht;refine(ih _ _ _ hR).get hc x λa' w' hs'=>?_;cases e with
   |normal=>
    simp only[thn]at ht;cases hR2:R k.rest E with
    |none=>rw[hR2]at ht;cases ht
    |some S=>
     obtain⟨T,H⟩:=S;rw[hR2]at ht;simp only[sV,Exit.then];refine(ih _ _ _ hR2).get U hs' λa' w' hs'=>?_;cases T with
     |normal=>exact fin .normal H a' w' (.inl rfl) ht hs'
     |ret=>exact fin .ret H a' w' (.inr rfl) ht hs'
     |exit id=>cases ht
   |exit id=>cases ht
   |ret=>exact fin .ret E a' w' (.inr rfl) ht hs'
 have z:=x;obtain⟨_,_,g,hi,K,_⟩:=z;simp only[sV,Exit.then];split at h;rename_i b hb;have hrel:=bR (s:=⟨s1.sto,g,B⟩) (env:=s1.env) K hb J;generalize L:C.eval F=v at hrel;cases hrel with
 |p _ _ hrel=>cases hrel<;>grind [wp_cond]
 rename_i hb;have hrel:=bR (s:=⟨s1.sto,g,B⟩) (env:=s1.env) K hb J;generalize L:C.eval F=v at hrel;cases hrel with
 |unk t=>
  refine wp_cond L ?_;unfold MW at h;grind
 cases h;cases q;cases h;cases h
theorem w6{R:cL->St->Option Out}(ih: ∀c s r,R c s=some r->OL P c s r)(C: ∀f e,T f=some (.fn e)->mD P f e=true)
  (I: ∀f g,T f=some (.prim g)-> ∀args blks r,g args blks=some r->J6a P f args blks r) (H: ∀f k,T f=some (.fork k)->mD P f k.af=true):kJ P (qU T R):=by
 intro f args blks r h;unfold qU at h;cases hTf:T f with
 |none=>simp_all
 |some en=>
  rw[hTf]at h;cases en with
  |prim g=>simp_all
  |fork k=>
   grind [JLQ]
  |fn e=>
   dsimp only at h;split at h;rename_i F;have hc:=C f e hTf;unfold mD at hc;split at hc;cases hc;rename_i fn y;split at hc;cases hc;rename_i B hb;simp only[aY,beq_iff_eq,bne_iff_ne,ne_eq]at hc;obtain⟨⟨⟨A,G⟩,D⟩,j⟩:=hc;refine⟨⟨fn,y,by simp[hb],by simp_all⟩,λg w vals hinv hlen hrel=>?_⟩;refine calls_of_wp y hb ?_;have q:Sim e.nt ⟨blks,g,w⟩ ⟨jW 0 args,blks⟩ {tmps:=vals++Array.replicate (fn.ntmps-vals.size) undef,defers:=[]} w:=(by refine⟨by simp;omega,rfl,g,hinv,λn x o=>?_,.refl _⟩;obtain⟨_,o⟩:=ja o;rw[uO]at o;have E:=JD o;refine⟨vals[n]'(by omega),?_,hrel n x _ o (GQ _)⟩;grind);have fin: ∀{s},iI e blks.length s=some r-> ∀a' w',Sim e.nt ⟨blks,g,w⟩ s a' w'->a'.defers=[]/\ ∃v,(results fn a'.tmps).run P w'=.ok v w'/\ ∃z g',Ending.returned v=.returned z/\
     Inv ⟨r.2,g',w'⟩/\bJ ⟨blks,g,w⟩ ⟨r.2,g',w'⟩/\JK ⟨r.2,g',w'⟩ r.1 z:=by
    grind [xw]
   split at h;rename_i s hR;exact(ih _ _ _ hR).get j q λa' w' hs=>fin h a' w' hs;rename_i s hR;exact(ih _ _ _ hR).get j q λa' w' hs=>fin h a' w' hs;cases h;cases h
theorem JNe(Z:P.follows .mixedOrders=true)(hT: ∀f af,T f=some (.fn af)->mD P f af=true)
  (hP: ∀f g,T f=some (.prim g)-> ∀args blks r,g args blks=some r->J6a P f args blks r) (hK: ∀f k,T f=some (.fork k)->mD P f k.af=true): ∀c s r,X T c s=some r->OL P c s r:=by
 refine JSx T _ ?_;intro R ih c s r h;have hF:kJ P (qU T R):=w6 ih hT hP hK;cases c with
 |skip=>
  simp only[step]at h;injection h with h;subst h;intro N j E a w Q hc hs next;cases j<;>first
   |exact wp_skip (next a w hs)
   |exact wp_label (next a w hs)
   |grind [dF]
 |bad=>grind [step]
 |reg d pairs ins=>
  simp only[step]at h;split at h;rename_i s' W;injection h with h;subst h;intro N j E a w Q hc hs next;cases j<;>simp only[dF,fF]at hc;simp only[aY,beq_iff_eq]at hc;obtain⟨rfl,hc⟩:=hc;exact JPy hF Z W hc hs next
  cases h
 |seq x y=>
  simp only[step]at h;intro N j E a w Q hc hs next;cases j<;>simp only[dF,fF]at hc;simp only[aY]at hc;refine wp_seq ?_;split at h
  rename_i s' A;refine(ih _ _ _ A).get hc.1 hs λa' w' hs'=>?_;exact(ih _ _ _ h).get hc.2 hs' next;rename_i S;refine(ih _ _ _ h).get hc.1 hs λa' w' hs'=>?_;obtain⟨e,s'⟩:=r;cases e with
  |normal=>simp_all
  |exit id=>exact next a' w' hs'
  |ret=>exact next a' w' hs'
 |cond c x y=>
  simp only[step]at h;intro N j E a w Q hc hs next;cases j<;>simp only[dF,fF]at hc;simp only[aY]at hc;obtain⟨⟨U,A⟩,hy⟩:=hc;have hs':=hs;obtain⟨_,_,g,hi,z,_⟩:=hs';split at h
  rename_i b hb;have hrel:=bR (s:=⟨s.sto,g,w⟩) (env:=s.env) z hb U;generalize F:a.eval _=v at hrel;cases hrel with
  |p _ _ hrel=>
   cases hrel with
   |b=>
    refine wp_cond F ?_;cases b with
    |true=>exact(ih _ _ _ (by simpa using h)).get A hs next
    |false=>exact(ih _ _ _ (by simpa using h)).get hy hs next
  rename_i hb;have hrel:=bR (s:=⟨s.sto,g,w⟩) (env:=s.env) z hb U;generalize F:a.eval _=v at hrel;cases hrel with
  |unk t=>
   refine wp_cond F ?_;unfold same at h;split at h;rename_i r1 r2 e1 e2;split at h;rename_i I;injection h with h;subst h;cases t with
   |true=>exact(ih _ _ _ e1).get A hs next
   |false=>rw[I]at next;exact(ih _ _ _ e2).get hy hs next
   cases h;cases h
  cases h
 |block id x=>
  simp only[step]at h;intro N j E a w Q hc hs next;cases j<;>simp only[dF,fF]at hc;simp only[aY,beq_iff_eq]at hc;obtain⟨rfl,hc⟩:=hc;refine wp_block ?_;split at h
  rename_i k s' A;refine(ih _ _ _ A).get hc hs λa' w' hs'=>?_;grind [sV,Exit.inBlock];rename_i S;refine(ih _ _ _ h).get hc hs λa' w' hs'=>?_;obtain⟨e,s'⟩:=r;cases e with
  |normal=>exact next a' w' hs'
  |exit id=>simp_all
  |ret=>exact next a' w' hs'
 |loop live x=>
  simp only[step]at h;intro N j E a w Q hc hs next;cases j<;>simp only[dF,fF]at hc;split at h
  rename_i s' q;obtain⟨k,hk⟩:=ih _ _ _ h;have D:E.σ.length<=s.sto.length:=by obtain⟨_,_,g,_,_,ht⟩:=hs;exact ht.len
  obtain⟨hs',hl⟩:=VW hs q D (zQ0 _);exact wp_loop_rounds k (hk N _ E a w Q hc D (by omega) hs' next);cases h
 |lp n live x=>
  simp only[step]at h;split at h
  ·rename_i s' A;split at h
   ·rename_i am q;obtain⟨k,hk⟩:=ih _ _ _ h;refine⟨k+1,λN j E a w Q hc D hn hs next=>?_⟩;rw[rounds_succ];obtain⟨h1,h2,g,hi,z,ht⟩:=hs;have B:Sim N ⟨s.sto,g,w⟩ s a w:=⟨h1,h2,g,hi,z,.refl _⟩;refine(ih _ _ _ A).get hc B λa' w' hs'=>?_;obtain⟨L,J,g',G,H,C⟩:=hs';have hlen:s.sto.length<=s'.sto.length:=C.len;have a5:Sim N E s' a' w':=⟨L,J,g',G,H,ht.trans C⟩;obtain⟨a6,hl⟩:=VW a5 q D (by omega);exact hk N j E a' w' Q hc D (by omega) a6 next
   cases h
  ·rename_i S;refine⟨1,λN j E a w Q hc D hn hs next=>?_⟩;rw[rounds_succ];refine(ih _ _ _ h).get hc hs λa' w' hs'=>?_;obtain⟨e,s'⟩:=r;cases e with|normal=>simp_all|exit id=>exact next a' w' hs'|ret=>exact next a' w' hs'
 |scope x=>simp only[step]at h;intro N j E a w Q hc hs next;cases j<;>simp only[dF,fF]at hc;refine wp_scope_straight ((ih _ _ _ h).get hc hs λa' w' hs'=>?_);have:=next a' w' hs';obtain⟨e,s'⟩:=r;cases e<;>exact this
 |exit id=>
  simp only[step]at h;injection h with h;subst h;intro N j E a w Q hc hs next;cases j<;>simp only[dF,fF]at hc;simp only[beq_iff_eq]at hc;subst hc;exact wp_exit (next a w hs)
 |ret=>
  simp only[step]at h;injection h with h;subst h;intro N j E a w Q hc hs next;cases j<;>simp only[dF,fF]at hc;exact wp_ret (next a w hs)
 |keep live x=>simp only[step]at h;intro N j E a w Q hc hs next;exact(ih _ _ _ h).get (by grind [dF]) (hs.restr live) next
 |tidy live x=>
  simp only[step,nO]at h;intro N j E a w Q hc hs next;split at h;rename_i e M I;split at h;rename_i s3 q;injection h with h;subst h;obtain⟨h1,h2,g,hi,z,ht⟩:=hs;have B:Sim N ⟨s.sto,g,w⟩ s a w:=⟨h1,h2,g,hi,z,.refl _⟩;refine(ih _ _ _ I).get (by grind [dF]) B λa' w' hs'=>next a' w' ?_;obtain⟨L,J,g',G,H,C⟩:=hs';exact(VW (st:=M) (st':=s3) ⟨L,J,g',G,H,ht.trans C⟩ q ht.len C.len).1;cases h;cases h
 |br live pre o x y rest=>
  simp only[step]at h;intro N j E a w Q hc hs next;unfold dF at hc;split at hc;rename_i cp cq cx cy cz;simp only[aY]at hc;obtain⟨⟨⟨⟨hp,ho⟩,A⟩,hy⟩,hz⟩:=hc;split at h;rename_i s1 a2;refine wp_seq (wp_seq ((ih _ _ _ a2).get hp hs λO K V=>?_));have a9: ∀{c:cL} {j:Code} {r':Out},dF P N c j=true->thn (R c s1) (λs=>R rest s)=some r'->
    ∀{E:Sn} {a:Act} {w:World} {Q:Exit->Act->World->Prop},Sim N E s1 a w->(∀a' w',Sim N E r'.2 a' w'->Q (sV r'.1) a' w')->j.wp P (Exit.then (cz.wp P Q) Q) a w:=by
   intro c j r' hc ht E a w Q hs next;cases hR:R c s1 with
   |none=>rw[hR]at ht;cases ht
   |some o=>
    obtain⟨e,M⟩:=o;rw[hR]at ht;refine(ih _ _ _ hR).get hc hs λa' w' hs'=>?_;cases e with
    |normal=>exact(ih _ _ _ ht).get hz hs' next
    |exit id=>injection ht with ht;subst ht;exact next a' w' hs'
    |ret=>injection ht with ht;subst ht;exact next a' w' hs'
  have ac: ∀{c:cL} {j:Code},dF P N c j=true->nO s1.sto.length live (thn (R c s1) λs=>R rest s)=some r->j.wp P (Exit.then (cz.wp P Q) Q) O K:=(by intro c j hc ht;unfold nO at ht;split at ht;rename_i e M I;split at ht;rename_i s3 q;injection ht with ht;subst ht;obtain⟨h1,h2,g,hi,z,ht⟩:=V;have B:Sim N ⟨s1.sto,g,K⟩ s1 O K:=⟨h1,h2,g,hi,z,.refl _⟩;refine a9 hc I B λa' w' hs'=>next a' w' ?_;obtain⟨L,J,g',G,H,C⟩:=hs';exact(VW (st:=M) (st':=s3) ⟨L,J,g',G,H,ht.trans C⟩ q ht.len C.len).1;cases ht;cases ht);have Y:=V;obtain⟨_,_,g,hi,z,_⟩:=Y;simp only[sV,Exit.then];split at h;rename_i b hb;have hrel:=bR (s:=⟨s1.sto,g,K⟩) (env:=s1.env) z hb ho;generalize F:O.eval cq=v at hrel;cases hrel with
  |p _ _ hrel=>cases hrel<;>grind [wp_cond]
  rename_i hb;have hrel:=bR (s:=⟨s1.sto,g,K⟩) (env:=s1.env) z hb ho;generalize F:O.eval cq=v at hrel;cases hrel with
  |unk t=>
   refine wp_cond F ?_;unfold same at h;grind
  cases h;cases h;cases hc
theorem Iq(e:P.follows .mixedOrders=true)(j: ∀f o,T f=some (.fn o)->mD P f o=true)
  (h: ∀f g,T f=some (.prim g)-> ∀args blks r,g args blks=some r->J6a P f args blks r) (n: ∀f k,T f=some (.fork k)->mD P f k.af=true):kJ P (AF T):=
 w6 (JNe e j h n) j h n
end
@[congr] theorem JSi{o e:Option Out}{k:St->Option Out}(h:o=e):thn o k=thn e k:=by rw[h]
@[congr] theorem JRc{α β:Type}{o e:RM α}{f:α->RM β}(h:o=e):o.bind f=e.bind f:=by rw[h]
@[congr] theorem JRd{α β:Type}{o e:Option α}{f:α->Option β}(h:o=e):o.bind f=e.bind f:=by rw[h]
@[simp] theorem PJ(s k):thn (some (.normal,s)) k=k s:=rfl
@[simp] theorem JL8(i s k):thn (some (.exit i,s)) k=some (.exit i,s):=rfl
@[simp] theorem JNc(s k):thn (some (.ret,s)) k=some (.ret,s):=rfl
@[simp] theorem JJS(k):thn none k=none:=rfl
def QQ(o:Option Out)(k:St->Option Out):Option Out:=
 match o with
 |some (.normal,s)=>k s
 |_=>none
@[congr] theorem JRh{o e:Option Out}{k:St->Option Out}(h:o=e):QQ o k=QQ e k:=by rw[h]
@[simp] theorem JD2(s k):QQ (some (.normal,s)) k=k s:=rfl
def blo(id:Nat)(o:Option Out):Option Out:=
 match o with
 |some (.exit k,s)=>if k=id then some (.normal,s)else some (.exit k,s)
 |o=>o
@[simp] theorem JH1(id s):blo id (some (.normal,s))=some (.normal,s):=rfl
@[simp] theorem wo(id i s):blo id (some (.exit i,s))=if i=id then some (.normal,s)else some (.exit i,s):=rfl
@[simp] theorem JOj(id s):blo id (some (.ret,s))=some (.ret,s):=rfl
@[simp] theorem JKJ(id):blo id none=none:=rfl
def nrm(o:Option St):Option Out:=match o with|some s=>some (.normal,s)|none=>none
@[simp] theorem JMk(s):nrm (some s)=some (.normal,s):=rfl
@[simp] theorem JLs:nrm none=none:=rfl
def evv(x:Opd)(env:List (Nat×AV)):Option AV:=match x with| .t n=>lk n env| .c v=>some v
@[simp] theorem JSY(n env):evv (.t n) env=lk n env:=rfl
@[simp] theorem JSZ(v env):evv (.c v) env=some v:=rfl
theorem UG(x:Opd)(s:St):(ev x).run s=evv x s.env:=by cases x<;>grind [ev,RM.run,evv]
section
variable (T:dM)
@[simp ↓] theorem JST(s):X T .skip s=some (.normal,s):=by rw[nJ];rfl
@[simp ↓] theorem Iu(a b s):X T (.seq a b) s=thn (X T a s) λs=>X T b s:=by
 rw[nJ];simp only[step];cases X T a s with
 |none=>rfl
 |some o=>obtain⟨e,s'⟩:=o;cases e<;>rfl
theorem Im(d ps ins s):X T (.reg d ps ins) s=nrm (region (AF T) ps ins s):=by rw[nJ];simp only[step];show(match region (AF T) ps ins s with|some s'=>some (AX.normal,s')|none=>none)=_;cases region (AF T) ps ins s<;>rfl
@[simp ↓] theorem JSV(d ins env sto):X T (.reg d [] ins) ⟨env,sto⟩=nrm (gL (AF T) ins sto.length ⟨env,room (news ins) sto⟩):=by rw[Im];rfl
def cnd(x:Option AV)(a b:Option Out)(c:Unit->Option Out):Option Out:=
 match x with
 |some (.p (.b x))=>if x=true then a else b
 |some .unk=>c ()
 |_=>none
@[congr] theorem JSg{x e:Option AV}{a b:Option Out}{c:Unit->Option Out}(h:x=e):cnd x a b c=cnd e a b c:=by rw[h]
@[simp] theorem I4(x a b c):cnd (some (.p (.b x))) a b c=if x=true then a else b:=rfl
@[simp] theorem JOq(a b c):cnd (some .unk) a b c=c ():=rfl
@[simp ↓] theorem JOI(x a b s):X T (.cond x a b) s=cnd (evv x s.env) (X T a s) (X T b s) λ_=>same (X T a s) (X T b s):=by
 rw[nJ];simp only[step,UG];cases evv x s.env with
 |none=>rfl
 |some v=>
  cases v with
  |p c=>cases c<;>rfl
  |_=>rfl
@[simp ↓] theorem JMX(id c s):X T (.block id c) s=blo id (X T c s):=by
 rw[nJ];simp only[step];cases X T c s with
 |none=>rfl
 |some o=>obtain⟨e,s'⟩:=o;cases e<;>rfl
@[simp ↓] theorem JNq(c s):X T (.scope c) s=X T c s:=by rw[nJ];rfl
@[simp ↓] theorem JSS(id s):X T (.exit id) s=some (.exit id,s):=by rw[nJ];rfl
@[simp ↓] theorem JRP(s):X T .ret s=some (.ret,s):=by rw[nJ];rfl
@[simp ↓] theorem Kp(live c s):X T (.keep live c) s=X T c ⟨restr live s.env,s.sto⟩:=by rw[nJ];rfl
@[simp ↓] theorem JT1(live pre x a b rest s):X T (.br live pre x a b rest) s=QQ (X T pre s) λs1=>
  cnd (evv x s1.env) (thn (X T a s1) λs=>X T rest s) (thn (X T b s1) λs=>X T rest s) λ_=>
   same (nO s1.sto.length live (thn (X T a s1) λs=>X T rest s)) (nO s1.sto.length live (thn (X T b s1) λs=>X T rest s)):=by
 rw[nJ];simp only[step,UG];cases X T pre s with
 |none=>rfl
 |some o=>
  obtain⟨e,s1⟩:=o;cases e with
  |normal=>
   dsimp only[QQ];cases evv x s1.env with
   |none=>rfl
   |some v=>
    cases v with
    |p c=>cases c<;>rfl
    |_=>rfl
  |exit=>rfl
  |ret=>rfl
@[simp ↓] theorem JQ2(live c env sto):X T (.loop live c) ⟨env,sto⟩=X T (.lp sto.length live c) ⟨restr live env,sto⟩:=by
 grind [nJ,step,clean]
theorem rc(n live c s):X T (.lp n live c) s=thn (X T c s) λs=>match clean n live s with
  |some s=>X T (.lp n live c) s
  |none=>none:=by
 rw[nJ];simp only[step];cases X T c s with
 |none=>rfl
 |some o=>obtain⟨e,s'⟩:=o;cases e<;>rfl
def QD(res:List xQ)(fresh:Bool)(m:Nat)(o:Option Out):Option Res:=
 match o with
 |some (.normal,s)=>iI ⟨0,0,.skip,res,fresh⟩ m s
 |some (.ret,s)=>iI ⟨0,0,.skip,res,fresh⟩ m s
 |_=>none
@[congr] theorem JRO{res:List xQ}{fresh:Bool}{m:Nat}{o e:Option Out}(h:o=e):QD res fresh m o=QD res fresh m e:=by rw[h]
@[simp] theorem JDb(res fresh m s):QD res fresh m (some (.normal,s))=iI ⟨0,0,.skip,res,fresh⟩ m s:=rfl
@[simp] theorem JLU(res fresh m s):QD res fresh m (some (.ret,s))=iI ⟨0,0,.skip,res,fresh⟩ m s:=rfl
theorem JOv{f:FuncId}{k:kT}(h:T f=some (.fork k))(args blks):AF T f args blks=if args.length=k.np then vL (X T) k args blks else none:=by simp_all [AF,qU]
@[simp] theorem JRx(o:Option Res):MW o o=o:=by unfold MW;cases o<;>simp
theorem JS7{f:FuncId}{fn:AFn}(h:T f=some (.fn fn))(args blks):AF T f args blks=if args.length=fn.np then
  QD fn.res fn.fresh blks.length (X T fn.body ⟨jW 0 args,blks⟩)
 else none:=by
 unfold AF qU;rw[h];rfl
end
variable {F:Orc} {env:List (Nat×AV)} {sto:List Blk} {new:Nat} {r:List cG} {d:Nat}
@[simp] theorem JFA(s):gL F [] new s=some s:=rfl
theorem JD7(i s):gL F (i::r) new s=((cJ F i new).run s).bind λe=>gL F r (new+nM i.op) (put i.dst e s):=by
 grind [gL]
@[simp] theorem JSs:news []=0:=rfl
@[simp ↓] theorem JSh(i):news (i::r)=nM i.op+news r:=rfl
@[simp] theorem JSW:room 0 sto=sto:=rfl
@[simp] theorem JSe(n):room (n+1) sto=sto++List.replicate (n+1) .dead:=rfl
@[simp] theorem JSX(n):lk n []=none:=rfl
@[simp] theorem JNO(n m v)(r:List (Nat×AV)):lk n ((m,v)::r)=if n=m then some v else lk n r:=rfl
attribute [simp ↓] JD7 cJ opD vG nM run_bind UG opR
attribute [simp] put val evs evo lQ pS
 oT AN AZ unP jX QG fz fz.fzL fz.fz1 fzs CX gY iV sub spl sR SL LW NK NH nP TI sI pQ lN yU yR fX sJ jU mmP cellsOf unp rG lM
 oS one jW hE NV nS
@[simp] theorem JSj(o:Option Out):same o o=o:=by unfold same;cases o<;>simp
@[simp ↓] theorem bP{α:Type}(a:α)(s:St):(RM.ret a).run s=some a:=rfl
@[simp ↓] theorem JSL{α:Type}(s:St):(RM.fail:RM α).run s=none:=rfl
@[simp ↓] theorem zD{α:Type}(n:Nat)(k:AV->RM α)(s:St):(RM.slot n k).run s=(lk n s.env).bind λv=>(k v).run s:=by grind [RM.run]
@[simp ↓] theorem eI{α:Type}(n:Nat)(k:Blk->RM α)(s:St):(RM.blk n k).run s=(s.sto[n]?).bind λv=>(k v).run s:=by grind [RM.run]
@[simp] theorem JMR:upd [] sto=sto:=rfl
@[simp] theorem JL1(b x ws):upd ((b,x)::ws) sto=upd ws (sto.set b x):=rfl
@[simp] theorem JSf:restr [] env=[]:=rfl
@[simp] theorem JH8(k l):restr (k::l) env=match lk k env with
 |some v=>(k,v)::restr l env
 |none=>restr l env:=rfl
end Go.Am
namespace Go.Am
def rA:AV->Bool| .p _| .data _| .cp _ _| .unk=>true|_=>false
@[simp] theorem JSu(c):rA (.p c)=true:=rfl
@[simp] theorem JRe(c):rA (.data c)=true:=rfl
@[simp] theorem JSd(c o):rA (.cp c o)=true:=rfl
theorem Aa: ∀{args:List AV} {l:List Ent},args.all rA=true->cX.entsOfL args l=l|[],l,_=>rfl|x::r,l,h=>by simp only[List.all_cons,aY]at h;obtain⟨h1,h2⟩:=h;simp only[cX.entsOfL];cases x<;>simp[rA]at h1<;>simp only[cX]<;>exact Aa h2
theorem zb{ρ:Ent->Option Nat}: ∀{args:List AV},args.all rA=true->ren.renL ρ args=some args|[],_=>rfl|x::r,h=>by simp only[List.all_cons,aY]at h;have:=zb (ρ:=ρ) h.2;have h1:=h.1;clear h;cases x<;>simp[rA]at h1<;>simp[ren.renL,ren,this]
theorem JLa{es:List Ent}{new:Nat}{x:AV}(h:rA x=true):bk es new x=some x:=by cases x<;>simp[rA]at h<;>rfl
theorem la{es:List Ent}{new:Nat}: ∀{xs:List AV},xs.all rA=true->bk.bkL es new xs=some xs|[],_=>rfl|x::r,h=>by simp only[List.all_cons,aY]at h;simp[bk.bkL,JLa h.1,la h.2]
@[simp] theorem JT0(es new c):bk es new (.p c)=some (.p c):=rfl
@[simp] theorem JSR(es new c):bk es new (.data c)=some (.data c):=rfl
@[simp] theorem JSU(es new l):bk es new (.tup l)=(bk.bkL es new l).map .tup:=by grind [bk]
@[simp] theorem JSQ(es new):bk.bkL es new []=some []:=rfl
@[simp] theorem JSB(es new x l):bk.bkL es new (x::l)=(bk es new x).bind λy=>(bk.bkL es new l).map λl=>y::l:=by simp only[bk.bkL];cases bk es new x<;>simp;cases bk.bkL es new l<;>rfl
@[simp] theorem JRf(n live):nO n live none=none:=rfl
@[simp] theorem JCA(n live e s):nO n live (some (e,s))=(clean n live s).map λs=>(e,s):=by
 grind [nO]
attribute [simp ↓] JE Option.bind_none PJ JL8 JNc JJS JD2 JMk JLs I4 JOq JH1 wo JOj JKJ JDb JLU JFA JNO JH8 JMR JL1
attribute [simp] clean xH sK gH fin fin.finL iI kL sM cX cX.entsOfL yS kH yB eY unp
end Go.Am
end
section
namespace Go.Am
inductive Fr where|sq (b:cL)|bl (id:Nat)|td (n:Nat) (live:List Nat)|lo (n:Nat) (live:List Nat) (c:cL)
noncomputable def again(T:dM)(n:Nat)(live:List Nat)(c:cL)(o:Option St):Option Out:=match o with|some s=>X T (.lp n live c) s|none=>none
section
variable (T:dM) (f:AFn) (m:Nat) (k:List Fr)
theorem JPm(live c s):X T (.tidy live c) s=nO s.sto.length live (X T c s):=by rw[nJ];rfl
end
open Classical in
noncomputable def J4{σ ρ:Type}(f:σ->Option (σ⊕ρ))(s:σ):Option ρ:=
 let e:Nat->σ->Option ρ:=λn=>n.rec (λ_=>none) λ_ ih s=>match f s with|some (.inl s')=>ih s'|some (.inr r)=>some r|none=>none
 if h: ∃n r,e n s=some r then e (Classical.choose h) s else none
def dE{σ ρ:Type}(f:σ->Option (σ⊕ρ)):Nat->σ->Option ρ|0,_=>none|n+1,s=>match f s with|some (.inl s')=>dE f n s'|some (.inr r)=>some r|none=>none
section
variable {σ ρ:Type} {f:σ->Option (σ⊕ρ)}
theorem jd(n:Nat): ∀s:σ,(Nat.rec (motive:=λ_=>σ->Option ρ) (λ_=>none) (λ_ ih s=>match f s with
  |some (.inl s')=>ih s'
  |some (.inr r)=>some r
  |none=>none) n) s=dE f n s:=by
 induction n with
 |zero=>intro s;rfl
 |succ n ih=>grind [dE]
theorem k5: ∀{n:Nat} {s:σ} {r:ρ} (m:Nat),dE f n s=some r->dE f (n+m) s=some r
 |0,_,_,_,h=>by cases h
 |n+1,s,r,m,h=>by
  rw[show n+1+m=(n+m)+1 by omega];simp only[dE]at h⊢;split at h;exact k5 m h
  all_goals simp_all
theorem JKk{n m:Nat}{s:σ}{r r':ρ}(h:dE f n s=some r)(e:dE f m s=some r'):r=r':=by
 have a:=k5 m h;have b:=k5 n e;grind
theorem lR{s:σ}{r:ρ}:J4 f s=some r↔ ∃n,dE f n s=some r:=by
 unfold J4;dsimp only;constructor;intro h;split at h;exact⟨_,by rw[<-jd];exact h⟩;cases h;rintro⟨n,h⟩;have e: ∃n r,(Nat.rec (motive:=λ_=>σ->Option ρ) (λ_=>none) (λ_ ih s=>match f s with
  |some (.inl s')=>ih s'
  |some (.inr r)=>some r
  |none=>none) n) s=some r:=⟨n,r,by grind [jd]⟩
 rw[dif_pos e];obtain⟨r',g⟩:=Classical.choose_spec e;rw[g];rw[jd]at g;grind [JKk]
theorem dV{s:σ}{r:ρ}(h:f s=some (.inr r)):J4 f s=some r:=lR.2 ⟨1,by grind [dE]⟩
theorem eX{s s':σ}(h:f s=some (.inl s')):J4 f s=J4 f s':=by
 have g: ∀r,J4 f s=some r↔J4 f s'=some r:=by
  intro r;rw[lR,lR];constructor;rintro⟨n,e⟩;cases n<;>grind [dE]
  rintro⟨n,e⟩;exact⟨n+1,by grind [dE]⟩
 cases hs:J4 f s with
 |some r=>grind
 |none=>cases hs':J4 f s'<;>grind
theorem JGn{s:σ}(h:f s=none):J4 f s=none:=by
 cases hs:J4 f s with
 |none=>rfl
 |some r=>obtain⟨n,e⟩:=lR.1 hs;cases n<;>simp_all [dE]
theorem kx{P:σ->ρ->Prop}(h1: ∀s r,f s=some (.inr r)->P s r)(h2: ∀s s' r,f s=some (.inl s')->P s' r->P s r){s:σ}{r:ρ}(h:J4 f s=some r):P s r:=by
 obtain⟨n,e⟩:=lR.1 h;clear h
 induction n generalizing s with
 |zero=>cases e
 |succ n ih=>
  grind [dE]
end
end Go.Am
end
section
namespace Go.Am
section
variable {α:Type}
def idx(l:List α)(n:Int):Option α:=if 0<=n then l[n.toNat]? else none
def bB(k:Nat)(n:Int):Option Unit:=if 0<=n/\n<k then some ()else none
def JB(bytes:Nat)(l l':List α):Option (List α):=if sJ (l.length+l'.length) bytes=true then some (l++l')else none
def cI(bytes:Nat)(l:List α):Option (List α):=if sJ l.length bytes=true then some l else none
def Hc(n:Int)(len:Nat):Option Nat:=if 0<=n/\n.toNat<=len then some n.toNat else none
def mkS(bytes:Nat)(n m:Int)(z:α):Option (List α):=if 0<=n/\n<=m/\bytes*m<=281474976710656/\m<=281474976710656 then some (List.replicate n.toNat z)else none
def uU(x:Option Int)(top e:Nat):Option Nat:=match x with|none=>some e|some n=>if 0<=n/\n<=top then some n.toNat else none
def sA(n:Nat)(lo hi:Option Int):Option (Nat×Nat):=match uU hi n n with|none=>none|some h=>match uU lo h 0 with|none=>none|some l=>some (l,h)
def bE(l:List α)(lo hi:Option Int):Option (List α):=match sA l.length lo hi with|some c=>some ((l.drop c.1).take (c.2-c.1))|none=>none
def Ig(k:IntKind)(x y:Int):Option Int:=if y=0 then none else some (k.wrap (x.tdiv y))
def xK(x y:Int):Option Int:=if y=0 then none else some (x.tmod y)
def nF(k:IntKind)(x y:Int):Option Int:=if y<0 then none else some (k.wrap (x*2^(min y.toNat k.bits)))
def gX(k:IntKind)(x y:Int):Option Int:=if y<0 then none else some (x.fdiv (2^(min y.toNat k.bits)))
def kX(k:IntKind)(x y:Int):Int:=k.wrap (BitVec.ofInt k.bits x&&&BitVec.ofInt k.bits y).toNat
def orI(k:IntKind)(x y:Int):Int:=k.wrap (BitVec.ofInt k.bits x|||BitVec.ofInt k.bits y).toNat
def gU(k:IntKind)(x y:Int):Int:=k.wrap (BitVec.ofInt k.bits x^^^BitVec.ofInt k.bits y).toNat
def MB(k:IntKind)(n:Int):Int:=k.wrap (BitVec.ofInt k.bits (if k.signed then -1 else k.max)^^^BitVec.ofInt k.bits n).toNat
def cS(a b:List UInt8):Option (List UInt8):=if a.length+b.length<=4611686018427387904 then some (a++b)else none
def nG(l:List UInt8)(n:Int):Option Int:=if 0<=n then(match l[n.toNat]? with|some u=>some (u.toNat:Int)|none=>none)else none
def pq{k:Nat}(v:Vector α k)(n:Int):Option α:=if 0<=n/\n<k then v[n.toNat]? else none
def toStr(l:List Int):List UInt8:=l.map λn=>UInt8.ofNat n.toNat
def aV(l:List UInt8):List Int:=l.map λu=>(u.toNat:Int)
def jE(x y:Int):Int:=if y<x then y else x
def bZ(x y:Int):Int:=if y>x then y else x
end
@[reducible] def cat(a b:List PV):List PV:=a++b
def r_i(k:IntKind)(n:Int):List PV:=[.i k n]
def r_b(x:Bool):List PV:=[.b x]
def r_s(l:List UInt8):List PV:=[.s l]
def JSH{α:Type}(esz:Nat)(r:α->List PV)(l:List α):List PV:=[.sl esz (l.map r)]
def qJ{α:Type}{n:Nat}(r:α->List PV)(v:Vector α n):List PV:=(v.toList.map r).flatten
section
variable {α:Type}
theorem CQ(cs:List α)(off size:Nat):sub cs off size=if off+size<=cs.length then some ((cs.drop off).take size)else none:=by
 grind [sub]
theorem IL(cs:List α)(off:Nat)(vs:List α):spl cs off vs=if off+vs.length<=cs.length then some (cs.take off++vs++cs.drop (off+vs.length))else none:=by simp_all
theorem ib{cs:List α}{n:Nat}(h:cs.length=n):sub cs 0 n=some cs:=by simp_all
theorem Ns{cs vs:List α}(h:cs.length=vs.length):spl cs 0 vs=some vs:=by simp_all
theorem JJH{a b c:List α}{off size:Nat}(h1:a.length=off)(h2:b.length=size):sub (a++(b++c)) off size=some b:=by
 grind [CQ]
theorem JHs{b c:List α}{size:Nat}(h2:b.length=size):sub (b++c) 0 size=some b:=JJH (a:=[]) rfl h2
theorem JIi{a b c v:List α}{off:Nat}(h1:a.length=off)(h2:b.length=v.length):spl (a++(b++c)) off v=some (a++(v++c)):=by
 grind [IL]
theorem JHG{b c v:List α}(h2:b.length=v.length):spl (b++c) 0 v=some (v++c):=JIi (a:=[]) rfl h2
theorem Od{cs e r:List α}{a m k n:Nat}(h1:sub cs a m=some e)(h2:sub e k n=some r):sub cs (a+k) n=some r:=by
 grind [CQ,List.drop_take,List.drop_drop]
theorem Np{cs g e v cs':List α}{a m k:Nat}(h1:sub cs a m=some g)(h2:spl g k v=some e)(h3:spl cs a e=some cs'):spl cs (a+k) v=some cs':=by
 rw[CQ]at h1;rw[IL]at h2 h3⊢;split at h1;rename_i o;injection h1 with h1;subst h1;split at h2;rename_i j;injection h2 with h2;subst h2;simp at j;split at h3;injection h3 with h3;subst h3;rw[if_pos (by omega)]
 congr 1
 simp only[eP,uV,xI,List.take_take,List.drop_take,uR,kY];have h:cs.take (a+k)=cs.take a++(cs.drop a).take k:=List.take_add ..;rw[h,kY];rw[show min k m=k by omega]
 congr 3
 have n:cs.drop (a+k+v.length)=(cs.drop (a+(k+v.length))).take (m-(k+v.length))++cs.drop (a+m):=(by have:=qL (m-(k+v.length)) (cs.drop (a+(k+v.length)));rw[uR]at this;rw[show a+(k+v.length)+(m-(k+v.length))=a+m by omega]at this;grind);rw[n]
 congr 2
 omega;cases h3;cases h2;cases h1
theorem IP{β:Type}(g:α->β)(cs:List α)(off size:Nat):sub (cs.map g) off size=(sub cs off size).map (List.map g):=by
 grind [CQ,List.map_drop,List.map_take]
theorem IS{β:Type}(g:α->β)(cs:List α)(off:Nat)(vs:List α):spl (cs.map g) off (vs.map g)=(spl cs off vs).map (List.map g):=by
 grind [IL,List.map_drop,List.map_take]
theorem NY{n k w:Nat}{r:α->List PV}(hr: ∀x,(r x).length=w){v:Vector α n}{x:α}(h:v[k]?=some x):sub (qJ r v) (k*w) w=some (r x):=by
 have g: ∀(l:List α) (k:Nat) (x:α),l[k]?=some x->sub ((l.map r).flatten) (k*w) w=some (r x):=by
  intro l
  induction l with
  |nil=>simp_all
  |cons y l ih=>
   intro k x h;cases k with
   |zero=>
    grind [JHs]
   |succ k=>
    simp at h;have:=ih k x h;rw[cN,vC];rw[CQ]at this⊢;split at this;injection this with this;have e:(k+1)*w=w+k*w:=by grind
    rw[e,if_pos (by grind)];have j:w+k*w=(r y).length+k*w:=by rw[hr]
    rw[j,List.drop_length_add_append,this];cases this
 exact g _ _ _ (by simp_all)
theorem K3{n k w:Nat}{r:α->List PV}(hr: ∀x,(r x).length=w){v:Vector α n}(h:k<n)(y:α):spl (qJ r v) (k*w) (r y)=some (qJ r (v.setIfInBounds k y)):=by
 have g: ∀(l:List α) (k:Nat),k<l.length->spl ((l.map r).flatten) (k*w) (r y)=some (((l.set k y).map r).flatten):=by
  intro l
  induction l with
  |nil=>simp_all
  |cons z l ih=>
   intro k h;cases k with
   |zero=>
    grind [JHG]
   |succ k=>
    simp at h;have:=ih k h;rw[cN,vC];rw[IL]at this⊢;split at this;rename_i j;injection this with this;have e:(k+1)*w=(r z).length+k*w:=by grind
    rw[e,if_pos (by grind)];simp only[List.set_cons_succ,cN,vC];rw[<-this];rw[show(r z).length+k*w+(r y).length=(r z).length+(k*w+(r y).length) by omega];simp[List.take_length_add_append];cases this
 grind [qJ]
theorem JQ8{n w:Nat}{r:α->List PV}(hr: ∀x,(r x).length=w)(v:Vector α n):(qJ r v).length=n*w:=by
 have e: ∀l:List α,((l.map r).flatten).length=l.length*w:=by
  intro l
  induction l with
  |nil=>simp
  |cons x l ih=>grind
 grind [qJ]
end
theorem IR: ∀l:List PV,unp (l.map AV.p)=some l|[]=>rfl|x::l=>by simp[unp,IR l]
theorem Ah(l:List PV):lQ true (l.map AV.p)=some (.data l):=by simp[IR]
theorem YQ: ∀l:List PV,(l.map AV.p).all rA=true|[]=>rfl|x::l=>by simp
theorem yh(m:Nat)(ids:List Nat)(sto:List Blk): ∀l:List PV,fin.finL m ids sto (l.map AV.p)=some (l.map AV.p)|[]=>rfl|x::l=>by simp[fin.finL,fin,yh m ids sto l]
theorem yb(l:List PV)(acc:List Ent):cX.entsOfL (l.map AV.p) acc=acc:=Aa (YQ l)
theorem JIf{α:Type}{r:α->List PV}{l:List α}{n:Int}{x:α}(h:idx l n=some x):TI (l.map r) n=some (r x):=by simp_all [idx]
theorem L4{k:Nat}{n:Int}{u:Unit}(h:bB k n=some u):0<=n/\n<k:=by
 grind [bB]
theorem JJU{α:Type}{k:Nat}{v:Vector α k}{n:Int}{x:α}(h:pq v n=some x):(0<=n/\n<k)/\v[n.toNat]?=some x:=by
 grind [pq]
theorem JNX{α:Type}{r:α->List PV}{esz bytes b:Nat}{w:Bool}{l l' l2:List α}{y:AV}{s:St}(h:JB bytes l l2=some l')(hb:s.sto[b]?=some (.arr w esz (l.map r)))(hy:(fX esz y).run s=some (l2.map r)):
  (jU esz bytes (.slr b 0 l.length) y).run s=some ⟨.slr b 0 l'.length,[(b,.arr w esz (l'.map r))]⟩:=by
 grind [JB,jU,eI,run_bind,bP]
theorem me: ∀l:List Int,vX (l.map (r_i .u8))=some (toStr l)|[]=>rfl|x::l=>by simp[vX,r_i,me l,toStr]
theorem ji(l:List UInt8):l.map nS=(aV l).map (r_i .u8):=by simp[aV,r_i]
theorem JJQ{α:Type}{bytes:Nat}{l l':List α}(h:cI bytes l=some l'):sJ l.length bytes=true/\l'=l:=by
 grind [cI]
theorem JOc{α:Type}{bytes:Nat}{n m:Int}{z:α}{l:List α}(h:mkS bytes n m z=some l):(0<=n/\n<=m/\bytes*m<=281474976710656/\m<=281474976710656)/\l=List.replicate n.toNat z:=by
 grind [mkS]
end Go.Am
end
section
namespace Go.Am
open Go.RowKit
theorem Ox{σ:List Blk}{g:Gh}{w w':World}(hi:Inv ⟨σ,g,w⟩)(hb:Below w.heap.size w w'):
  Inv ⟨σ,g,w'⟩/\bJ ⟨σ,g,w⟩ ⟨σ,g,w'⟩:=by
 have j: ∀(r:Nat) x,w.heap[r]?=some x->w'.heap[r]?=some x:=λr x h=>by rw[hb.block r (zO h)];exact h
 have hc: ∀r o v,cellAt w r o=some v->cellAt w' r o=some v:=(by grind [cellAt]);have t:bJ ⟨σ,g,w⟩ ⟨σ,g,w'⟩:=by
  refine⟨⟨hb.size,λr c e fz h=>⟨c,j r _ h,rfl,λ_ _=>rfl⟩,λr x h _=>j r x h,hb.os,hb.output⟩,λ_ _ h=>h,λ_ _ h=>.inl h,λr o ⟨b,hb⟩=>.inl ⟨b,hb⟩,zQ0 _,λ_ cs h=>⟨⟨cs,h,rfl⟩,rfl⟩,
   λ_ wm _ rows h=>⟨wm,rows,h,id,zQ0 _,λ_=>rfl⟩⟩
 exact⟨nQ hi t (λ_=>False) (λ_ _=>⟨rfl,rfl⟩) (λ_ r o v _ _ h=>hc r o v h) (λ_ _ h=>h.elim) (λ_ _ _ _ h=>h.elim)
  (λ_ _ _ _ h=>h.elim) (λr o h=>Nat.lt_of_lt_of_le (hi.const r o h).1 hb.size) (λ_ _ _ _ h=>h.elim) (λ_ _ _ h k=>(k h).elim),t⟩
def sG:PV->Option Value| .b x=>some (.bool x)| .i k n=>some (.int k n)| .s l=>some (.string ⟨l.toArray⟩)|_=>none
theorem wh{x:PV}{v:Value}(h:sG x=some v)(w:World)(C:Nat->Nat->Prop):J08 w C x v:=by
 cases x<;>simp only[sG,Option.some.injEq,reduceCtorEq]at h<;>subst h
 exact .b _;exact .i _ _;exact .s _
theorem Mf{x:PV}{v e:Value}{w:World}{C:Nat->Nat->Prop}(h:J08 w C x v)(hv:sG x=some e):v=e:=by cases x<;>simp only[sG,Option.some.injEq,reduceCtorEq]at hv<;>subst hv<;>cases h<;>rfl
theorem JFa{P:Program}{f:FuncId}{xs:List PV}{vs:List Value}{r:PV}{v:Value}{blks:List Blk}
  (hf: ∃fn,P.funcs[f]?=some fn∧fn.body.isSome=true∧(fn.name== "runtime.NumGoroutine")=false)
  (hx:xs.mapM sG=some vs) (hr:sG r=some v)
  (hc: ∀w,Calls P f vs.toArray w λe w'=>e=.returned v/\Below w.heap.size w w'):
  J6a P f (xs.map .p) blks (.p r,blks):=by
 refine⟨hf,λg w vals hi hl A=>?_⟩;have h:vals=vs.toArray:=by
  have k: ∀(xs:List PV) (vs vl:List Value),xs.mapM sG=some vs->xs.length=vl.length->
    (∀(i:Nat) x v,(xs.map AV.p)[i]?=some x->vl[i]?=some v->JK ⟨blks,g,w⟩ x v)->vl=vs:=by
   intro xs
   induction xs with
   |nil=>grind
   |cons x r ih=>
    intro vs vl h1 h2 o;simp only[List.mapM_cons,Option.pure_def,Option.bind_eq_bind]at h1;obtain⟨B,n,h1⟩:=bQ.1 h1;obtain⟨y,j,h1⟩:=bQ.1 h1;simp only[Option.some.injEq]at h1;subst h1;cases vl with
    |nil=>simp at h2
    |cons u q=>
     have:=o 0 (.p x) u rfl rfl;cases this with
     |p _ _ hp=>rw[Mf hp n,ih y q j (by simpa using h2) (λi x v hx z=>o (i+1) x v hx z)]
  apply ZN;rw[k xs vs vals.toList hx (by simpa using hl) (λi x v h1 h2=>A i x v h1 (by simpa using h2))]
 subst h;refine(hc w).mono ?_;rintro e w' ⟨rfl,hb⟩;obtain⟨hi',t⟩:=Ox hi hb;exact⟨v,g,rfl,hi',t,.p _ _ (wh hr _ _)⟩
theorem g9{T:dM}{f:FuncId}{g:List AV->List Blk->Option Res}(h:T f=some (.prim g))(args blks):AF T f args blks=g args blks:=by simp_all [AF,qU]
def Hk(a:Option AFn)(k:Option kT)(g q:Option (List AV->List Blk->Option Res)):Option Entry:=
 match a with
 |some a=>some (.fn a)
 |none=>match k with|some k=>some (.fork k)|none=>match g with|some g=>some (.prim g)|none=>q.map .prim
theorem IX{a:Option AFn}{k:Option kT}{g q:Option (List AV->List Blk->Option Res)}{e:Entry}(h:Hk a k g q=some e):
  (∃x,a=some x/\e=.fn x)\/(∃x,k=some x/\e=.fork x)\/(∃x,g=some x/\e=.prim x)\/(∃x,q=some x/\e=.prim x):=by
 cases a with
 |some a=>exact .inl ⟨a,rfl,by injection h with h;exact h.symm⟩
 |none=>
  cases k with
  |some k=>exact .inr (.inl ⟨k,rfl,by injection h with h;exact h.symm⟩)
  |none=>
   cases g with
   |some g=>exact .inr (.inr (.inl ⟨g,rfl,by injection h with h;exact h.symm⟩))
   |none=>
    cases q with
    |some q=>exact .inr (.inr (.inr ⟨q,rfl,by injection h with h;exact h.symm⟩))
    |none=>cases h
def J6V(n:Int)(i:Nat):Int:=IntKind.wrap .u8 ((IntKind.wrap .u64 n).fdiv (2^(8*i)))
def J0d(n:Int)(k:Nat):List UInt8:=toStr ((List.range k).map (J6V n))
def JnV(l:List UInt8)(n size:Int):Option (List UInt8):=if size<1\/8<size then some l else if l.length+8<=140737488355328 then some (l++J0d n size.toNat)else none
def JFQ:List AV->List Blk->Option Res|[.p (.s l),.p (.i .i64 n),.p (.i .i64 k)],blks=>(JnV l n k).map λr=>(.p (.s r),blks)|_,_=>none
theorem JOa(x:Int):0<=IntKind.wrap .u8 x/\IntKind.wrap .u8 x<256:=by have h:IntKind.wrap .u8 x=x%256:=rfl;rw[h];omega
theorem JqZ(n:Int)(i:Nat):((UInt8.ofNat (J6V n i).toNat).toNat:Int)=J6V n i:=by
 have h:0<=J6V n i/\J6V n i<256:=JOa _;grind [UInt8.toNat_ofNat_of_lt']
theorem JuG(n:Int)(k:Nat):J0d n (k+1)=J0d n k++[UInt8.ofNat (J6V n k).toNat]:=by simp[J0d,toStr,List.range_succ]
theorem JP(n:Int)(k:Nat):(J0d n k).length=k:=by simp[J0d,toStr]
theorem JS2(x y:Bool):cM [.b] [.b x] [.b y]=some (decide (x=y)):=by
 grind [cM,xF]
theorem JRT(k:IntKind)(x y:Int):cM [.i k] [.i k x] [.i k y]=some (decide (x=y)):=by
 grind [cM,xF]
theorem JRR(x y:List UInt8):cM [.s] [.s x] [.s y]=some (decide (x=y)):=by
 grind [cM,xF]
theorem Ob{p q:Prop} [Decidable p] [Decidable q]: ∀{e g:List KD} {a1 a2 b1 b2:List PV},cM e a1 b1=some (decide p)->cM g a2 b2=some (decide q)->cM (e++g) (cat a1 a2) (cat b1 b2)=some (decide (p/\q)):=by
 have h: ∀(e g:List KD) (a1 a2 b1 b2:List PV) (r s:Bool),cM e a1 b1=some r->cM g a2 b2=some s->cM (e++g) (a1++a2) (b1++b2)=some (r&&s):=by
  intro e
  induction e with
  |nil=>
   grind [cM]
  |cons k ks ih=>
   intro g a1 a2 b1 b2 r s h1 h2;cases a1 with
   |nil=>grind [cM]
   |cons a a1=>
    cases b1 with
    |nil=>grind [cM]
    |cons b b1=>
     simp only[cM]at h1;split at h1;rename_i u c j hc;injection h1 with h1;subst h1;simp only[AY,cM,j,ih _ _ _ _ _ _ _ hc h2,Bool.and_assoc];cases h1
 intro e g a1 a2 b1 b2 h1 h2;rw[h _ _ _ _ _ _ _ _ h1 h2,Bool.decide_and]
theorem JQp{α:Type} [DecidableEq α]{n:Nat}{ks:List KD}{r:α->List PV}(h: ∀x y,cM ks (r x) (r y)=some (decide (x=y)))(v w:Vector α n):
  cM (List.replicate n ks).flatten (qJ r v) (qJ r w)=some (decide (v=w)):=by
 have e: ∀(l l':List α),l.length=l'.length->cM (List.replicate l.length ks).flatten (l.map r).flatten (l'.map r).flatten=some (decide (l=l')):=by
  intro l
  induction l with
  |nil=>grind [cM]
  |cons a l ih=>
   intro l' h1;cases l' with
   |nil=>simp at h1
   |cons b l'=>
    have h2:=Ob (h a b) (ih l' (by simpa using h1));grind [decide]
 have g:=e v.toList w.toList (by simp);rw[show v.toList.length=n by simp]at g;rw[show decide (v=w)=decide (v.toList=w.toList) by simp[Vector.toList_inj]];exact g
end Go.Am
end
section
namespace Go.Am
def J1(k:IntKind)(a c:Int):Int:=k.wrap (a+c)
def Jn(k:IntKind)(a c:Int):Int:=k.wrap (a-c)
def bT(k:IntKind)(a c:Int):Int:=k.wrap (a*c)
def JSJ(k:IntKind)(n:Int):Int:=k.wrap (0-n)
def aW(k:IntKind)(n:Int):Int:=k.wrap n
def aM(a c:Int):Bool:=decide (a=c)
def aO(a c:Int):Bool:= !decide (a=c)
def aL(a c:Int):Bool:=decide (a<c)
def bA(a c:Int):Bool:=decide (a<=c)
def aR(a c:Int):Bool:=decide (a>c)
def aS(a c:Int):Bool:=decide (a>=c)
def eqS(a c:List UInt8):Bool:=decide (a=c)
def neS(a c:List UInt8):Bool:= !decide (a=c)
def ltS(a c:List UInt8):Bool:=Op.bytesLess a c
def leS(a c:List UInt8):Bool:=Op.bytesLess a c||decide (a=c)
def gtS(a c:List UInt8):Bool:= !(Op.bytesLess a c||decide (a=c))
def geS(a c:List UInt8):Bool:= !Op.bytesLess a c
def eqB(a c:Bool):Bool:=decide (a=c)
def Jk(x:Bool):Bool:= !x
def J0{α:Type}(l:List α):Int:=l.length
def JSm{α:Type}(c:Bool)(x y:α):α:=if c=true then x else y
def bL{α:Type}(l:List α)(i:Nat):Option α:=l[i]?
def bH{α:Type}(l:List α)(i:Nat)(x:α):List α:=l.set i x
def vat{α:Type}{n:Nat}(l:Vector α n)(i:Nat):Option α:=l[i]?
def bM{α:Type}{n:Nat}(l:Vector α n)(i:Nat)(x:α):Vector α n:=l.setIfInBounds i x
inductive Ty where
 |b
 |i (k:IntKind)
 |s
 |l (t:Ty)
 |pr (a c:Ty)
 |ar (n:Nat) (t:Ty)
 |u
 |f
 deriving DecidableEq
@[reducible] def Ty.D:Ty->Type
 | .b=>Bool
 | .i _=>Int
 | .s=>List UInt8
 | .l t=>List t.D
 | .pr a c=>a.D×c.D
 | .ar n t=>Vector t.D n
 | .u=>Unit
 | .f=>Unit
def Ty.sz:Ty->Nat| .b=>1| .i _=>1| .s=>1| .l _=>1| .pr a c=>a.sz+c.sz| .ar n t=>n*t.sz| .u=>0| .f=>1
def cel:(t:Ty)->t.D->List PV| .b,x=>[.b x]| .i k,x=>[.i k x]| .s,x=>[.s x]| .l t,x=>[.sl t.sz (x.map (cel t))]| .pr a c,x=>cel a x.1++cel c x.2| .ar _ t,x=>qJ (cel t) x| .u,_=>[]| .f,_=>[.nf]
theorem eK: ∀(t:Ty) (x:t.D),(cel t x).length=t.sz| .b,_=>rfl| .i _,_=>rfl| .s,_=>rfl| .l _,_=>rfl| .pr a c,x=>by simp only[cel,eP,eK a,eK c,Ty.sz]| .ar n t,x=>by simp only[cel,Ty.sz];exact JQ8 (eK t) x| .u,_=>rfl| .f,_=>rfl
def Ty.eqd:(t:Ty)->DecidableEq t.D| .b=>inferInstanceAs (DecidableEq Bool)| .i _=>inferInstanceAs (DecidableEq Int)| .s=>inferInstanceAs (DecidableEq (List UInt8))| .l t=>have:=t.eqd;inferInstanceAs (DecidableEq (List t.D))| .pr a c=>have:=a.eqd;have:=c.eqd;inferInstanceAs (DecidableEq (a.D×c.D))| .ar n t=>have:=t.eqd;inferInstanceAs (DecidableEq (Vector t.D n))| .u=>inferInstanceAs (DecidableEq Unit)| .f=>inferInstanceAs (DecidableEq Unit)
def eqT(t:Ty)(x y:t.D):Bool:=have:=t.eqd;decide (x=y)
theorem dR{t:Ty}{x y:t.D}:eqT t x y=true↔x=y:=by simp[eqT]
def Ty.zero:(t:Ty)->t.D| .b=>false| .i _=>(0:Int)| .s=>[]| .l _=>[]| .pr a c=>(a.zero,c.zero)| .ar n t=>Vector.replicate n t.zero| .u=>()| .f=>()
def Ty.ks:Ty->Option (List KD)
 | .b=>some [.b]
 | .i k=>some [.i k]
 | .s=>some [.s]
 | .l _=>none
 | .pr a c=>match a.ks,c.ks with|some x,some y=>some (x++y)|_,_=>none
 | .ar n t=>match t.ks with|some x=>some (List.replicate n x).flatten|none=>none
 | .u=>some []
 | .f=>none
theorem UQ: ∀(t:Ty) {ks:List KD} (x y:t.D),t.ks=some ks->cM ks (cel t x) (cel t y)=some (eqT t x y)
 | .b,ks,x,y,h=>by injection h with h;subst h;exact JS2 x y
 | .i k,ks,x,y,h=>by injection h with h;subst h;exact JRT k x y
 | .s,ks,x,y,h=>by injection h with h;subst h;exact JRR x y
 | .l _,_,_,_,h=>by cases h
 | .pr a c,ks,x,y,h=>by
  simp only[Ty.ks]at h;split at h;rename_i p q hp e;injection h with h;subst h;have h1:=UQ a x.1 y.1 hp;have h2:=UQ c x.2 y.2 e;unfold eqT at h1 h2;have g:(have:=a.eqd;decide (x.1=y.1))= @decide _ (a.eqd x.1 y.1):=rfl;have:= @Ob _ _ (a.eqd x.1 y.1) (c.eqd x.2 y.2) _ _ _ _ _ _ h1 h2;simp only[cel];refine this.trans (congrArg some ?_);grind [eqT];cases h
 | .ar n t,ks,x,y,h=>by
  simp only[Ty.ks]at h;split at h;rename_i p hp;injection h with h;subst h;have:= @JQp t.D t.eqd n p (cel t) (λx y=>by have:=UQ t x y hp;exact this) x y;grind [cel,eqT];cases h
 | .u,ks,x,y,h=>by injection h with h;subst h;rfl
 | .f,_,_,_,h=>by cases h
inductive Sp where
 |f (off:Nat)
 |a (i esz:Nat)
 deriving DecidableEq
def spo:List Sp->Nat|[]=>0| .f o::r=>o+spo r| .a i e::r=>i*e+spo r
def spf:Nat->List Sp->Nat×List Sp|o,.f k::r=>spf (o+k) r|o,r=>(o,r)
theorem SS: ∀(o:Nat) (p:List Sp),(spf o p).1+spo (spf o p).2=o+spo p|o,[]=>rfl|o,.f k::r=>by simp only[spf,SS,spo];omega|o,.a i e::r=>rfl
section
variable {R:Type}
def prt:(t:Ty)->t.D->(off:Nat)->List Sp->(w:Ty)->(w.D->Option R)->Option R
 |t,x,off,p,w,k=>
  if h:t=w/\off=0/\p=[]then k (h.1▸x)
  else match t,x with
   | .pr a c,x=>if off+(if p=[]then w.sz else 1)<=a.sz then prt a x.1 off p w k
    else if a.sz<=off then prt c x.2 (off-a.sz) p w k
    else none
   | .ar _ t,x=>if p=[]then(vat x (off/t.sz)).bind λy=>prt t y (off%t.sz) p w k
    else match off,p with|0,.a i e::r=>if e=t.sz then(vat x i).bind λy=>prt t y (spf 0 r).1 (spf 0 r).2 w k else none|_,_=>none
   |_,_=>none
def pst:(t:Ty)->t.D->(off:Nat)->List Sp->(w:Ty)->w.D->(t.D->Option R)->Option R
 |t,x,off,p,w,v,k=>
  if h:t=w/\off=0/\p=[]then k (h.1.symm▸v)
  else match t,x,k with
   | .pr a c,x,k=>if off+(if p=[]then w.sz else 1)<=a.sz then pst a x.1 off p w v λy=>k (y,x.2)
    else if a.sz<=off then pst c x.2 (off-a.sz) p w v λy=>k (x.1,y)
    else none
   | .ar _ t,x,k=>if p=[]then(vat x (off/t.sz)).bind λy=>pst t y (off%t.sz) p w v λy=>k (bM x (off/t.sz) y)
    else match off,p with|0,.a i e::r=>if e=t.sz then(vat x i).bind λy=>pst t y (spf 0 r).1 (spf 0 r).2 w v λy=>k (bM x i y)else none|_,_=>none
   |_,_,_=>none
end
theorem JLi{α:Type}{a b v:List α}{off n:Nat}(h:sub a off n=some v):sub (a++b) off n=some v:=by
 grind [CQ]
theorem JJy{α:Type}{a b v:List α}{off n:Nat}(h0:a.length<=off)(h:sub b (off-a.length) n=some v):sub (a++b) off n=some v:=by
 grind [CQ,List.drop_append,List.drop_of_length_le]
theorem JMg{α:Type}{a b v a':List α}{off:Nat}(h:spl a off v=some a'):spl (a++b) off v=some (a'++b):=by
 grind [IL]
theorem JIv{α:Type}{a b v e:List α}{off:Nat}(h0:a.length<=off)(h:spl b (off-a.length) v=some e):spl (a++b) off v=some (a++e):=by
 rw[IL]at h⊢;split at h;injection h with h;rw[if_pos (by simp;omega),<-h,List.take_append,List.take_of_length_le h0,List.drop_append,List.drop_of_length_le (by omega)];simp;omega;cases h
theorem L1{α:Type}{n i:Nat}{x:Vector α n}{y:α}(h:x[i]?=some y):i<n:=by
 grind
theorem yX{R:Type}{t w:Ty}{x:t.D}{off:Nat}{p:List Sp}{k:w.D->Option R}{r:R}(h0:t=w/\off=0/\p=[])(h:k (h0.1▸x)=some r):
  ∃y,sub (cel t x) (off+spo p) w.sz=some (cel w y)/\k y=some r:=by
 obtain⟨rfl,rfl,rfl⟩:=h0;grind [spo,ib,eK]
theorem yY{R:Type}{t w:Ty}{x:t.D}{off:Nat}{p:List Sp}{v:w.D}{k:t.D->Option R}{r:R}(h0:t=w/\off=0/\p=[])(h:k (h0.1.symm▸v)=some r):
  ∃y,spl (cel t x) (off+spo p) (cel w v)=some (cel t y)/\k y=some r:=by
 obtain⟨rfl,rfl,rfl⟩:=h0;grind [spo,Ns,eK]
theorem yW{R:Type}: ∀{t:Ty} {x:t.D} {off:Nat} {p:List Sp} {w:Ty} {k:w.D->Option R} {r:R},prt t x off p w k=some r->
  ∃y,sub (cel t x) (off+spo p) w.sz=some (cel w y)/\k y=some r
 | .pr a c,x,off,p,w,k,r,h=>by
  unfold prt at h;by_cases g:Ty.pr a c=w/\off=0/\p=[];rw[dif_pos g]at h;exact yX g h;rw[dif_neg g]at h;dsimp only at h;by_cases h1:off+(if p=[]then w.sz else 1)<=a.sz;rw[if_pos h1]at h;obtain⟨y,v,o⟩:=yW h;exact⟨y,JLi v,o⟩;rw[if_neg h1]at h;by_cases h2:a.sz<=off;rw[if_pos h2]at h;obtain⟨y,v,o⟩:=yW h;refine⟨y,JJy (by grind [eK]) ?_,o⟩;grind [eK];simp_all
 | .ar n t,x,off,p,w,k,r,h=>by
  unfold prt at h;by_cases g:Ty.ar n t=w/\off=0/\p=[];rw[dif_pos g]at h;exact yX g h;rw[dif_neg g]at h;dsimp only at h;by_cases hp:p=[];rw[if_pos hp]at h;obtain⟨z,j,h⟩:=bQ.1 h;obtain⟨y,h1,h2⟩:=yW h;refine⟨y,?_,h2⟩;have:=Od (NY (eK t) j) h1;grind [cel,Nat.div_add_mod];rw[if_neg hp]at h;split at h;rename_i _ i e q _;split at h;rename_i A;obtain⟨z,j,h⟩:=bQ.1 h;obtain⟨y,h1,h2⟩:=yW h;refine⟨y,?_,h2⟩;have:=Od (NY (eK t) j) h1;grind [cel,SS,spo];cases h;cases h
 | .b,x,off,p,w,k,r,h=>by
  unfold prt at h;split at h
  next g=>exact yX g h
  next=>cases h
 | .i _,x,off,p,w,k,r,h=>by
  unfold prt at h;split at h
  next g=>exact yX g h
  next=>cases h
 | .s,x,off,p,w,k,r,h=>by
  unfold prt at h;split at h
  next g=>exact yX g h
  next=>cases h
 | .l _,x,off,p,w,k,r,h=>by
  unfold prt at h;split at h
  next g=>exact yX g h
  next=>cases h
 | .u,x,off,p,w,k,r,h=>by
  unfold prt at h;split at h
  next g=>exact yX g h
  next=>cases h
 | .f,x,off,p,w,k,r,h=>by
  unfold prt at h;split at h
  next g=>exact yX g h
  next=>cases h
theorem CT{R:Type}: ∀{t:Ty} {x:t.D} {off:Nat} {p:List Sp} {w:Ty} {v:w.D} {k:t.D->Option R} {r:R},pst t x off p w v k=some r->
  ∃y,spl (cel t x) (off+spo p) (cel w v)=some (cel t y)/\k y=some r
 | .pr a c,x,off,p,w,v,k,r,h=>by
  unfold pst at h;by_cases g:Ty.pr a c=w/\off=0/\p=[];rw[dif_pos g]at h;exact yY g h;rw[dif_neg g]at h;dsimp only at h;by_cases h1:off+(if p=[]then w.sz else 1)<=a.sz;rw[if_pos h1]at h;obtain⟨y,A,o⟩:=CT h;exact⟨(y,x.2),JMg A,o⟩;rw[if_neg h1]at h;by_cases h2:a.sz<=off;rw[if_pos h2]at h;obtain⟨y,A,o⟩:=CT h;refine⟨(x.1,y),JIv (by grind [eK]) ?_,o⟩;grind [eK];simp_all
 | .ar n t,x,off,p,w,v,k,r,h=>by
  unfold pst at h;by_cases g:Ty.ar n t=w/\off=0/\p=[];rw[dif_pos g]at h;exact yY g h;rw[dif_neg g]at h;dsimp only at h;by_cases hp:p=[];rw[if_pos hp]at h;obtain⟨z,j,h⟩:=bQ.1 h;obtain⟨y,h1,h2⟩:=CT h;refine⟨_,?_,h2⟩;have:=Np (NY (eK t) j) h1 (K3 (eK t) (L1 j) y);subst hp;simp only[spo,xN]at this⊢;rw[GP,Nat.div_add_mod]at this;exact this;rw[if_neg hp]at h;split at h;rename_i _ i e q _;split at h;rename_i B;obtain⟨z,j,h⟩:=bQ.1 h;obtain⟨y,h1,h2⟩:=CT h;refine⟨_,?_,h2⟩;have:=Np (NY (eK t) j) h1 (K3 (eK t) (L1 j) y);have C:=SS 0 q;simp only[spo,B];rw[show i*t.sz+((spf 0 q).1+spo (spf 0 q).2)=0+(i*t.sz+spo q) by omega]at this;exact this;cases h;cases h
 | .b,x,off,p,w,v,k,r,h=>by
  unfold pst at h;split at h
  next g=>exact yY g h
  next=>cases h
 | .i _,x,off,p,w,v,k,r,h=>by
  unfold pst at h;split at h
  next g=>exact yY g h
  next=>cases h
 | .s,x,off,p,w,v,k,r,h=>by
  unfold pst at h;split at h
  next g=>exact yY g h
  next=>cases h
 | .l _,x,off,p,w,v,k,r,h=>by
  unfold pst at h;split at h
  next g=>exact yY g h
  next=>cases h
 | .u,x,off,p,w,v,k,r,h=>by
  unfold pst at h;split at h
  next g=>exact yY g h
  next=>cases h
 | .f,x,off,p,w,v,k,r,h=>by
  unfold pst at h;split at h
  next g=>exact yY g h
  next=>cases h
end Go.Am
end
section
namespace Go.Am
inductive TC where|d (t:Ty) (x:t.D)|sc (t:Ty) (rows:List t.D)|np|nf|un|ptr (b:Nat) (p:List Sp)|cp (t:Ty) (x:t.D) (p:List Sp)|slr (b:Nat)|slo (b n:Nat)|ep (b i:Nat) (p:List Sp)|epo (b e i:Nat) (p:List Sp)|pre (b k:Nat)|pro (b n k:Nat)|suf (b i:Nat)|suo (b i n:Nat)|fn (f:FuncId)
inductive TA where|c (x:TC)|dt (t:Ty) (x:t.D)|m (t:Ty) (cs:List TC)|fn (f:FuncId) (first caps:List TC)
inductive TV where|a (x:TA)|tup (vs:List TA)
inductive TB where|dead|box (t:Ty) (x:t.D)|mbox (t:Ty) (cs:List TC)|arr (w:Bool) (t:Ty) (rows:List t.D)
structure TSt where
 env:List (Nat×TV)
 sto:List TB
def hdP:List PV->PV|[c]=>c|_=>.np
def lnB:TB->Nat| .arr _ _ rows=>rows.length|_=>0
def lnO:Option TB->Nat|some x=>lnB x|none=>0
def lns(sto:List TB)(b:Nat):Nat:=lnO sto[b]?
section
variable (L:Nat->Nat)
def bG:TC->AV| .d t x=>.p (hdP (cel t x))| .sc t rows=>.p (.slc t.sz (rows.map (cel t)))| .np=>.p .np| .nf=>.p .nf| .un=>.unk| .ptr b p=>.ptr b (spo p)| .cp t x p=>.cp (cel t x) (spo p)| .slr b=>.slr b 0 (L b)| .slo b n=>.slr b 0 n| .ep b i p=>.ep b (L b) i (spo p)| .epo b e i p=>.ep b e i (spo p)| .pre b k=>.pre b (L b) k| .pro b n k=>.pre b n k| .suf b i=>.slr b (min i (L b)) (L b-i)| .suo b i n=>.slr b i n| .fn f=>.fn f [] []
def bX:TA->AV| .c x=>bG L x| .dt t x=>.data (cel t x)| .m _ cs=>.agg (cs.map (bG L))| .fn f a c=>.fn f (a.map (bG L)) (c.map (bG L))
def aX:TV->AV| .a x=>bX L x| .tup vs=>.tup (vs.map (bX L))
def bF:TB->Blk| .dead=>.dead| .box t x=>.box ((cel t x).map .p)| .mbox _ cs=>.box (cs.map (bG L))| .arr w t rows=>.arr w t.sz (rows.map (cel t))
end
def fV(L:Nat->Nat)(env:List (Nat×TV)):List (Nat×AV):=env.map λx=>(x.1,aX L x.2)
def JC(s:TSt):St:=⟨fV (lns s.sto) s.env,s.sto.map (bF (lns s.sto))⟩
section
variable (L:Nat->Nat)
theorem CF(t x):bF L (.box t x)=.box ((cel t x).map .p):=rfl
theorem OD(t cs):bF L (.mbox t cs)=.box (cs.map (bG L)):=rfl
theorem va(w t rows):bF L (.arr w t rows)=.arr w t.sz (rows.map (cel t)):=rfl
theorem lK(b p):aX L (.a (.c (.ptr b p)))=.ptr b (spo p):=rfl
theorem nB(t x p):aX L (.a (.c (.cp t x p)))=.cp (cel t x) (spo p):=rfl
theorem gK(b):aX L (.a (.c (.slr b)))=.slr b 0 (L b):=rfl
theorem nH(b i p):aX L (.a (.c (.ep b i p)))=.ep b (L b) i (spo p):=rfl
theorem e_i(k x):aX L (.a (.c (.d (.i k) x)))=.p (.i k x):=rfl
theorem e_b(x):aX L (.a (.c (.d .b x)))=.p (.b x):=rfl
theorem e_s(x):aX L (.a (.c (.d .s x)))=.p (.s x):=rfl
theorem e_l(t x):aX L (.a (.c (.d (.l t) x)))=.p (.sl t.sz (x.map (cel t))):=rfl
theorem Ij(f):aX L (.a (.c (.fn f)))=.fn f [] []:=rfl
theorem qb(t x):aX L (.a (.dt t x))=.data (cel t x):=rfl
theorem rl(f a c):aX L (.a (.fn f a c))=.fn f (a.map (bG L)) (c.map (bG L)):=rfl
theorem e_m(t cs):aX L (.a (.m t cs))=.agg (cs.map (bG L)):=rfl
end
theorem LI{t:Ty}(h:t.sz=1)(x:t.D):cel t x=[hdP (cel t x)]:=by
 have:=eK t x;rw[h]at this
 match hc:cel t x,this with
 |[c],_=>rfl
def kC(b n:Nat):TC->TC| .slr c=>if c=b then .slo b n else .slr c| .ep c i p=>if c=b then .epo b n i p else .ep c i p| .pre c k=>if c=b then .pro b n k else .pre c k| .suf c i=>if c=b then .suo b (min i n) (n-i)else .suf c i|x=>x
def kA(b n:Nat):TA->TA| .c x=>.c (kC b n x)| .dt t x=>.dt t x| .m t cs=>.m t (cs.map (kC b n))| .fn f a c=>.fn f (a.map (kC b n)) (c.map (kC b n))
def kV(b n:Nat):TV->TV| .a x=>.a (kA b n x)| .tup vs=>.tup (vs.map (kA b n))
def kB(b n:Nat):TB->TB| .mbox t cs=>.mbox t (cs.map (kC b n))|x=>x
def wS(b:Nat)(x:TB)(s:TSt):TSt:=⟨s.env,s.sto.set b x⟩
def wN(b:Nat)(x:TB)(s:TSt):TSt:=⟨s.env.map λy=>(y.1,kV b (lns s.sto b) y.2),(s.sto.map (kB b (lns s.sto b))).set b x⟩
def bK(d:Option Nat)(v:TV)(s:TSt):TSt:=
 match d with
 |some d=>⟨(d,v)::s.env,s.sto⟩
 |none=>s
section
variable {L L':Nat->Nat} {b:Nat}
theorem k_C(h: ∀c,c≠b->L' c=L c)(x:TC):bG L' (kC b (L b) x)=bG L x:=by cases x<;>grind [kC,bG]
theorem He(h: ∀c,c≠b->L' c=L c)(xs:List TC):(xs.map (kC b (L b))).map (bG L')=xs.map (bG L):=by simp_all [k_C]
theorem k_A(h: ∀c,c≠b->L' c=L c)(x:TA):bX L' (kA b (L b) x)=bX L x:=by cases x<;>simp only[kA,bX,k_C h,He h]
theorem k_V(h: ∀c,c≠b->L' c=L c)(x:TV):aX L' (kV b (L b) x)=aX L x:=by cases x<;>simp only[kV,aX,k_A h,GC,Function.comp_def]
theorem k_B(h: ∀c,c≠b->L' c=L c)(x:TB):bF L' (kB b (L b) x)=bF L x:=by cases x<;>simp only[kB,bF,He h]
theorem JQN(b n:Nat)(x:TB):lnB (kB b n x)=lnB x:=by cases x<;>rfl
theorem JPl(sto:List TB)(b n c:Nat):lns (sto.map (kB b n)) c=lns sto c:=by
 unfold lns;rw[iB];cases sto[c]? with
 |none=>rfl
 |some x=>exact JQN b n x
theorem L6(sto:List TB)(b:Nat)(x:TB)(c:Nat)(h:c≠b):lns (sto.set b x) c=lns sto c:=by
 grind [lns]
theorem uu{sto:List TB}{b:Nat}(h:b<sto.length)(x:TB):lns (sto.set b x) b=lnB x:=by unfold lns;rw[QN h];rfl
theorem SC(b:Nat)(x:TB)(s:TSt):JC (wN b x s)=⟨(JC s).env,(JC s).sto.set b (bF (lns (wN b x s).sto) x)⟩:=by
 have h: ∀c,c≠b->lns (wN b x s).sto c=lns s.sto c:=λc hc=>by
  grind [wN,L6,JPl]
 unfold JC
 congr 1
 show fV _ (s.env.map λy=>(y.1,kV b (lns s.sto b) y.2))=fV _ s.env;simp_all [fV,k_V];show((s.sto.map (kB b (lns s.sto b))).set b x).map _=_;grind [List.map_set,List.map_congr_left,k_B]
theorem IB{b:Nat}{x:TB}{s:TSt}(h:lnB x=lns s.sto b):lns (wS b x s).sto=lns s.sto:=by
 grind [wS,uu,List.set_eq_of_length_le,L6]
theorem BO{b:Nat}{x:TB}{s:TSt}(h:lnB x=lns s.sto b):JC (wS b x s)=⟨(JC s).env,(JC s).sto.set b (bF (lns s.sto) x)⟩:=by
 grind [JC,IB,wS,List.map_set]
theorem rE{s s1:TSt}{ws:List (Nat×Blk)}(h:JC s1=⟨(JC s).env,upd ws (JC s).sto⟩)(d:Option Nat)(v:TV):put d ⟨aX (lns s1.sto) v,ws⟩ (JC s)=JC (bK d v s1):=by cases d<;>simp_all [bK,JC,fV]
end
theorem OH{s:TSt}(d:Option Nat)(v:TV):put d ⟨aX (lns s.sto) v,[]⟩ (JC s)=JC (bK d v s):=rE rfl d v
def tlk(n:Nat):List (Nat×TV)->Option TV|[]=>none|(m,v)::r=>if n=m then some v else tlk n r
theorem CJ(L:Nat->Nat)(n:Nat): ∀env:List (Nat×TV),lk n (fV L env)=(tlk n env).map (aX L)
 |[]=>rfl
 |(m,v)::r=>by
  simp only[fV,cN,lk,tlk];split;rfl;exact CJ L n r
theorem eH(s:TSt)(b:Nat):(JC s).sto[b]?=(s.sto[b]?).map (bF (lns s.sto)):=by simp[JC]
theorem mJ{sto:List TB}{b:Nat}{w:Bool}{t:Ty}{rows:List t.D}(h:sto[b]?=some (.arr w t rows)):lns sto b=rows.length:=by unfold lns;rw[h];rfl
inductive TO where|t (n:Nat)|c (x:TV)
def erO:TO->Opd| .t n=>.t n| .c x=>.c (aX (λ_=>0) x)
def Iz:TC->Bool| .d _ _| .sc _ _| .np| .nf| .un| .fn _=>true|_=>false
def SW:TA->Bool| .c x=>Iz x| .dt _ _=>true| .m _ _=>false| .fn _ a c=>a.isEmpty&&c.isEmpty
def HJ:TV->Bool| .a x=>SW x| .tup vs=>vs.isEmpty
theorem JLm{L L':Nat->Nat}{v:TV}(h:HJ v=true):aX L v=aX L' v:=by
 cases v with
 |a x=>
  cases x with
  |c x=>cases x<;>first|rfl|grind [HJ,SW,Iz]
  |dt t x=>rfl
  |m t cs=>grind [HJ,SW]
  |fn f a c=>simp[HJ,SW]at h;obtain⟨rfl,rfl⟩:=h;rfl
 |tup vs=>simp[HJ]at h;subst h;rfl
def tev:TO->TSt->Option TV| .t n,s=>tlk n s.env| .c x,_=>if HJ x=true then some x else none
theorem cE{x:TO}{s:TSt}{v:TV}(h:tev x s=some v):(ev (erO x)).run (JC s)=some (aX (lns s.sto) v):=by
 cases x with
 |t n=>simp only[erO,ev,zD];show(lk n (fV (lns s.sto) s.env)).bind _=_;rw[CJ,show tlk n s.env=some v from h];rfl
 |c x=>
  grind [tev,erO,ev,bP,JLm]
end Go.Am
end
section
namespace Go.Am
@[reducible] def vi(k:IntKind)(n:Int):TV:=.a (.c (.d (.i k) n))
@[reducible] def vb(x:Bool):TV:=.a (.c (.d .b x))
@[reducible] def vs(l:List UInt8):TV:=.a (.c (.d .s l))
@[reducible] def vl(t:Ty)(l:List t.D):TV:=.a (.c (.d (.l t) l))
def uv:TV:=.tup []
def mkv(agg:Bool)(t:Ty)(x:t.D):TV:=if agg=true then .a (.dt t x)else .a (.c (.d t x))
def Ok{R:Type}(m:RM Eff)(d:Option Nat)(s:TSt)(k:TSt->Option R)(r:R):Prop:= ∃e s',m.run (JC s)=some e/\put d e (JC s)=JC s'/\k s'=some r
def asm:(t:Ty)->List TC->Option t.D
 | .pr a c,l=>match asm a (l.take a.sz),asm c (l.drop a.sz)with|some x,some y=>some (x,y)|_,_=>none
 | .ar _ _,_=>none
 | .u,l=>if l.isEmpty=true then some ()else none
 |t,l=>match l with|[.d t' x]=>if h:t'=t then some (h▸x)else none|_=>none
def BE:(t:Ty)->t.D->Option (List TC)
 | .pr a c,x=>match BE a x.1,BE c x.2 with|some l,some q=>some (l++q)|_,_=>none
 | .ar _ _,_=>none
 | .u,_=>some []
 |t,x=>some [.d t x]
theorem NT(L:Nat->Nat): ∀{t:Ty} {l:List TC} {x:t.D},asm t l=some x->l.map (bG L)=(cel t x).map .p
 | .pr a c,l,x,h=>by
  simp only[asm]at h;split at h;rename_i y z g j;injection h with h;subst h;have h1:=NT L g;have h2:=NT L j;grind [cel,List.take_append_drop];cases h
 | .ar _ _,_,_,h=>by cases h
 | .u,l,x,h=>by
  simp only[asm]at h;split at h;rename_i e;rw[List.isEmpty_iff.1 e];rfl;cases h
 | .b,l,x,h=>by
  simp only[asm]at h;split at h;split at h;rename_i e;subst e;injection h with h;subst h;rfl;cases h;cases h
 | .i _,l,x,h=>by
  simp only[asm]at h;split at h;split at h;rename_i e;subst e;injection h with h;subst h;rfl;cases h;cases h
 | .s,l,x,h=>by
  simp only[asm]at h;split at h;split at h;rename_i e;subst e;injection h with h;subst h;rfl;cases h;cases h
 | .l _,l,x,h=>by
  simp only[asm]at h;split at h;split at h;rename_i e;subst e;injection h with h;subst h;rfl;cases h;cases h
 | .f,l,x,h=>by
  simp only[asm]at h;split at h;split at h;rename_i e;subst e;injection h with h;subst h;rfl;cases h;cases h
theorem OC(L:Nat->Nat): ∀{t:Ty} {x:t.D} {l:List TC},BE t x=some l->l.map (bG L)=(cel t x).map .p
 | .pr a c,x,l,h=>by
  simp only[BE]at h;split at h;rename_i y z e g;injection h with h;subst h;have h1:=OC L e;have h2:=OC L g;grind [cel];cases h
 | .ar _ _,_,_,h=>by cases h
 | .u,x,l,h=>by injection h with h;subst h;rfl
 | .b,x,l,h=>by injection h with h;subst h;rfl
 | .i _,x,l,h=>by injection h with h;subst h;rfl
 | .s,x,l,h=>by injection h with h;subst h;rfl
 | .l _,x,l,h=>by injection h with h;subst h;rfl
 | .f,x,l,h=>by injection h with h;subst h;rfl
def zcs:Ty->List TC| .pr a c=>zcs a++zcs c| .ar n t=>(List.replicate n (zcs t)).flatten| .u=>[]|t=>[.d t t.zero]
theorem HZ(L:Nat->Nat): ∀t:Ty,(zcs t).map (bG L)=(cel t t.zero).map .p| .pr a c=>by simp only[zcs,MA,HZ L a,HZ L c,Ty.zero,cel]| .ar n t=>by have ih:=HZ L t;simp_all [cel,qJ,Ty.zero,zcs]| .u=>rfl| .b=>rfl| .i _=>rfl| .s=>rfl| .l _=>rfl| .f=>rfl
def mkb(t:Ty)(cs:List TC):TB:=match asm t cs with|some x=>.box t x|none=>.mbox t cs
theorem UR(L:Nat->Nat)(t:Ty)(cs:List TC):bF L (mkb t cs)=.box (cs.map (bG L)):=by
 unfold mkb;split;grind [CF,NT];rfl
theorem VC(t:Ty)(cs:List TC):lnB (mkb t cs)=0:=by unfold mkb;split<;>rfl
def cj:TC->Bool| .ptr _ _| .cp _ _ _| .slr _| .slo _ _| .ep _ _ _| .epo _ _ _ _| .un| .fn _| .pre _ _| .pro _ _ _| .suf _ _| .suo _ _ _=>true|_=>false
theorem gw(L:Nat->Nat): ∀{cs:List TC},cs.any cj=true->unp (cs.map (bG L))=none
 |[],h=>by simp at h
 |x::r,h=>by
  simp only[List.any_cons,AT]at h;rcases h with h|h;cases x<;>simp[cj]at h<;>rfl
  have:=gw L h;cases x<;>simp[bG,unp,this]
def mka(agg:Bool)(t:Ty)(cs:List TC):Option TV:=
 if agg=true then
  match asm t cs with
  |some x=>some (.a (.dt t x))
  |none=>if cs.any cj=true then some (.a (.m t cs))else none
 else match cs with|[c]=>some (.a (.c c))|_=>none
theorem HX(L:Nat->Nat){agg:Bool}{t:Ty}{cs:List TC}{v:TV}(h:mka agg t cs=some v):lQ agg (cs.map (bG L))=some (aX L v):=by
 unfold mka at h;split at h;rename_i e;subst e;split at h;rename_i x j;injection h with h;subst h;rw[NT L j,Ah];rfl;split at h;rename_i g;injection h with h;subst h;simp only[lQ,gw L g,if_true];rfl;cases h;rename_i e;split at h;injection h with h;subst h;have:agg=false:=by simpa using e
 subst this;rfl;cases h
def tcs:TV->Option (List TC)| .a (.c .un)=>none| .a (.c (.pre _ _))=>none| .a (.c (.pro _ _ _))=>none| .a (.c x)=>some [x]| .a (.dt t x)=>BE t x| .a (.m _ cs)=>some cs| .a (.fn f [] [])=>some [.fn f]|_=>none
theorem NW(L:Nat->Nat){v:TV}{cs:List TC}(h:tcs v=some cs):cellsOf (aX L v)=some (cs.map (bG L)):=by
 cases v with
 |a x=>
  cases x with
  |c x=>cases x<;>cases h<;>rfl
  |dt t x=>simp only[aX,bX,cellsOf];rw[OC L h]
  |m t cs=>injection h with h;subst h;rfl
  |fn f a c=>
   cases a with
   |nil=>cases c with
    |nil=>injection h with h;subst h;rfl
    |cons y c=>cases h
   |cons y a=>cases h
 |tup vs=>cases h
def tdv(t:Ty):TV->Option t.D| .a (.c (.d t' x))=>if h:t'=t then some (h▸x)else none| .a (.dt t' x)=>if h:t'=t then some (h▸x)else none|_=>none
def agv:TV->Bool| .a (.dt _ _)=>true|_=>false
theorem JQQ(L:Nat->Nat){t:Ty}{v:TV}{x:t.D}(h:tdv t v=some x):aX L v=if agv v=true then .data (cel t x)else .p (hdP (cel t x)):=by
 unfold tdv at h;split at h;split at h;rename_i e;subst e;injection h with h;subst h;rfl;cases h;split at h;rename_i e;subst e;injection h with h;subst h;rfl;cases h;cases h
def uP:List Sp->Option Nat
 |[]=>some 0
 | .f o::r=>match uP r with|some n=>some (o+n)|none=>none
 | .a _ _::_=>none
theorem HT: ∀{p:List Sp} {n:Nat},uP p=some n->spo p=n
 |[],n,h=>by injection h with h
 | .f o::r,n,h=>by
  simp only[uP]at h;split at h;rename_i m e;injection h with h;simp only[spo,HT e,h];cases h
 | .a _ _::_,_,h=>by cases h
section
variable {R:Type}
def uc(agg:Bool)(t:Ty)(v:TV)(d:Option Nat)(s:TSt)(k:TSt->Option R):Option R:=
 if agg=true\/t.sz=1 then
  match v with
  | .a (.c (.cp e x p))=>prt e x (spf 0 p).1 (spf 0 p).2 t λy=>k (bK d (mkv agg t y) s)
  | .a (.c (.ptr b p))=>match s.sto[b]? with
   |some (.box e x)=>prt e x (spf 0 p).1 (spf 0 p).2 t λy=>k (bK d (mkv agg t y) s)
   |some (.mbox _ cs)=>match uP p with
    |some off=>match sub cs off t.sz with
     |some l=>match mka agg t l with|some v=>k (bK d v s)|none=>none
     |none=>none
    |none=>none
   |_=>none
  | .a (.c (.ep b i p))=>match s.sto[b]? with|some (.arr _ e rows)=>(bL rows i).bind λrow=>prt e row (spf 0 p).1 (spf 0 p).2 t λy=>k (bK d (mkv agg t y) s)|_=>none
  |_=>none
 else none
theorem HR(L:Nat->Nat){agg:Bool}{t:Ty}(h:agg=true\/t.sz=1)(y:t.D):pS agg (cel t y)=some (aX L (mkv agg t y)):=by
 unfold mkv;split;rename_i e;subst e;rfl;rename_i e;have:agg=false:=by simpa using e
 subst this;have:=h.resolve_left (by simp);rw[LI this];rfl
theorem QF(p:List Sp):(spf 0 p).1+spo (spf 0 p).2=spo p:=by simp[SS]
theorem JM2{agg:Bool}{t:Ty}{v:TV}{d:Option Nat}{s:TSt}{k:TSt->Option R}{r:R}(h:uc agg t v d s k=some r):Ok (gY agg t.sz (aX (lns s.sto) v)) d s k r:=by
 unfold uc at h;split at h;rename_i g;split at h;rename_i j x p;obtain⟨y,h1,h2⟩:=yW h;rw[QF]at h1;refine⟨_,_,?_,OH d (mkv agg t y),h2⟩;simp only[lK,nB,nH,gK,gY,h1,HR (lns s.sto) g,val];rfl;rename_i b p;split at h;rename_i j x hb;obtain⟨y,h1,h2⟩:=yW h;rw[QF]at h1;refine⟨_,_,?_,OH d (mkv agg t y),h2⟩;have hc:lQ agg ((cel t y).map .p)=pS agg (cel t y):=by
  unfold lQ pS;split;rw[IR];cases hcel:cel t y with
  |nil=>rfl
  |cons a l=>cases l<;>rfl
 simp only[lK,nB,nH,gK,gY,eI,eH,hb,cZ,JE,bF,IP,h1,hc,HR (lns s.sto) g,val];rfl;rename_i cs hb;split at h;rename_i off n;split at h;rename_i l hl;split at h;rename_i v o;refine⟨_,_,?_,OH d v,h⟩;simp only[lK,nB,nH,gK,gY,eI,eH,hb,cZ,JE,bF,IP,HT n,hl,HX (lns s.sto) o,val];rfl;cases h;cases h;cases h;cases h;rename_i b i p;split at h;rename_i w j rows hb;obtain⟨row,e,h⟩:=bQ.1 h;have e:rows[i]?=some row:=e;obtain⟨y,h1,h2⟩:=yW h;rw[QF]at h1;refine⟨_,_,?_,OH d (mkv agg t y),h2⟩;simp only[lK,nB,nH,gK,gY,eI,eH,hb,cZ,JE,bF,mJ hb,eQ,if_true,iB,e,h1,HR (lns s.sto) g,val];rfl;cases h;cases h;cases h
end
end Go.Am
end
section
namespace Go.Am
section
variable {R:Type}
def fzC:(t:Ty)->List TC->TSt->(t.D->TSt->Option R)->Option R
 | .pr a c,l,s,k=>fzC a (l.take a.sz) s λx s=>fzC c (l.drop a.sz) s λy s=>k (x,y) s
 | .ar _ _,_,_,_=>none
 | .u,l,s,k=>if l.isEmpty=true then k () s else none
 | .l e,l,s,k=>match l with
  |[.d t' x]=>if h:t'=.l e then k (h▸x) s else none
  |[.slr b]=>match s.sto[b]? with|some (.arr _ e' rows)=>if h:e'=e then k (h▸rows) (wS b (.arr false e' rows) s)else none|_=>none
  |_=>none
 |t,l,s,k=>match l with|[.d t' x]=>if h:t'=t then k (h▸x) s else none|_=>none
def tfz(t:Ty)(v:TV)(s:TSt)(k:t.D->TSt->Option R):Option R:=
 match v with
 | .a (.dt t' x)=>if h:t'=t then k (h▸x) s else none
 | .a (.c x)=>fzC t [x] s k
 | .a (.m _ cs)=>fzC t cs s k
 |_=>none
def Fzd(s s':TSt)(ws:List (Nat×Blk)):Prop:=s'.env=s.env/\lns s'.sto=lns s.sto/\JC s'=⟨(JC s).env,upd ws (JC s).sto⟩/\(∀(b:Nat) (t:Ty) (rows:List t.D) (w:Bool),s'.sto[b]?=some (TB.arr w t rows)-> ∃w',s.sto[b]?=some (TB.arr w' t rows))/\(∀(b:Nat) (t:Ty) (rows:List t.D),s.sto[b]?=some (TB.arr false t rows)->s'.sto[b]?=some (TB.arr false t rows))/\ ∀x∈ws,∃(t:Ty) (rows:List t.D),s'.sto[x.1]?=some (TB.arr false t rows)
theorem Fzd.refl(s:TSt):Fzd s s []:=⟨rfl,rfl,rfl,λb t rows w h=>⟨w,h⟩,λb t rows h=>h,λx h=>by cases h⟩
theorem Fzd.trans{s1 e g:TSt}{a c:List (Nat×Blk)}(h:Fzd s1 e a)(j:Fzd e g c):Fzd s1 g (a++c):=by
 obtain⟨h1,h2,B,z,o,y⟩:=h;obtain⟨n,q,A,v,k,r⟩:=j;refine⟨n.trans h1,q.trans h2,?_,λb t rows w h=>?_,λb t rows h=>k b t rows (o b t rows h),λx C=>?_⟩
 all_goals grind [fH]
theorem gy{s:TSt}{b:Nat}{w:Bool}{t:Ty}{rows:List t.D}(hb:s.sto[b]?=some (.arr w t rows)):Fzd s (wS b (.arr false t rows) s) [(b,.arr false t.sz (rows.map (cel t)))]:=by
 have hl:lnB (.arr false t rows)=lns s.sto b:=by rw[mJ hb];rfl
 have hs:(wS b (.arr false t rows) s).sto[b]?=some (.arr false t rows):=by grind [wS]
 have g: ∀c,c≠b->(wS b (.arr false t rows) s).sto[c]?=s.sto[c]?:=λc hc=>by grind [wS]
 refine⟨rfl,IB hl,BO hl,λc t' e w' h=>?_,λc t' e h=>?_,λx j=>?_⟩
 all_goals grind
theorem JNF(x y:List AV)(st:St):(fz.fzL (x++y)).run st=((fz.fzL x).run st).bind λa=>((fz.fzL y).run st).map λc=>(a.1++c.1,a.2++c.2):=by
 induction x with
 |nil=>simp_all
 |cons v x ih=>
  simp only[AY,fz.fzL,run_bind,ih];cases(fz.fz1 v).run st with
  |none=>rfl
  |some a=>
   simp only[JE];cases(fz.fzL x).run st with
   |none=>rfl
   |some c=>simp only[JE];cases(fz.fzL y).run st<;>simp_all
theorem NP{L:Nat->Nat}{t t':Ty}{x:t'.D}(h:t'=t)(h1:t.sz=1)(st:St):(fz.fzL ([TC.d t' x].map (bG L))).run st=some (cel t (h▸x),[]):=by
 grind [LI,bG,fz.fzL,fz.fz1,run_bind,bP]
theorem OA: ∀{t:Ty} {l:List TC} {s0 s:TSt} {w0:List (Nat×Blk)} {k:t.D->TSt->Option R} {r:R},Fzd s0 s w0->fzC t l s k=some r->
  ∃y s' ws,(fz.fzL (l.map (bG (lns s0.sto)))).run (JC s0)=some (cel t y,ws)/\Fzd s0 s' (w0++ws)/\k y s'=some r
 | .pr a c,l,s0,s,w0,k,r,j,h=>by simp only[fzC]at h;obtain⟨x,s1,v,A,o,h⟩:=OA j h;obtain⟨y,q,B,z,C,h⟩:=OA o h;refine⟨(x,y),q,v++B,?_,by simp_all,h⟩;have:=JNF ((l.take a.sz).map (bG (lns s0.sto))) ((l.drop a.sz).map (bG (lns s0.sto))) (JC s0);rw[<-MA,qL,A,z]at this;exact this
 | .ar _ _,_,_,_,_,_,_,_,h=>by cases h
 | .u,l,s0,s,w0,k,r,j,h=>by
  simp only[fzC]at h;split at h;rename_i g;refine⟨(),s,[],?_,by simp_all,h⟩;rw[List.isEmpty_iff.1 g];rfl;cases h
 | .l e,l,s0,s,w0,k,r,j,h=>by
  simp only[fzC]at h;split at h;split at h;rename_i g;exact⟨_,s,[],NP g rfl _,by simp_all,h⟩;cases h;rename_i b;split at h;rename_i w e' rows hb;split at h;rename_i g;subst g;obtain⟨w',n⟩:=j.2.2.2.1 b _ rows w hb;refine⟨rows,_,[(b,.arr false e'.sz (rows.map (cel e')))],?_,j.trans (gy hb),h⟩;simp only[cN,List.map_nil,bG,fz.fzL,fz.fz1,run_bind,eI,eH,n,cZ,JE,bF,mJ n,eQ,qN,if_true,GN,bP];rfl;cases h;cases h;cases h
 | .b,l,s0,s,w0,k,r,j,h=>by
  simp only[fzC]at h;split at h;split at h;rename_i g;exact⟨_,s,[],NP g rfl _,by simp_all,h⟩;cases h;cases h
 | .i _,l,s0,s,w0,k,r,j,h=>by
  simp only[fzC]at h;split at h;split at h;rename_i g;exact⟨_,s,[],NP g rfl _,by simp_all,h⟩;cases h;cases h
 | .s,l,s0,s,w0,k,r,j,h=>by
  simp only[fzC]at h;split at h;split at h;rename_i g;exact⟨_,s,[],NP g rfl _,by simp_all,h⟩;cases h;cases h
 | .f,l,s0,s,w0,k,r,j,h=>by
  simp only[fzC]at h;split at h;split at h;rename_i g;exact⟨_,s,[],NP g rfl _,by simp_all,h⟩;cases h;cases h
theorem JSE(x:AV)(hx:(∀cs,x≠.data cs)/\ ∀cs,x≠.agg cs)(st:St){y:List PV}{ws:List (Nat×Blk)}(h:(fz.fzL [x]).run st=some (y,ws)):(fz x).run st=some (y,ws):=by simp only[fz.fzL,run_bind,bP]at h;cases x<;>simp_all [bQ]
theorem Kg{t:Ty}{v:TV}{s0 s:TSt}{w0:List (Nat×Blk)}{k:t.D->TSt->Option R}{r:R}(g:Fzd s0 s w0)(h:tfz t v s k=some r):
  ∃y s' ws,(fz (aX (lns s0.sto) v)).run (JC s0)=some (cel t y,ws)/\Fzd s0 s' (w0++ws)/\k y s'=some r:=by
 unfold tfz at h;split at h;split at h;rename_i j;subst j;exact⟨_,s,[],rfl,by simp_all,h⟩;cases h;rename_i x;obtain⟨y,s',ws,h1,h2,e⟩:=OA g h;refine⟨y,s',ws,JSE _ ⟨λcs=>?_,λcs=>?_⟩ _ h1,h2,e⟩<;>cases x<;>simp[bG,aX,bX]
 obtain⟨y,s',ws,h1,h2,e⟩:=OA g h;exact⟨y,s',ws,h1,h2,e⟩;cases h
end
end Go.Am
end
section
namespace Go.Am
section
variable {R:Type}
theorem lb(L:Nat->Nat){t:Ty}{v:TV}{x:t.D}(h:tdv t v=some x)(ha:agv v=true\/t.sz=1):cellsOf (aX L v)=some ((cel t x).map .p):=by
 rw[JQQ L h];split;rfl;rename_i e;rw[LI (ha.resolve_left e)];rfl
def u9(t:Ty)(x u:TV)(d:Option Nat)(s:TSt)(k:TSt->Option R):Option R:=
 match x with
 | .a (.c (.ptr b p))=>match s.sto[b]? with
  |some (.box e y)=>match tdv t u with
   |some z=>if agv u=true\/t.sz=1 then pst e y (spf 0 p).1 (spf 0 p).2 t z λh=>k (bK d uv (wS b (.box e h) s))else none
   |none=>match uP p,BE e y,tcs u with
    |some off,some cs,some l=>if l.length=t.sz then
     match spl cs off l with
     |some cs'=>k (bK d uv (wS b (mkb e cs') s))
     |none=>none
     else none
    |some off,none,some l=>if off=0/\l.length=e.sz/\l.length=t.sz then k (bK d uv (wS b (mkb e l) s))else none
    |_,_,_=>none
  |some (.mbox e cs)=>match uP p,tcs u with
   |some off,some l=>if l.length=t.sz then
    match spl cs off l with
    |some cs'=>k (bK d uv (wS b (mkb e cs') s))
    |none=>none
    else none
   |_,_=>none
  |_=>none
 | .a (.c (.ep b i p))=>tfz t u s λz s1=>match s1.sto[b]? with|some (.arr true e rows)=>(bL rows i).bind λrow=>pst e row (spf 0 p).1 (spf 0 p).2 t z λg=>k (bK d uv (wS b (.arr true e (bH rows i g)) s1))|_=>none
 |_=>none
theorem JQS(L:Nat->Nat):aX L uv=hE:=rfl
theorem US{s:TSt}{b:Nat}{t:Ty}{x:t.D}(h:s.sto[b]?=some (.box t x)):lns s.sto b=0:=by unfold lns;rw[h];rfl
theorem wv{s:TSt}{b:Nat}{t:Ty}{cs:List TC}(h:s.sto[b]?=some (.mbox t cs)):lns s.sto b=0:=by unfold lns;rw[h];rfl
theorem CY{s:TSt}{b:Nat}(h:s.sto[b]?=some .dead):lns s.sto b=0:=by unfold lns;rw[h];rfl
theorem MP{m:RM Eff}{d:Option Nat}{s:TSt}{k:TSt->Option R}{r:R}{b:Nat}{x:TB}{v:TV}(hl:lnB x=lns s.sto b)(hm:m.run (JC s)=some ⟨aX (lns s.sto) v,[(b,bF (lns s.sto) x)]⟩)
  (h:k (bK d v (wS b x s))=some r):Ok m d s k r:=by
 refine⟨_,_,hm,?_,h⟩;have e:=IB hl;rw[<-e];refine rE ?_ d v;simp_all [BO]
theorem r6{m:RM Eff}{d:Option Nat}{s:TSt}{k:TSt->Option R}{r:R}{b:Nat}{x:TB}{v:TV}(hm:m.run (JC s)=some ⟨aX (lns (wN b x s).sto) v,[(b,bF (lns (wN b x s).sto) x)]⟩)
  (h:k (bK d v (wN b x s))=some r):Ok m d s k r:=
 ⟨_,_,hm,rE (SC b x s) d v,h⟩
theorem fY{m:RM Eff}{d:Option Nat}{s:TSt}{k:TSt->Option R}{r:R}{v:TV}(hm:m.run (JC s)=some ⟨aX (lns s.sto) v,[]⟩)(h:k (bK d v s)=some r):Ok m d s k r:=
 ⟨_,_,hm,OH d v,h⟩
theorem uj{m:RM Eff}{d:Option Nat}{s s':TSt}{ws:List (Nat×Blk)}{k:TSt->Option R}{r:R}{v:TV}(f:Fzd s s' ws)(hm:m.run (JC s)=some ⟨aX (lns s.sto) v,ws⟩)(h:k (bK d v s')=some r):Ok m d s k r:=by refine⟨_,_,hm,?_,h⟩;rw[<-f.2.1];exact rE f.2.2.1 d v
theorem JI5{t:Ty}{x u:TV}{d:Option Nat}{s:TSt}{k:TSt->Option R}{r:R}(h:u9 t x u d s k=some r):Ok (iV t.sz (aX (lns s.sto) x) (aX (lns s.sto) u)) d s k r:=by
 unfold u9 at h;split at h;rename_i b p;split at h;rename_i e y hb;split at h;rename_i z D;split at h;rename_i G;obtain⟨B,h1,h2⟩:=CT h;rw[QF]at h1;refine MP (x:=.box e B) (v:=uv) (US hb).symm ?_ h2;simp only[lK,nB,nH,gK,iV,eI,eH,hb,cZ,JE,bF,lb (lns s.sto) D G,eQ,eK,if_true,IS,h1,bP];rfl;cases h;split at h;rename_i off cs l n hc hl;split at h;rename_i w;split at h;rename_i cs' hs;refine MP (x:=mkb e cs') (v:=uv) ((VC _ _).trans (US hb).symm) ?_ h;rw[UR];simp only[lK,nB,nH,gK,iV,eI,eH,hb,cZ,JE,bF,NW (lns s.sto) hl,eQ,w,if_true,HT n,<-OC (lns s.sto) hc,IS,hs,bP];rfl;cases h;cases h;rename_i off l n _ hl;split at h;rename_i C;obtain⟨rfl,h1,h2⟩:=C;refine MP (x:=mkb e l) (v:=uv) ((VC _ _).trans (US hb).symm) ?_ h;rw[UR];have H:spl ((cel e y).map AV.p) 0 (l.map (bG (lns s.sto)))=some (l.map (bG (lns s.sto))):=Ns (by grind [eK]);simp only[lK,nB,nH,gK,iV,eI,eH,hb,cZ,JE,bF,NW (lns s.sto) hl,eQ,h2,if_true,HT n,H,bP];rfl;cases h;cases h;rename_i e cs hb;split at h;rename_i off l n hl;split at h;rename_i w;split at h;rename_i cs' hs;refine MP (x:=mkb e cs') (v:=uv) ((VC _ _).trans (wv hb).symm) ?_ h;rw[UR];simp only[lK,nB,nH,gK,iV,eI,eH,hb,cZ,JE,bF,NW (lns s.sto) hl,eQ,w,if_true,HT n,IS,hs,bP];rfl;cases h;cases h;cases h;cases h;rename_i b i p;obtain⟨z,s1,ws,h1,f,h⟩:=Kg (Fzd.refl s) h;rw[sH]at f;split at h;rename_i e rows hb;obtain⟨row,q,h⟩:=bQ.1 h;have q:rows[i]?=some row:=q;obtain⟨g,A,I⟩:=CT h;rw[QF]at A;obtain⟨w',j⟩:=f.2.2.2.1 b _ rows true hb;have E:w'=true:=by
  cases w' with
  |true=>rfl
  |false=>have:=f.2.2.2.2.1 b _ rows j;simp_all
 subst E;have o:(ws.all λy=>y.1 !=b)=true:=(by rw[List.all_eq_true];intro y F;obtain⟨t',rows',hf⟩:=f.2.2.2.2.2 y F;grind);have hl:lnB (.arr true e (bH rows i g))=lns s1.sto b:=by grind [mJ,lnB,bH]
 refine⟨⟨hE,ws++[(b,.arr true e.sz ((bH rows i g).map (cel e)))]⟩,_,?_,?_,I⟩;simp only[lK,nB,nH,gK,iV,eI,eH,j,cZ,JE,bF,mJ j,eQ,if_true,iB,q,run_bind,h1,eK,o,and_self,A,bP,List.map_set,bH];rw[<-JQS (lns (wS b (.arr true e (bH rows i g)) s1).sto)];refine rE ?_ d uv;rw[BO hl,f.2.2.1,fH];rfl;cases h;cases h
def tpv:List (Nat×Ty×TO)->TSt->Option (List (Nat×(w:Ty)×w.D))
 |[],_=>some []
 |(off,w,o)::r,s=>match tev o s with
  |some v=>match tdv w v with
   |some z=>if agv v=true\/w.sz=1 then
    match tpv r s with
    |some l=>some ((off,⟨w,z⟩)::l)
    |none=>none
    else none
   |none=>none
  |none=>none
def TF(t:Ty):t.D->List (Nat×(w:Ty)×w.D)->(t.D->Option R)->Option R|x,[],k=>k x|x,(off,⟨w,z⟩)::r,k=>pst t x off [] w z λe=>TF t e r k
def tpc:List (Nat×Ty×TO)->TSt->Option (List (Nat×Nat×List TC))
 |[],_=>some []
 |(off,w,o)::r,s=>match tev o s with
  |some v=>match tcs v with
   |some l=>match tpc r s with|some q=>some ((off,w.sz,l)::q)|none=>none
   |none=>none
  |none=>none
def MC:List (Nat×Nat×List TC)->List TC->Option (List TC)
 |[],cs=>some cs
 |(off,n,c)::r,cs=>if c.length=n then
  match spl cs off c with
  |some cs'=>MC r cs'
  |none=>none
  else none
def erP(parts:List (Nat×Ty×TO)):List (Nat×Nat×Opd):=parts.map λx=>(x.1,x.2.1.sz,erO x.2.2)
theorem uy{s:TSt}: ∀{parts:List (Nat×Ty×TO)} {l:List (Nat×Nat×List TC)},tpc parts s=some l->
  (lM (erP parts)).run (JC s)=some (l.map λx=>(x.1,x.2.1,x.2.2.map (bG (lns s.sto))))
 |[],l,h=>by injection h with h;subst h;rfl
 |(off,w,o)::r,l,h=>by
  simp only[tpc]at h;split at h;rename_i v g;split at h;rename_i c hc;split at h;rename_i q e;injection h with h;subst h;have ih:=uy e;simp only[erP,cN,lM,run_bind,cE g,JE,NW (lns s.sto) hc];simp_all [erP];cases h;cases h;cases h
theorem I8{s:TSt}: ∀{parts:List (Nat×Ty×TO)} {l:List (Nat×(w:Ty)×w.D)},tpv parts s=some l->
  (lM (erP parts)).run (JC s)=some (l.map λx=>(x.1,x.2.1.sz,(cel x.2.1 x.2.2).map .p))
 |[],l,h=>by injection h with h;subst h;rfl
 |(off,w,o)::r,l,h=>by
  simp only[tpv]at h;split at h;rename_i v g;split at h;rename_i z k;split at h;rename_i j;split at h;rename_i q e;injection h with h;subst h;have ih:=I8 e;simp only[erP,cN,lM,run_bind,cE g,JE,lb (lns s.sto) k j];simp_all [erP];cases h;cases h;cases h;cases h
theorem xl{t:Ty}: ∀{l:List (Nat×(w:Ty)×w.D)} {x:t.D} {k:t.D->Option R} {r:R},TF t x l k=some r->
  ∃y,rG (l.map λx=>(x.1,x.2.1.sz,(cel x.2.1 x.2.2).map .p)) ((cel t x).map .p)=some ((cel t y).map .p)/\k y=some r
 |[],x,k,r,h=>⟨x,rfl,h⟩
 |(off,⟨w,z⟩)::q,x,k,r,h=>by
  simp only[TF]at h;obtain⟨e,h1,h2⟩:=CT h;obtain⟨y,j,g⟩:=xl h2;grind [rG,eK,IS,spo]
theorem kl(L:Nat->Nat): ∀{l:List (Nat×Nat×List TC)} {cs cs':List TC},MC l cs=some cs'->
  rG (l.map λx=>(x.1,x.2.1,x.2.2.map (bG L))) (cs.map (bG L))=some (cs'.map (bG L))
 |[],cs,cs',h=>by injection h with h;subst h;rfl
 |(off,n,c)::q,cs,cs',h=>by
  simp only[MC]at h;split at h;rename_i e;split at h;rename_i g hs;simp only[cN,rG,eQ,e,if_true,IS,hs,cZ];exact kl L h;cases h;cases h
def vh(t:Ty)(parts:List (Nat×Ty×TO))(d:Option Nat)(s:TSt)(k:TSt->Option R):Option R:=
 match tpv parts s with
 |some l=>TF t t.zero l λy=>k (bK d (.a (.dt t y)) s)
 |none=>match tpc parts s with
  |some l=>match MC l (zcs t)with
   |some cs'=>match mka true t cs' with|some v=>k (bK d v s)|none=>none
   |none=>none
  |none=>none
theorem JIW(F:Orc)(new:Nat){t:Ty}{parts:List (Nat×Ty×TO)}{d:Option Nat}{s:TSt}{k:TSt->Option R}{r:R}(h:vh t parts d s k=some r):Ok (opR F (.build (cel t t.zero) (erP parts)) new) d s k r:=by
 unfold vh at h;split at h;rename_i l hl;obtain⟨y,h1,h2⟩:=xl h;refine fY (v:=.a (.dt t y)) ?_ h2;simp only[opR,run_bind,I8 hl,JE,h1,Ah,val,bP];rfl;split at h;rename_i l hl;split at h;rename_i cs' hf;split at h;rename_i v e;refine fY (v:=v) ?_ h;simp only[opR,run_bind,uy hl,JE,<-HZ (lns s.sto) t,kl (lns s.sto) hf,HX (lns s.sto) e,val,bP];cases h;cases h;cases h
def vj(agg:Bool)(off:Nat)(t:Ty)(v:TV)(d:Option Nat)(s:TSt)(k:TSt->Option R):Option R:=
 if agg=true\/t.sz=1 then
  match v with
  | .a (.dt e x)=>prt e x off [] t λy=>k (bK d (mkv agg t y) s)
  | .a (.m _ cs)=>match sub cs off t.sz with
   |some l=>match mka agg t l with|some v=>k (bK d v s)|none=>none
   |none=>none
  |_=>none
 else none
theorem JIr{agg:Bool}{off:Nat}{t:Ty}{v:TV}{d:Option Nat}{s:TSt}{k:TSt->Option R}{r:R}(h:vj agg off t v d s k=some r):Ok (val (sR agg off t.sz (aX (lns s.sto) v))) d s k r:=by
 unfold vj at h;split at h;rename_i j;split at h;rename_i e x;obtain⟨y,h1,h2⟩:=yW h;refine fY (v:=mkv agg t y) ?_ h2;grind [spo,qb,sR,HR,val,bP];rename_i cs;split at h;rename_i l hl;split at h;rename_i v g;refine fY (v:=v) ?_ h;grind [e_m,sR,IP,HX,val,bP];cases h;cases h;cases h;cases h
end
end Go.Am
end
section
namespace Go.Am
section
variable {R:Type}
theorem ik{α:Type} [BEq α] [LawfulBEq α] [DecidableEq α](x y:α):(x==y)=decide (x=y):=by
 grind
def Vl(m:Option AV)(s:TSt)(kk:TV->Option R)(r:R):Prop:= ∃v,m=some (aX (lns s.sto) v)/\kk v=some r
theorem Vl.ok{m:Option AV}{d:Option Nat}{s:TSt}{k:TSt->Option R}{r:R}(h:Vl m s (λv=>k (bK d v s)) r):Ok (val m) d s k r:=by obtain⟨v,h1,h2⟩:=h;refine fY (v:=v) ?_ h2;rw[h1];rfl
def qq(op:BinOp)(k:IntKind)(a c:Int)(kk:TV->Option R):Option R:=
 match op with
 | .add=>kk (vi k (J1 k a c))
 | .sub=>kk (vi k (Jn k a c))
 | .mul=>kk (vi k (bT k a c))
 | .quo=>(Ig k a c).bind λq=>kk (vi k q)
 | .rem=>(xK a c).bind λq=>kk (vi k q)
 | .and=>kk (vi k (kX k a c))
 | .or=>kk (vi k (orI k a c))
 | .xor=>kk (vi k (gU k a c))
 | .eql=>kk (vb (aM a c))
 | .neq=>kk (vb (aO a c))
 | .lss=>kk (vb (aL a c))
 | .leq=>kk (vb (bA a c))
 | .gtr=>kk (vb (aR a c))
 | .geq=>kk (vb (aS a c))
 |_=>none
def rp(op:BinOp)(a c:List UInt8)(kk:TV->Option R):Option R:=
 match op with
 | .add=>(cS a c).bind λq=>kk (vs q)
 | .eql=>kk (vb (eqS a c))
 | .neq=>kk (vb (neS a c))
 | .lss=>kk (vb (ltS a c))
 | .leq=>kk (vb (leS a c))
 | .gtr=>kk (vb (gtS a c))
 | .geq=>kk (vb (geS a c))
 |_=>none
inductive TBT where|plain|bool|flat (t:Ty)|nilp|nilf
def erT:TBT->BT| .plain=>.plain| .bool=>.bool| .flat t=>.flat (t.ks.getD [])| .nilp=>.nilp| .nilf=>.nilf
def oN(op:BinOp)(x:Bool)(kk:TV->Option R):Option R:=
 match op with
 | .eql=>kk (vb x)
 | .neq=>kk (vb (Jk x))
 |_=>none
def rk(op:BinOp)(bt:TBT)(x y:TV)(kk:TV->Option R):Option R:=
 match bt with
 | .plain=>match x,y with
  | .a (.c (.d (.i k) a)),.a (.c (.d (.i k') c))=>match op with| .shl=>(nF k a c).bind λq=>kk (vi k q)| .shr=>(gX k a c).bind λq=>kk (vi k q)|_=>if k=k' then qq op k a c kk else none
  | .a (.c (.d .s a)),.a (.c (.d .s c))=>rp op a c kk
  |_,_=>none
 | .bool=>match x,y with| .a (.c (.d .b a)),.a (.c (.d .b c))=>oN op (eqB a c) kk|_,_=>none
 | .flat t=>match x,y with| .a (.dt g a),.a (.dt e c)=>if h:g=t/\e=t/\t.ks.isSome=true then oN op (eqT t (h.1▸a) (h.2.1▸c)) kk else none|_,_=>none
 | .nilp=>match x with| .a (.c .np)=>oN op true kk| .a (.c (.ptr _ _))=>oN op false kk| .a (.c (.cp _ _ _))=>oN op false kk| .a (.c (.ep _ _ _))=>oN op false kk|_=>none
 | .nilf=>match x with| .a (.c .nf)=>oN op true kk| .a (.fn _ _ _)=>oN op false kk| .a (.c (.fn _))=>oN op false kk| .a (.c (.d .f _))=>oN op true kk|_=>none
theorem UU{op:BinOp}{x:Bool}{s:TSt}{kk:TV->Option R}{r:R}(h:oN op x kk=some r):Vl (jX op (some x)) s kk r:=by
 unfold oN at h;split at h;exact⟨_,rfl,h⟩;exact⟨_,rfl,h⟩;cases h
theorem JMK{op:BinOp}{k:IntKind}{a c:Int}{s:TSt}{kk:TV->Option R}{r:R}(h:qq op k a c kk=some r):Vl ((AN op k a c).map .p) s kk r:=by
 unfold qq at h;split at h<;>first
  |exact⟨_,rfl,h⟩
  |(obtain⟨q,h1,h⟩:=bQ.1 h
    refine⟨_,?_,h⟩
    first|unfold Ig at h1|unfold xK at h1
    split at h1;cases h1;rename_i e;injection h1 with h1;simp only[AN,if_neg e,h1,cZ,e_i])
  |(refine⟨_,?_,h⟩;simp only[AN,ik,cZ,e_b,bne,aM,aO,aL,bA,aR,aS];done)
  |cases h
theorem JOw{op:BinOp}{a c:List UInt8}{s:TSt}{kk:TV->Option R}{r:R}(h:rp op a c kk=some r):Vl ((AZ op a c).map .p) s kk r:=by
 unfold rp at h;split at h<;>first
  |(obtain⟨q,h1,h⟩:=bQ.1 h
    refine⟨_,?_,h⟩;unfold cS at h1;split at h1;rename_i e;injection h1 with h1;simp only[AZ,if_pos e,h1,cZ,e_s];cases h1)
  |(refine⟨_,?_,h⟩;simp only[AZ,ik,cZ,e_b,eqS,neS,ltS,leS,gtS,geS];done)
  |cases h
theorem JNQ{op:BinOp}{bt:TBT}{x y:TV}{s:TSt}{kk:TV->Option R}{r:R}(h:rk op bt x y kk=some r):Vl (oT op (erT bt) (aX (lns s.sto) x) (aX (lns s.sto) y)) s kk r:=by
 unfold rk at h;split at h;split at h;rename_i k a k' c;simp only[e_i,erT,oT];split at h;obtain⟨q,h1,h⟩:=bQ.1 h;unfold nF at h1;split at h1;cases h1;rename_i e;injection h1 with h1;exact⟨_,by simp_all [e_i],h⟩;obtain⟨q,h1,h⟩:=bQ.1 h;unfold gX at h1;split at h1;cases h1;rename_i e;injection h1 with h1;exact⟨_,by simp_all [e_i],h⟩;grind [JMK];exact JOw h;cases h;split at h;rename_i a c;simp only[e_b,erT,oT,ik];exact UU h;cases h;grind [Option.isSome_iff_exists,qb,erT,oT,UQ,UU];split at h<;>first|exact UU h|cases h
 split at h<;>first|exact UU h|cases h
def tUn(op:UnOp)(x:TV)(kk:TV->Option R):Option R:=
 match op,x with
 | .neg,.a (.c (.d (.i k) n))=>kk (vi k (JSJ k n))
 | .xor,.a (.c (.d (.i k) n))=>kk (vi k (MB k n))
 | .not,.a (.c (.d .b x))=>kk (vb (Jk x))
 |_,_=>none
theorem JQw{op:UnOp}{x:TV}{s:TSt}{kk:TV->Option R}{r:R}(h:tUn op x kk=some r):Vl (unP op (aX (lns s.sto) x)) s kk r:=by unfold tUn at h;split at h<;>first|exact⟨_,rfl,h⟩|cases h
def tMm(mx:Bool)(x y:TV)(kk:TV->Option R):Option R:=
 match x,y with
 | .a (.c (.d (.i k) a)),.a (.c (.d (.i _) c))=>kk (vi k (if mx=true then bZ a c else jE a c))
 |_,_=>none
theorem JR1{mx:Bool}{x y:TV}{s:TSt}{kk:TV->Option R}{r:R}(h:tMm mx x y kk=some r):Vl (mmP mx (aX (lns s.sto) x) (aX (lns s.sto) y)) s kk r:=by
 unfold tMm at h;split at h;exact⟨_,by cases mx<;>rfl,h⟩;cases h
def tls(t:Ty)(v:TV)(s:TSt):Option (List t.D):=
 match v with
 | .a (.c (.d (.l t') l))=>if h:t'=t then some (h▸l)else none
 | .a (.c (.d .s l))=>if h:t=.i .u8 then some (h▸(aV l:List (Ty.i .u8).D))else none
 | .a (.c (.slr b))=>match s.sto[b]? with|some (.arr _ t' rows)=>if h:t'=t then some (h▸rows)else none|_=>none
 | .a (.c (.suf b i))=>match s.sto[b]? with|some (.arr _ t' rows)=>if h:t'=t then some (h▸rows.drop i)else none|_=>none
 |_=>none
theorem gj{t:Ty}{v:TV}{s:TSt}{l:List t.D}(h:tls t v s=some l):(fX t.sz (aX (lns s.sto) v)).run (JC s)=some (l.map (cel t)):=by
 unfold tls at h;split at h;grind [e_l,fX,bP];split at h;rename_i g;subst g;injection h with h;subst h;simp only[e_s,fX,Ty.sz,if_true,bP,ji];rfl;cases h;rename_i b;split at h;rename_i w t' rows hb;split at h;rename_i g;subst g;injection h with h;subst h;simp only[gK,fX,eI,eH,hb,cZ,JE,bF,mJ hb,eQ,qN,and_self,if_true,bP,GN];cases h;cases h;rename_i b i;split at h;rename_i w t' rows hb;split at h;rename_i g;subst g;injection h with h;subst h;have e:aX (lns s.sto) (.a (.c (.suf b i)))=.slr b (min i (lns s.sto b)) (lns s.sto b-i):=rfl;have k:min i rows.length+(rows.length-i)=rows.length:=by omega
 have j:(rows.map (cel t')).drop (min i rows.length)=(rows.map (cel t')).drop i:=(by rcases Nat.le_total i rows.length with h|h;rw[Nat.min_eq_left h];rw[Nat.min_eq_right h,List.drop_of_length_le (by simp),List.drop_of_length_le (by simpa using h)]);simp only[e,fX,eI,eH,hb,cZ,JE,bF,mJ hb,eQ,k,and_self,if_true,bP,j,List.map_drop];cases h;cases h;cases h
def tr(k:CK)(x:TV)(d:Option Nat)(new:Nat)(s:TSt)(kk:TSt->Option R):Option R:=
 match k with
 | .int k=>match x with| .a (.c (.d (.i _) n))=>kk (bK d (vi k (aW k n)) s)|_=>none
 | .same=>match x with| .a (.c (.d .s l))=>kk (bK d (vs l) s)|_=>none
 | .toStr=>match tls (.i .u8) x s with|some l=>kk (bK d (vs (toStr l)) s)|none=>none
 | .toBytes own=>match x with| .a (.c (.d .s l))=>if own=true then kk (bK d (.a (.c (.slr new))) (wN new (.arr true (.i .u8) (aV l)) s))else kk (bK d (vl (.i .u8) (aV l)) s)|_=>none
theorem JKQ(F:Orc){k:CK}{x:TO}{v:TV}{d:Option Nat}{new:Nat}{s:TSt}{kk:TSt->Option R}{r:R}(hx:tev x s=some v)(hn:k=.toBytes true->new<s.sto.length)(h:tr k v d new s kk=some r):Ok (opR F (.conv k (erO x)) new) d s kk r:=by
 unfold tr at h;split at h;split at h;refine fY (v:=vi _ _) ?_ h;simp only[opR,run_bind,cE hx,JE,e_i,bP,aW];cases h;split at h;refine fY (v:=vs _) ?_ h;grind [opR,run_bind,cE,e_s,bP];cases h;split at h;rename_i l hl;refine fY (v:=vs _) ?_ h;have:=gj hl;have e:l.map (cel (.i .u8))=l.map (r_i .u8):=rfl;rw[e]at this;simp only[opR,run_bind,cE hx,JE,this,me,e_s,bP,Ty.sz];rw[show(fX 1 (aX (lns s.sto) v)).run (JC s)=some (l.map (r_i .u8))from this];simp[me];cases h;rename_i own;split at h;rename_i l;split at h;rename_i g;subst g;refine r6 (x:=.arr true (.i .u8) (aV l)) (v:=.a (.c (.slr new))) ?_ h;simp only[opR,run_bind,cE hx,JE,e_s,if_true,bP,gK,bF,ji];have e:lns (wN new (TB.arr true (Ty.i IntKind.u8) (aV l)) s).sto new=l.length:=(by grind [wN,uu,lnB,aV]);rw[e];rfl;rename_i g;have:own=false:=by simpa using g
 subst this;refine fY (v:=vl _ _) ?_ h;simp only[opR,run_bind,cE hx,JE,e_s,fF,if_false,bP,e_l,ji];rfl;cases h
end
end Go.Am
end
section
namespace Go.Am
section
variable {R:Type}
theorem Mj(p q:List Sp):spo (p++q)=spo p+spo q:=by
 induction p with
 |nil=>simp[spo]
 |cons x p ih=>cases x<;>simp only[AY,spo,ih]<;>omega
def ft(off:Nat)(x:TV)(kk:TV->Option R):Option R:=
 match x with
 | .a (.c (.ptr b p))=>kk (.a (.c (.ptr b (p++[.f off]))))
 | .a (.c (.cp t x p))=>kk (.a (.c (.cp t x (p++[.f off]))))
 | .a (.c (.ep b i p))=>kk (.a (.c (.ep b i (p++[.f off]))))
 |_=>none
theorem JII{off:Nat}{x:TV}{s:TSt}{kk:TV->Option R}{r:R}(h:ft off x kk=some r):Vl (NK off (aX (lns s.sto) x)) s kk r:=by
 unfold ft at h;split at h<;>first
  |(refine⟨_,?_,h⟩;simp only[lK,nB,nH,NK,Mj,spo,xN];done)
  |cases h
def fv(len esz:Nat)(x i:TV)(kk:TV->Option R):Option R:=
 match i with
 | .a (.c (.d (.i _) n))=>(bB len n).bind λ_=>match x with| .a (.c (.ptr b p))=>kk (.a (.c (.ptr b (p++[.a n.toNat esz]))))| .a (.c (.cp t x p))=>kk (.a (.c (.cp t x (p++[.a n.toNat esz]))))| .a (.c (.ep b i p))=>kk (.a (.c (.ep b i (p++[.a n.toNat esz]))))|_=>none
 |_=>none
theorem JJ2{len esz:Nat}{x i:TV}{s:TSt}{kk:TV->Option R}{r:R}(h:fv len esz x i kk=some r):Vl (NH len esz (aX (lns s.sto) x) (aX (lns s.sto) i)) s kk r:=by
 unfold fv at h;split at h;obtain⟨_,h1,h⟩:=bQ.1 h;have e:=L4 h1;split at h<;>first
  |(refine⟨_,?_,h⟩;simp only[lK,nB,nH,e_i,NH,if_pos e,Mj,spo,xN];done)
  |cases h
 cases h
def vg(t:Ty)(x i:TV)(s:TSt)(kk:TV->Option R):Option R:=
 match i with
 | .a (.c (.d (.i _) n))=>match x with
  | .a (.c (.d (.l t') l))=>if t'=t then(idx l n).bind λy=>kk (.a (.c (.cp t' y [])))else none
  | .a (.c (.slr b))=>match s.sto[b]? with|some (.arr _ t' rows)=>if t'=t then(bB rows.length n).bind λ_=>kk (.a (.c (.ep b n.toNat [])))else none|_=>none
  |_=>none
 |_=>none
theorem JIk{t:Ty}{x i:TV}{d:Option Nat}{s:TSt}{k:TSt->Option R}{r:R}(h:vg t x i s (λv=>k (bK d v s))=some r):Ok (nP t.sz (aX (lns s.sto) x) (aX (lns s.sto) i)) d s k r:=by
 unfold vg at h;split at h;split at h;split at h;rename_i e;subst e;obtain⟨y,h1,h⟩:=bQ.1 h;refine fY (v:=.a (.c (.cp _ y []))) ?_ h;grind [e_l,e_i,nB,nP,JIf,bP,spo];cases h;rename_i b;split at h;rename_i w t' rows hb;split at h;rename_i e;subst e;obtain⟨_,h1,h⟩:=bQ.1 h;have e:=L4 h1;refine fY (v:=.a (.c (.ep b _ []))) ?_ h;simp only[gK,e_i,nH,nP,eI,eH,hb,cZ,JE,bF,mJ hb,eQ,qN,true_and];rw[if_pos e];rfl;cases h;cases h;cases h;cases h
def tz(x i:TV)(kk:TV->Option R):Option R:=
 match x,i with
 | .a (.c (.d .s l)),.a (.c (.d (.i _) n))=>(nG l n).bind λu=>kk (vi .u8 u)
 |_,_=>none
theorem JMo(F:Orc){x i:TO}{g e:TV}{d:Option Nat}{new:Nat}{s:TSt}{k:TSt->Option R}{r:R}(hx:tev x s=some g)(hi:tev i s=some e)(h:tz g e (λv=>k (bK d v s))=some r):Ok (opR F (.sidx (erO x) (erO i)) new) d s k r:=by
 unfold tz at h;split at h
 ·rename_i l k' n;obtain⟨u,h1,h⟩:=bQ.1 h;refine fY (v:=vi .u8 u) ?_ h;simp only[opR,run_bind,cE hx,cE hi,JE,e_s,e_i];unfold nG at h1;split at h1
  ·rename_i j;rw[if_pos j];split at h1
   all_goals simp_all
  cases h1
 cases h
def ZM(j:Int)(k:Nat->Option R):Nat->Option R|0=>none|m+1=>if aM j m=true then k m else ZM j k m
theorem Na{j:Int}{k:Nat->Option R}{r:R}: ∀{n:Nat},ZM j k n=some r-> ∃m,m<n/\j=m/\k m=some r
 |0,h=>by cases h
 |n+1,h=>by
  simp only[ZM]at h;split at h;grind [aM];obtain⟨m,h1,h2,e⟩:=Na h;grind
def r7(agg:Bool)(len:Nat)(t:Ty)(x i:TV)(d:Option Nat)(s:TSt)(k:TSt->Option R):Option R:=
 if agg=true\/t.sz=1 then
  match x,i with
  | .a (.dt (.ar n t') v),.a (.c (.d (.i _) j))=>if h:t'=t/\n=len then(pq v j).bind λy=>k (bK d (mkv agg t (h.1▸y)) s)else none
  | .a (.m _ cs),.a (.c (.d (.i _) j))=>ZM j (λm=>match sub cs (m*t.sz) t.sz with
   |some l=>match mka agg t l with|some v=>k (bK d v s)|none=>none
   |none=>none) len
  |_,_=>none
 else none
theorem JLf(F:Orc){agg:Bool}{len:Nat}{t:Ty}{x i:TO}{o g:TV}{d:Option Nat}{new:Nat}{s:TSt}{k:TSt->Option R}{r:R}(hx:tev x s=some o)(hi:tev i s=some g)(h:r7 agg len t o g d s k=some r):
  Ok (opR F (.aidx agg len t.sz (erO x) (erO i)) new) d s k r:=by
 unfold r7 at h;split at h;rename_i B;split at h;rename_i n t' v k' j;split at h;rename_i w;obtain⟨rfl,rfl⟩:=w;obtain⟨y,h1,h⟩:=bQ.1 h;obtain⟨h2,e⟩:=JJU h1;refine fY (v:=mkv agg t' y) ?_ h;simp only[opR,run_bind,cE hx,cE hi,JE,qb,e_i,if_pos h2,sR];grind [cel,NY,eK,HR,val,bP];cases h;rename_i A cs k' j;obtain⟨m,h1,q,e⟩:=Na h;clear h;subst q;split at e;rename_i l hl;split at e;rename_i v z;refine fY (v:=v) ?_ e;have h2:(0:Int)<=m/\(m:Int)<len:=by omega
 simp only[opR,run_bind,cE hx,cE hi,JE,e_m,e_i,if_pos h2,sR,Int.toNat_natCast,IP,hl,cZ,HX (lns s.sto) z,val,bP];cases e;cases e;cases h;cases h
def tu(x:TV)(i:Nat)(kk:TV->Option R):Option R:=
 match x with
 | .tup vs=>match vs[i]? with|some v=>kk (.a v)|none=>none
 |_=>none
theorem JM9{x:TV}{i:Nat}{s:TSt}{kk:TV->Option R}{r:R}(h:tu x i kk=some r):Vl (SL i (aX (lns s.sto) x)) s kk r:=by
 unfold tu at h;split at h;split at h;rename_i v e;refine⟨_,?_,h⟩;simp_all [aX];cases h;cases h
def qz(str:Bool)(x:TV)(s:TSt)(kk:TV->Option R):Option R:=
 match str,x with
 |true,.a (.c (.d .s l))=>kk (vi .i64 (J0 l))
 |false,.a (.c (.d (.l _) l))=>kk (vi .i64 (J0 l))
 |false,.a (.c (.slr b))=>match s.sto[b]? with|some (.arr _ _ rows)=>kk (vi .i64 (J0 rows))|_=>none
 |false,.a (.c (.slo _ n))=>kk (vi .i64 n)
 |_,_=>none
theorem JMS{str:Bool}{x:TV}{s:TSt}{kk:TV->Option R}{r:R}(h:qz str x s kk=some r):Vl (LW str (aX (lns s.sto) x)) s kk r:=by
 unfold qz at h;split at h;exact⟨_,rfl,h⟩;exact⟨_,by simp[e_l,e_i,J0],h⟩;split at h;rename_i hb;exact⟨_,by grind [gK,LW,mJ,e_i,J0],h⟩;cases h;exact⟨_,rfl,h⟩;cases h
theorem VJ{s:TSt}{new:Nat}(hn:new<s.sto.length){w:Bool}{t:Ty}{rows:List t.D}:lns (wN new (TB.arr w t rows) s).sto new=rows.length:=by unfold wN;rw[uu (by simpa using hn)];rfl
theorem gl{m:RM Eff}{d:Option Nat}{s:TSt}{k:TSt->Option R}{r:R}{new:Nat}{t:Ty}{rows:List t.D}(hn:new<s.sto.length)
  (hm:m.run (JC s)=some ⟨.slr new 0 rows.length,[(new,.arr true t.sz (rows.map (cel t)))]⟩) (h:k (bK d (.a (.c (.slr new))) (wN new (.arr true t rows) s))=some r):Ok m d s k r:=by
 refine r6 (x:=.arr true t rows) (v:=.a (.c (.slr new))) ?_ h;rw[hm,gK,VJ hn];rfl
def jh(own:Bool)(t:Ty)(bytes:Nat)(l c:TV)(d:Option Nat)(new:Nat)(s:TSt)(k:TSt->Option R):Option R:=
 match l,c with
 | .a (.c (.d (.i _) n)),.a (.c (.d (.i _) m))=>(mkS bytes n m t.zero).bind λrows=>
  if own=true then k (bK d (.a (.c (.slr new))) (wN new (.arr true t rows) s))else k (bK d (vl t rows) s)
 |_,_=>none
theorem JDi(F:Orc){own:Bool}{t:Ty}{bytes:Nat}{l c:TO}{e n:TV}{d:Option Nat}{new:Nat}{s:TSt}{k:TSt->Option R}{r:R}(hl:tev l s=some e)(hc:tev c s=some n)(hn:own=true->new<s.sto.length)
  (h:jh own t bytes e n d new s k=some r):Ok (opR F (.mkslice own t.sz bytes (cel t t.zero) (erO l) (erO c)) new) d s k r:=by
 unfold jh at h;split at h;obtain⟨rows,h1,j⟩:=bQ.1 h;obtain⟨h2,rfl⟩:=JOc h1;clear h;split at j;rename_i g;subst g;refine gl (hn rfl) ?_ j;simp only[opR,run_bind,cE hl,cE hc,JE,e_i,if_pos h2,if_true,bP,dk,ZT];rename_i g;have:own=false:=by simpa using g
 subst this;refine fY (v:=vl t _) ?_ j;simp only[opR,run_bind,cE hl,cE hc,JE,e_i,if_pos h2,fF,if_false,bP,e_l,ZT];cases h
def ql(t:Ty)(bytes:Nat)(x y:TV)(d:Option Nat)(s:TSt)(k:TSt->Option R):Option R:=
 match x with
 | .a (.c (.slr b))=>match s.sto[b]? with
  |some (.arr w t' rows)=>if h:t'=t then
   match tls t' y s with
   |some l=>(JB bytes rows l).bind λm=>k (bK d (.a (.c (.slr b))) (wN b (.arr w t' m) s))
   |none=>none
   else none
  |_=>none
 |_=>none
theorem JOt{t:Ty}{bytes:Nat}{x y:TV}{d:Option Nat}{s:TSt}{k:TSt->Option R}{r:R}(h:ql t bytes x y d s k=some r):Ok (jU t.sz bytes (aX (lns s.sto) x) (aX (lns s.sto) y)) d s k r:=by
 unfold ql at h;split at h;rename_i b;split at h;rename_i w t' rows hb;split at h;rename_i g;subst g;split at h;rename_i l hl;obtain⟨m,h1,h⟩:=bQ.1 h;refine r6 (x:=.arr w t' m) (v:=.a (.c (.slr b))) ?_ h;have e:(JC s).sto[b]?=some (.arr w t'.sz (rows.map (cel t'))):=by rw[eH,hb];rfl
 have:=JNX h1 e (gj hl);rw[gK,mJ hb,this,gK,VJ (JD hb)];rfl;cases h;cases h;cases h;cases h
def rm(t:Ty)(x hi:TV)(d:Option Nat)(new:Nat)(s:TSt)(k:TSt->Option R):Option R:=
 match x,hi with
 | .a (.c (.slr b)),.a (.c (.d (.i _) n))=>match s.sto[b]? with|some (.arr true t' rows)=>if t'=t then(Hc n rows.length).bind λj=>k (bK d (.a (.c (.slr new))) (wN new (.arr true t' (rows.take j)) (wN b (.arr false t' (rows++[t'.zero])) s)))else none|_=>none
 |_,_=>none
theorem JNI{t:Ty}{x hi:TV}{d:Option Nat}{new:Nat}{s:TSt}{k:TSt->Option R}{r:R}(hn:new<s.sto.length)(h:rm t x hi d new s k=some r):Ok (LV t.sz (cel t t.zero) new (aX (lns s.sto) x) (aX (lns s.sto) hi)) d s k r:=by
 unfold rm at h;split at h;rename_i b v n;split at h;rename_i t' rows hb;split at h;rename_i ht;subst ht;obtain⟨j,h1,h⟩:=bQ.1 h;unfold Hc at h1;split at h1;rename_i o;injection h1 with h1;subst h1;have e:new<(wN b (.arr false t' (rows++[t'.zero])) s).sto.length:=by simpa[wN]using hn
 refine⟨⟨.slr new 0 n.toNat,[(b,.arr false t'.sz ((rows++[t'.zero]).map (cel t'))),(new,.arr true t'.sz ((rows.take n.toNat).map (cel t')))]⟩,_,?_,?_,h⟩;simp only[gK,e_i,LV,eI,eH,hb,cZ,JE,bF,mJ hb,eQ,true_and,o,and_self,if_true,bP];simp[JSA];have g:=SC new (.arr true t' (rows.take n.toNat)) (wN b (.arr false t' (rows++[t'.zero])) s);rw[SC b (.arr false t' (rows++[t'.zero])) s]at g;have q:aX (lns (wN new (.arr true t' (rows.take n.toNat)) (wN b (.arr false t' (rows++[t'.zero])) s)).sto) (.a (.c (.slr new)))=.slr new 0 n.toNat:=by
  rw[gK,VJ e,uV]
  congr 1
  omega
 rw[<-q];exact rE g d _;cases h1;cases h;cases h;cases h
def sa(t:Ty)(bytes:Nat)(y:TV)(d:Option Nat)(new:Nat)(s:TSt)(k:TSt->Option R):Option R:=
 match tls t y s with
 |some l=>(cI bytes l).bind λm=>k (bK d (.a (.c (.slr new))) (wN new (.arr true t m) s))
 |none=>none
theorem JKp(F:Orc){t:Ty}{bytes:Nat}{z:List PV}{y:TO}{e:TV}{d:Option Nat}{new:Nat}{s:TSt}{k:TSt->Option R}{r:R}(hy:tev y s=some e)(hn:new<s.sto.length)(h:sa t bytes e d new s k=some r):Ok (opR F (.appn t.sz bytes z (erO y)) new) d s k r:=by
 unfold sa at h;split at h;rename_i l hl;obtain⟨m,h1,g⟩:=bQ.1 h;obtain⟨h2,rfl⟩:=JJQ h1;refine gl hn ?_ g;simp only[opR,run_bind,cE hy,JE,gj hl,eQ,h2,if_true,bP];cases h
def tbn(x:Option TO)(s:TSt):Option (Option (IntKind×Int)):=
 match x with
 |none=>some none
 |some o=>match tev o s with|some (.a (.c (.d (.i k) n)))=>some (some (k,n))|_=>none
def bv(x:Option (IntKind×Int)):Option AV:=x.map λy=>.p (.i y.1 y.2)
theorem HY{x:Option TO}{s:TSt}{y:Option (IntKind×Int)}(h:tbn x s=some y):(evo (x.map erO)).run (JC s)=some (bv y):=by
 cases x with
 |none=>injection h with h;subst h;rfl
 |some o=>
  simp only[tbn]at h;split at h;rename_i k n e;injection h with h;subst h;simp only[cZ,evo,run_bind,cE e,JE,bP,bv,e_i];cases h
theorem JQn(x:Option (IntKind×Int))(top d:Nat):pQ (bv x) top d=uU (x.map (·.2)) top d:=by cases x<;>rfl
theorem K8(n:Nat)(lo hi:Option (IntKind×Int)):sI n (bv lo) (bv hi)=sA n (lo.map (·.2)) (hi.map (·.2)):=by
 grind [sI,sA,JQn]
inductive TSK where|str|sl (t:Ty)
def erK:TSK->SK| .str=>.str| .sl t=>.sl t.sz
def qf(t:Ty)(x:TV)(s:TSt)(kk:List t.D->TSt->Option R):Option R:=
 match x with
 | .a (.c (.d (.l t') l))=>if h:t'=t then kk (h▸l) s else none
 | .a (.c (.slr b))=>match s.sto[b]? with|some (.arr _ t' rows)=>if h:t'=t then kk (h▸rows) (wS b (.arr false t' rows) s)else none|_=>none
 |_=>none
theorem JO1{t:Ty}{x:TV}{s:TSt}{kk:List t.D->TSt->Option R}{r:R}(h:qf t x s kk=some r):
  ∃l s' ws,Fzd s s' ws/\kk l s'=some r/\((aX (lns s.sto) x=.p (.sl t.sz (l.map (cel t)))/\ws=[])\/
   ∃b,aX (lns s.sto) x=.slr b 0 l.length/\(fz (.slr b 0 l.length)).run (JC s)=some ([.sl t.sz (l.map (cel t))],ws)):=by
 unfold qf at h;split at h;grind [Fzd.refl,e_l];rename_i b;split at h;rename_i w t' rows hb;split at h;rename_i e;subst e;refine⟨_,_,_,gy hb,h,.inr ⟨b,by rw[gK,mJ hb],?_⟩⟩;simp_all [eH,bF];cases h;cases h;cases h
def uk(e:TSK)(x:TV)(lo hi mx:Option (IntKind×Int))(d:Option Nat)(s:TSt)(k:TSt->Option R):Option R:=
 match e with
 | .str=>match x,mx with| .a (.c (.d .s l)),none=>(bE l (lo.map (·.2)) (hi.map (·.2))).bind λq=>k (bK d (vs q) s)|_,_=>none
 | .sl t=>qf t x s λl s1=>match mx with|none=>(bE l (lo.map (·.2)) (hi.map (·.2))).bind λq=>k (bK d (vl t q) s1)|some (_,n)=>match lo,hi with|none,some (_,h)=>if h=l.length/\n=l.length then k (bK d (.a (.c (.sc t l))) s1)else none|_,_=>none
theorem Mn{α:Type}{l q:List α}{lo hi:Option Int}(h:bE l lo hi=some q): ∃c,sA l.length lo hi=some c/\q=(l.drop c.1).take (c.2-c.1):=by
 grind [bE]
theorem JIK(F:Orc){n:TSK}{x:TO}{j:TV}{lo hi mx:Option TO}{l g m:Option (IntKind×Int)}{d:Option Nat}{new:Nat}{s:TSt}{k:TSt->Option R}{r:R}(hx:tev x s=some j)(hl:tbn lo s=some l)(hh:tbn hi s=some g)(hm:tbn mx s=some m)
  (h:uk n j l g m d s k=some r):Ok (opR F (.slice (erK n) (erO x) (lo.map erO) (hi.map erO) (mx.map erO)) new) d s k r:=by
 unfold uk at h;split at h;split at h;rename_i z;obtain⟨q,h1,h⟩:=bQ.1 h;obtain⟨c,hc,rfl⟩:=Mn h1;refine fY (v:=vs _) ?_ h;have o:bv none=none:=rfl;simp only[opR,run_bind,cE hx,HY hl,HY hh,HY hm,JE,e_s,erK,o,lN,yU,val,K8,hc,bP];cases h;rename_i t;obtain⟨y,s1,ws,f,h,B⟩:=JO1 h;have e: ∀(res:AV),lN (.sl t.sz) (.p (.sl t.sz (y.map (cel t)))) (bv l) (bv g) (bv m)=some res->
   (opR F (.slice (erK (.sl t)) (erO x) (lo.map erO) (hi.map erO) (mx.map erO)) new).run (JC s)=some ⟨res,ws⟩:=by
  intro res A;simp only[opR,run_bind,cE hx,HY hl,HY hh,HY hm,JE,erK];grind [val,bP,run_bind]
 split at h;obtain⟨q,h2,h⟩:=bQ.1 h;obtain⟨c,hc,rfl⟩:=Mn h2;refine uj (v:=vl t _) f (e _ ?_) h;grind [bv,lN,yR,K8,e_l,List.map_take,List.map_drop];split at h;split at h;rename_i w;refine uj (v:=.a (.c (.sc t y))) f (e _ ?_) h;simp only[bv,Option.map_none,cZ,lN,SH,eQ,w,and_self,if_true];rfl;cases h;cases h
end
end Go.Am
end
section
namespace Go.Am
section
variable {R:Type}
def ZO(t:Ty):List (Nat×TO)->TSt->TSt->(List (Nat×t.D)->TSt->Option R)->Option R|[],_,s,k=>k [] s|(i,o)::r,s0,s,k=>match tev o s0 with|some v=>tfz t v s λz s'=>ZO t r s0 s' λl e=>k ((i,z)::l) e|none=>none
theorem Ny{t:Ty}: ∀{parts:List (Nat×TO)} {s0 s:TSt} {w0:List (Nat×Blk)} {k:List (Nat×t.D)->TSt->Option R} {r:R},Fzd s0 s w0->ZO t parts s0 s k=some r->
  ∃l s' ws,(fzs (parts.map λx=>erO x.2)).run (JC s0)=some (l.map λx=>cel t x.2,ws)/\Fzd s0 s' (w0++ws)/\l.map (·.1)=parts.map (·.1)/\k l s'=some r
 |[],s0,s,w0,k,r,f,h=>⟨[],s,[],rfl,by simp_all,rfl,h⟩
 |(i,o)::q,s0,s,w0,k,r,f,h=>by
  simp only[ZO]at h;split at h;rename_i v w;obtain⟨z,s1,j,h1,e,h⟩:=Kg f h;obtain⟨l,g,y,h2,A,n,h⟩:=Ny e h;refine⟨(i,z)::l,g,j++y,?_,by simp_all,by simp[n],h⟩;simp only[cN,fzs,run_bind,cE w,JE,h1,h2,bP];cases h
def UH{α:Type}:List (Nat×α)->List α->Option (List α)|[],rows=>some rows|(i,c)::r,rows=>if i<rows.length then UH r (rows.set i c)else none
theorem ye{t:Ty}: ∀{l:List (Nat×t.D)} {rows rows':List t.D},UH l rows=some rows'->
  CX t.sz ((l.map (·.1)).zip (l.map λx=>cel t x.2)) (rows.map (cel t))=some (rows'.map (cel t))/\rows'.length=rows.length
 |[],rows,rows',h=>by injection h with h;simp_all
 |(i,c)::q,rows,rows',h=>by
  simp only[UH]at h;split at h;rename_i e;obtain⟨h1,h2⟩:=ye h;simp_all [eK];cases h
def sy(own:Bool)(t:Ty)(n:Nat)(parts:List (Nat×TO))(d:Option Nat)(new:Nat)(s:TSt)(k:TSt->Option R):Option R:=
 ZO t parts s s λl s1=>match UH l (List.replicate n t.zero)with|some rows=>if own=true then k (bK d (.a (.c (.slr new))) (wN new (.arr true t rows) s1))else k (bK d (vl t rows) s1)|none=>none
theorem JKE(F:Orc){own:Bool}{t:Ty}{n:Nat}{parts:List (Nat×TO)}{d:Option Nat}{new:Nat}{s:TSt}{k:TSt->Option R}{r:R}(hn:own=true->new<s.sto.length)
  (h:sy own t n parts d new s k=some r):Ok (opR F (.lits own t.sz n (cel t t.zero) (parts.map λx=>(x.1,erO x.2))) new) d s k r:=by
 unfold sy at h;obtain⟨l,s1,ws,h1,f,h2,e⟩:=Ny (Fzd.refl s) h;rw[sH]at f;clear h;split at e;rename_i rows hp;obtain⟨j,o⟩:=ye hp;rw[dk]at o;rw[ZT]at j;have y:(parts.map λx=>(x.1,erO x.2)).map (·.2)=parts.map λx=>erO x.2:=by simp
 have w:(parts.map λx=>(x.1,erO x.2)).map (·.1)=l.map (·.1):=by rw[h2];simp
 split at e;rename_i g;subst g;have q:new<s1.sto.length:=(by have:=congrArg (λst=>st.sto.length) f.2.2.1;grind [JC,CU]);refine⟨⟨aX (lns (wN new (.arr true t rows) s1).sto) (.a (.c (.slr new))),ws++[(new,.arr true t.sz (rows.map (cel t)))]⟩,_,?_,rE ?_ d _,e⟩;grind [gK,VJ,opR,run_bind,bP];rw[SC,f.2.2.1,fH];rfl;rename_i g;have:own=false:=by simpa using g
 subst this;refine uj (v:=vl t rows) f ?_ e;grind [opR,run_bind,bP,e_l];cases e
def oZ(s:TSt):Nat->Nat->Bool
 |_,0=>true
 |new,k+1=>(match s.sto[new]? with
  |some .dead=>true
  |_=>false)&&oZ s (new+1) k
theorem O3{s:TSt}: ∀{k new:Nat},oZ s new k=true->(vG new k).run (JC s)=some ()
 |0,_,_=>rfl
 |k+1,new,h=>by
  simp only[oZ,aY]at h;obtain⟨h1,h2⟩:=h;split at h1;rename_i hd;simp only[vG,eI,eH,hd,cZ,JE,bF];exact O3 h2;cases h1
theorem zB{s:TSt}: ∀{k new:Nat},oZ s new k=true-> ∀j,j<k->s.sto[new+j]?=some .dead
 |0,_,_,j,hj=>by omega
 |k+1,new,h,j,hj=>by
  simp only[oZ,aY]at h;obtain⟨h1,h2⟩:=h;cases j with
  |zero=>
   grind
  |succ j=>
   have:=zB h2 j (by omega);grind
theorem g6{m:RM Eff}{d:Option Nat}{s:TSt}{k:TSt->Option R}{r:R}{new:Nat}{x:TB}(hd:s.sto[new]?=some .dead)(h0:lnB x=0)
  (hm:m.run (JC s)=some ⟨.ptr new 0,[(new,bF (lns s.sto) x)]⟩) (h:k (bK d (.a (.c (.ptr new []))) (wS new x s))=some r):Ok m d s k r:=by
 refine MP (x:=x) (v:=.a (.c (.ptr new []))) (h0.trans (CY hd).symm) ?_ h;rw[hm];rfl
def Nv(t:Ty)(d:Option Nat)(new:Nat)(s:TSt)(k:TSt->Option R):Option R:=k (bK d (.a (.c (.ptr new []))) (wS new (.box t t.zero) s))
theorem JFP(F:Orc){t:Ty}{d:Option Nat}{new:Nat}{s:TSt}{k:TSt->Option R}{r:R}(hd:s.sto[new]?=some .dead)(h:Nv t d new s k=some r):Ok (opR F (.newbox (cel t t.zero)) new) d s k r:=
 g6 hd (x:=.box t t.zero) rfl rfl h
def pz(t:Ty)(x:TV)(d:Option Nat)(new:Nat)(s:TSt)(k:TSt->Option R):Option R:=
 match tdv t x with
 |some z=>if agv x=true\/t.sz=1 then k (bK d (.a (.c (.ptr new []))) (wS new (.box t z) s))else none
 |none=>match tcs x with|some cs=>if cs.length=t.sz then k (bK d (.a (.c (.ptr new []))) (wS new (.mbox t cs) s))else none|none=>none
theorem JMU(F:Orc){t:Ty}{x:TO}{v:TV}{d:Option Nat}{new:Nat}{s:TSt}{k:TSt->Option R}{r:R}(hd:s.sto[new]?=some .dead)(hx:tev x s=some v)(h:pz t v d new s k=some r):Ok (opR F (.box t.sz (erO x)) new) d s k r:=by
 unfold pz at h;split at h;rename_i z j;split at h;rename_i e;refine g6 hd (x:=.box t z) rfl ?_ h;simp only[opR,run_bind,cE hx,JE,lb (lns s.sto) j e,eQ,eK,if_true,bP,bF];cases h;split at h;rename_i cs hc;split at h;rename_i g;refine g6 hd (x:=.mbox t cs) rfl ?_ h;simp only[opR,run_bind,cE hx,JE,NW (lns s.sto) hc,eQ,g,if_true,bP,bF];cases h;cases h
def qW:List (Nat×Ty)->Nat->TSt->TSt|[],_,s=>s|(_,t)::r,n,s=>qW r (n+1) (wS n (.arr true t []) s)
def BD:List (Nat×Ty)->Nat->List TC->List TC|[],_,cs=>cs|(off,_)::r,n,cs=>BD r (n+1) (cs.set off (.slr n))
def mA(os:List (Nat×Ty)):List (Nat×Nat):=os.map λx=>(x.1,x.2.sz)
theorem j5: ∀{os:List (Nat×Ty)} {new:Nat} {s:TSt},(∀j,j<os.length->s.sto[new+j]?=some .dead)->
  lns (qW os new s).sto=lns s.sto/\JC (qW os new s)=⟨(JC s).env,upd (iF (mA os) new) (JC s).sto⟩/\(∀b,(∀j,j<os.length->b≠new+j)->(qW os new s).sto[b]?=s.sto[b]?)
 |[],_,s,_=>⟨rfl,rfl,λ_ _=>rfl⟩
 |(off,t)::q,new,s,h=>by
  have hd:s.sto[new]?=some .dead:=h 0 (by simp);have hl:lnB (.arr true t [])=lns s.sto new:=(CY hd).symm;have e:=IB hl;have g: ∀c,c≠new->(wS new (.arr true t []) s).sto[c]?=s.sto[c]?:=λc hc=>by grind [wS]
  obtain⟨h1,h2,n⟩:=j5 (os:=q) (new:=new+1) (s:=wS new (.arr true t []) s) (λj k=>by
   rw[g _ (by omega)];have:=h (j+1) (by simp;omega);grind)
  refine⟨h1.trans e,?_,λb hb=>?_⟩;simp only[qW];rw[h2,BO hl];simp only[mA,cN,iF];rfl;simp only[qW];rw[n b (λj k=>by have:=hb (j+1) (by simp;omega);omega),g b (by have:=hb 0 (by simp);omega)]
theorem iz{L:Nat->Nat}: ∀{os:List (Nat×Ty)} {new:Nat} {cs:List TC},(∀j,j<os.length->L (new+j)=0)->(BD os new cs).map (bG L)=nI (mA os) new (cs.map (bG L))
 |[],_,_,_=>rfl
 |(off,t)::q,new,cs,h=>by
  simp only[BD,mA,cN,nI];rw[iz (os:=q) (new:=new+1) (λj e=>by have:=h (j+1) (by simp;omega);grind),List.map_set];have:bG L (.slr new)=.slr new 0 0:=by simp only[bG];rw[show L new=0 from h 0 (by simp)]
  rw[this];rfl
def kg(t:Ty)(os:List (Nat×Ty))(d:Option Nat)(new:Nat)(s:TSt)(k:TSt->Option R):Option R:=k (bK d (.a (.c (.ptr (new+os.length) []))) (wS (new+os.length) (.mbox t (BD os new (zcs t))) (qW os new s)))
theorem JDg(F:Orc){t:Ty}{os:List (Nat×Ty)}{d:Option Nat}{new:Nat}{s:TSt}{k:TSt->Option R}{r:R}(hd:oZ s new (os.length+1)=true)(h:kg t os d new s k=some r):
  Ok (opR F (.newboxo (cel t t.zero) (mA os)) new) d s k r:=by
 unfold kg at h;generalize hc:zcs t=cs at h;have g:=zB hd;obtain⟨h1,h2,o⟩:=j5 (os:=os) (new:=new) (s:=s) (λj n=>g j (by omega));have hl:lnB (.mbox t (BD os new cs))=lns (qW os new s).sto (new+os.length):=by rw[h1,CY (g os.length (by omega))];rfl
 have e:=IB hl;have el:(mA os).length=os.length:=by simp[mA]
 refine⟨⟨aX (lns (wS (new+os.length) (.mbox t (BD os new cs)) (qW os new s)).sto) (.a (.c (.ptr (new+os.length) []))),iF (mA os) new++[(new+os.length,.box (nI (mA os) new ((cel t t.zero).map .p)))]⟩,_,?_,rE ?_ d _,h⟩;simp only[opR,bP,el];rfl;rw[BO hl,h2,fH];simp only[bF];rw[iz (λj n=>by rw[h1];grind [CY]),<-hc,HZ];rfl
def iw(t:Ty)(parts:List (Nat×Ty×TO))(os:List (Nat×Ty))(d:Option Nat)(new:Nat)(s:TSt)(k:TSt->Option R):Option R:=
 match tpc parts s with
 |some l=>match MC l (BD os new (zcs t))with
  |some cs'=>match mka true t cs' with|some v=>k (bK d v (qW os new s))|none=>none
  |none=>none
 |none=>none
theorem JFK(F:Orc){t:Ty}{parts:List (Nat×Ty×TO)}{os:List (Nat×Ty)}{d:Option Nat}{new:Nat}{s:TSt}{k:TSt->Option R}{r:R}(hd:oZ s new os.length=true)(h:iw t parts os d new s k=some r):
  Ok (opR F (.buildo (cel t t.zero) (erP parts) (mA os)) new) d s k r:=by
 unfold iw at h;split at h;rename_i l hl;have e:=zB hd;obtain⟨h1,h2,q⟩:=j5 (os:=os) (new:=new) (s:=s) (λj n=>e j (by omega));split at h;rename_i cs' hf;split at h;rename_i v w;refine⟨⟨aX (lns (qW os new s).sto) v,iF (mA os) new⟩,_,?_,rE h2 d _,h⟩;have g:=iz (L:=lns s.sto) (os:=os) (new:=new) (cs:=zcs t) (λj n=>CY (e j (by omega)));rw[HZ]at g;have o:=kl (lns s.sto) hf;grind [opR,run_bind,uy,HX,bP];cases h;cases h;cases h
def Kc(t:Ty)(d:Option Nat)(new:Nat)(s:TSt)(k:TSt->Option R):Option R:=k (bK d (.a (.c (.slr new))) (wN new (.arr true t []) s))
theorem JI2(F:Orc){t:Ty}{x:Opd}{d:Option Nat}{new:Nat}{s:TSt}{k:TSt->Option R}{r:R}(hn:new<s.sto.length)(h:Kc t d new s k=some r):Ok (opR F (.mkarr t.sz x) new) d s k r:=
 gl (rows:=[]) hn rfl h
def tyB:Option TB->Ty|some (.box t _)=>t|some (.mbox t _)=>t|_=>.u
def il(t:Ty)(x:TV)(d:Option Nat)(new:Nat)(s:TSt)(k:TSt->Option R):Option R:=
 match x with
 | .a (.c (.ptr b p))=>match uP p,(match s.sto[b]? with
   |some (.box e y)=>BE e y
   |some (.mbox _ cs)=>some cs
   |_=>none)with
  |some off,some cs=>match spl cs off [.slr new]with|some cs'=>k (bK d uv (wS b (.mbox (tyB s.sto[b]?) cs') (wS new (.arr true t []) s)))|none=>none
  |_,_=>none
 |_=>none
theorem JFI(F:Orc){t:Ty}{x:TO}{v:TV}{d:Option Nat}{new:Nat}{s:TSt}{k:TSt->Option R}{r:R}(hd:s.sto[new]?=some .dead)(hx:tev x s=some v)(h:il t v d new s k=some r):Ok (opR F (.storen t.sz (erO x)) new) d s k r:=by
 unfold il at h;split at h;rename_i b p;split at h;rename_i off cs z hc;split at h;rename_i cs' hs;have hl:lnB (.arr true t [])=lns s.sto new:=(CY hd).symm;have j:b≠new/\lns s.sto b=0/\(JC s).sto[b]?=some (.box (cs.map (bG (lns s.sto)))):=(by split at hc;rename_i w y hb;refine⟨λe=>?_,US hb,?_⟩;simp_all;rw[eH,hb,OC _ hc];rfl;rename_i w C hb;injection hc with hc;subst hc;refine⟨λe=>?_,wv hb,?_⟩;simp_all;rw[eH,hb];rfl;cases hc);obtain⟨B,o,hb⟩:=j;have n:=IB hl;have g:lnB (.mbox (tyB s.sto[b]?) cs')=lns (wS new (.arr true t []) s).sto b:=by rw[n,o];rfl
 refine⟨⟨aX (lns (wS b (.mbox (tyB s.sto[b]?) cs') (wS new (.arr true t []) s)).sto) uv,(new,.arr true t.sz [])::[(b,.box (cs'.map (bG (lns s.sto))))]⟩,_,?_,rE ?_ d _,h⟩;have q:bG (lns s.sto) (.slr new)=.slr new 0 0:=by grind [bG,CY]
 have A:spl (cs.map (bG (lns s.sto))) (spo p) [.slr new 0 0]=some (cs'.map (bG (lns s.sto))):=by rw[<-q,HT z];have:=IS (bG (lns s.sto)) cs off [TC.slr new];simp_all
 simp only[opR,run_bind,cE hx,JE,lK,iV,eI,hb,cellsOf,xG,List.length_nil,qN,if_true,A,bP];rfl;rw[BO g,BO hl,n];rfl;cases h;cases h;cases h
def tm(c:Bool)(a b:Option TV)(kk:TV->Option R):Option R:=
 match a,b with
 |some (.a (.c (.d t x))),some (.a (.c (.d t' y)))=>if h:t'=t then kk (.a (.c (.d t (JSm c x (h▸y)))))else none
 |some x,some y=>if c=true then kk x else kk y
 |some x,none=>if c=true then kk x else none
 |none,some y=>if c=true then none else kk y
 |none,none=>none
theorem JM5(F:Orc){c a b:TO}{x:Bool}{d:Option Nat}{new:Nat}{s:TSt}{k:TSt->Option R}{r:R}(hc:tev c s=some (vb x))(h:tm x (tev a s) (tev b s) (λv=>k (bK d v s))=some r):Ok (opR F (.pick (erO c) (erO a) (erO b)) new) d s k r:=by
 have e: ∃v,(if x=true then tev a s else tev b s)=some v/\k (bK d v s)=some r:=by
  unfold tm at h;split at h;rename_i t y t' z j hb;split at h;rename_i g;subst g;refine⟨_,?_,h⟩;rw[j,hb];cases x<;>rfl
  cases h
  all_goals grind
 obtain⟨v,h1,h2⟩:=e;refine fY (v:=v) ?_ h2;simp only[opR,run_bind,cE hc,JE,e_b];grind [run_bind,cE,bP]
def tcl:List TO->TSt->Option (List TC)
 |[],_=>some []
 |o::r,s=>match tev o s with
  |some (.a (.c x))=>match tcl r s with|some l=>some (x::l)|none=>none
  |_=>none
theorem Kw{s:TSt}: ∀{xs:List TO} {l:List TC},tcl xs s=some l->(evs (xs.map erO)).run (JC s)=some (l.map (bG (lns s.sto)))
 |[],l,h=>by injection h with h;subst h;rfl
 |o::q,l,h=>by
  simp only[tcl]at h;split at h;rename_i x e;split at h;rename_i l' hl;injection h with h;subst h;simp only[cN,evs,run_bind,cE e,JE,Kw hl,bP];rfl;cases h;cases h
def ri(x:TV)(kk:TV->Option R):Option R:=
 match x with
 | .a (.c (.ptr b p))=>kk (.a (.c (.ptr b p)))
 | .a (.c (.cp t y p))=>kk (.a (.c (.cp t y p)))
 | .a (.c (.ep b i p))=>kk (.a (.c (.ep b i p)))
 | .a (.fn f a c)=>kk (.a (.fn f a c))
 | .a (.c (.fn f))=>kk (.a (.c (.fn f)))
 |_=>none
theorem JMY(F:Orc){x:TO}{v:TV}{d:Option Nat}{new:Nat}{s:TSt}{k:TSt->Option R}{r:R}(hx:tev x s=some v)(h:ri v (λv=>k (bK d v s))=some r):Ok (opR F (.nilchk (erO x)) new) d s k r:=by
 unfold ri at h;split at h<;>first
  |(refine fY (v:=_) ?_ h
    simp only[opR,run_bind,cE hx,JE,lK,nB,nH,rl,Ij,bP];done)
  |cases h
end
end Go.Am
end
section
namespace Go.Am
section
variable {R:Type}
def py(keep:Bool)(v:TV)(s:TSt)(kk:TA->TSt->Option R):Option R:=
 match v with
 | .a x=>if keep=true then kk x s else
  match x with
  | .c (.slr b)=>match s.sto[b]? with|some (.arr _ t' rows)=>kk (.c (.d (.l t') rows)) (wS b (.arr false t' rows) s)|_=>none
  | .c (.slo _ _)=>none
  | .c (.suf _ _)=>none
  | .c (.suo _ _ _)=>none
  | .m t cs=>fzC t cs s λx s'=>kk (.dt t x) s'
  |x=>kk x s
 | .tup _=>none
def ME:List (TV×Bool)->TSt->(List TA->TSt->Option R)->Option R|[],s,kk=>kk [] s|(v,keep)::r,s,kk=>py keep v s λx s=>ME r s λl s=>kk (x::l) s
theorem JNU{keep:Bool}{v:TV}{s0 s:TSt}{w0:List (Nat×Blk)}{kk:TA->TSt->Option R}{r:R}(f:Fzd s0 s w0)(h:py keep v s kk=some r):
  ∃x s' ws,(if keep=true then RM.ret (aX (lns s0.sto) v,[])else jS (aX (lns s0.sto) v)).run (JC s0)=some (bX (lns s0.sto) x,ws)/\Fzd s0 s' (w0++ws)/\kk x s'=some r:=by
 unfold py at h;split at h;rename_i x;split at h;rename_i g;subst g;exact⟨x,s,[],rfl,by simp_all,h⟩;rename_i g;have:keep=false:=by simpa using g
 subst this;simp only[fF,if_false];split at h;rename_i b;split at h;rename_i w t' rows hb;obtain⟨w',e⟩:=f.2.2.2.1 b _ rows w hb;refine⟨_,_,[(b,.arr false t'.sz (rows.map (cel t')))],?_,f.trans (gy hb),h⟩;simp only[gK,jS,fz,run_bind,eI,eH,e,cZ,JE,bF,mJ e,eQ,qN,if_true,GN,bP];rfl;cases h;cases h;cases h;cases h;obtain⟨y,s',ws,h1,h2,j⟩:=OA f h;refine⟨_,s',ws,?_,h2,j⟩;simp only[e_m,jS,fz,run_bind,h1,JE,bP];rfl;rename_i z A o q k;refine⟨x,s,[],?_,by simp_all,h⟩;cases x with
 |c x=>
  cases x with
  |slr b=>simp_all
  |slo b n=>simp_all
  |suf b i=>simp_all
  |suo b i n=>simp_all
  |_=>rfl
 |m t cs=>simp_all
 |_=>rfl
 cases h
theorem j7: ∀{vs:List (TV×Bool)} {s0 s:TSt} {w0:List (Nat×Blk)} {kk:List TA->TSt->Option R} {r:R},Fzd s0 s w0->ME vs s kk=some r->
  ∃xs s' ws,(fO (vs.map (·.2)) (vs.map λx=>aX (lns s0.sto) x.1)).run (JC s0)=some (xs.map (bX (lns s0.sto)),ws)/\Fzd s0 s' (w0++ws)/\kk xs s'=some r
 |[],s0,s,w0,kk,r,f,h=>⟨[],s,[],rfl,by simp_all,h⟩
 |(v,keep)::q,s0,s,w0,kk,r,f,h=>by simp only[ME]at h;obtain⟨x,s1,j,h1,e,h⟩:=JNU f h;obtain⟨xs,g,k,h2,n,h⟩:=j7 e h;refine⟨x::xs,g,j++k,?_,by simp_all,h⟩;cases keep<;>simp_all [fO]
theorem XF: ∀(vs:List AV),fO [] vs=kZ vs|[]=>rfl|x::r=>by simp only[fO,kZ,XF r]
theorem PP: ∀(m:List Bool) (vs:List AV),(∀x∈m,x=false)->fO m vs=kZ vs|[],vs,_=>XF vs|b::m,[],_=>rfl|b::m,x::r,h=>by have:b=false:=h b (by simp);subst this;simp only[fO,kZ,PP m r (λx e=>h x (by simp[e]))]
def LH(b:Nat)(l:List Nat):List Nat:=if l.any (λx=>x==b)=true then l else l++[b]
def SZ(x:TC)(l:List Nat):Option (List Nat):=
 match x with
 | .ptr b _=>some (LH b l)
 | .slr b=>some (LH b l)
 | .slo b _=>some (LH b l)
 | .ep _ _ _=>none
 | .epo _ _ _ _=>none
 | .suf _ _=>none
 | .suo _ _ _=>none
 |_=>some l
def xW:List TC->List Nat->Option (List Nat)|[],l=>some l|x::r,l=>match SZ x l with|some l=>xW r l|none=>none
def ud(x:TA)(l:List Nat):Option (List Nat):=
 match x with
 | .c x=>SZ x l
 | .dt _ _=>some l
 | .m _ cs=>xW cs l
 | .fn _ a c=>match xW a l with|some l=>xW c l|none=>none
def HW:List TA->List Nat->Option (List Nat)|[],l=>some l|x::r,l=>match ud x l with|some l=>HW r l|none=>none
def yM(s:TSt):List Nat->List Nat->Option (List Nat)
 |[],acc=>some acc
 |b::r,acc=>match s.sto[b]? with
  |some (.mbox _ cs)=>match xW cs acc with|some acc=>yM s r acc|none=>none
  |some _=>yM s r acc
  |none=>none
theorem JC3(b:Nat)(l:List Nat):yS (.whole b) (l.map .whole)=(LH b l).map .whole:=by
 grind [yS,LH]
section
variable (L:Nat->Nat)
theorem xm{x:TC}{l l':List Nat}(h:SZ x l=some l'):cX (bG L x) (l.map .whole)=l'.map .whole:=by
 unfold SZ at h;split at h<;>first
  |(injection h with h;subst h;simp only[bG,cX,JC3];done)
  |(cases h;done)
  |skip
 injection h with h;subst h;rename_i o q r v k g j;cases x with
 |ptr b p=>simp_all
 |slr b=>simp_all
 |slo b n=>simp_all
 |ep b i p=>simp_all
 |epo b e i p=>grind
 |suf b i=>grind
 |suo b i n=>grind
 |_=>rfl
theorem OX: ∀{xs:List TC} {l l':List Nat},xW xs l=some l'->cX.entsOfL (xs.map (bG L)) (l.map .whole)=l'.map .whole
 |[],l,l',h=>by injection h with h;subst h;rfl
 |x::r,l,l',h=>by
  simp only[xW]at h;split at h;rename_i e h1;simp only[cN,cX.entsOfL,xm L h1];exact OX h;cases h
theorem JLo{x:TA}{l l':List Nat}(h:ud x l=some l'):cX (bX L x) (l.map .whole)=l'.map .whole:=by
 cases x with
 |c x=>exact xm L h
 |dt t x=>injection h with h;subst h;rfl
 |m t cs=>exact OX L h
 |fn f a c=>
  simp only[ud]at h;split at h
  all_goals simp_all [bX,OX]
theorem WV: ∀{xs:List TA} {l l':List Nat},HW xs l=some l'->cX.entsOfL (xs.map (bX L)) (l.map .whole)=l'.map .whole
 |[],l,l',h=>by injection h with h;subst h;rfl
 |x::r,l,l',h=>by
  simp only[HW]at h;split at h;rename_i e h1;simp only[cN,cX.entsOfL,JLo L h1];exact WV h;cases h
end
theorem jw{s0 s1:TSt}{ws:List (Nat×Blk)}(f:Fzd s0 s1 ws){b:Nat}{y:TB}(h:s1.sto[b]?=some y):(sC ws b).run (JC s0)=some (bF (lns s0.sto) y):=by
 have h1:(JC s1).sto[b]?=some (bF (lns s0.sto) y):=by rw[eH,h,f.2.1];rfl
 rw[f.2.2.1]at h1;grind [CU,yV,sC,eI,bP]
theorem DA{s0 s1:TSt}{ws:List (Nat×Blk)}(f:Fzd s0 s1 ws): ∀{r acc l:List Nat},yM s1 r acc=some l->(eJ ws (r.map .whole) (acc.map .whole)).run (JC s0)=some (l.map .whole)
 |[],acc,l,h=>by injection h with h;subst h;rfl
 |b::r,acc,l,h=>by
  simp only[yM]at h;split at h;rename_i cs hb;split at h;rename_i e g;simp only[cN,eJ,run_bind,jw f hb,JE,bF,OX (lns s0.sto) g];exact DA f h;cases h;rename_i x j hb;simp only[cN,eJ,run_bind,jw f hb,JE];cases x with
  |mbox t cs=>simp_all
  |box t x=>simp only[bF];rw[yb];exact DA f h
  |_=>exact DA f h
  cases h
end
end Go.Am
end
section
namespace Go.Am
def kCs(K:List Nat)(L:Nat->Nat):TC->TC| .slr c=>if K.any (λx=>x==c)=true then .slo c (L c)else .slr c| .ep c i p=>if K.any (λx=>x==c)=true then .epo c (L c) i p else .ep c i p| .pre c k=>if K.any (λx=>x==c)=true then .pro c (L c) k else .pre c k| .suf c i=>if K.any (λx=>x==c)=true then .suo c (min i (L c)) (L c-i)else .suf c i|x=>x
def kAs(K:List Nat)(L:Nat->Nat):TA->TA| .c x=>.c (kCs K L x)| .dt t x=>.dt t x| .m t cs=>.m t (cs.map (kCs K L))| .fn f a c=>.fn f (a.map (kCs K L)) (c.map (kCs K L))
def kVs(K:List Nat)(L:Nat->Nat):TV->TV| .a x=>.a (kAs K L x)| .tup vs=>.tup (vs.map (kAs K L))
def kBs(K:List Nat)(L:Nat->Nat):TB->TB| .mbox t cs=>.mbox t (cs.map (kCs K L))|x=>x
section
variable {K:List Nat} {L L':Nat->Nat} (h: ∀c,K.any (λx=>x==c)=false->L' c=L c)
include h
theorem Hw(x:TC):bG L' (kCs K L x)=bG L x:=by cases x<;>grind [kCs,bG]
theorem I2(xs:List TC):(xs.map (kCs K L)).map (bG L')=xs.map (bG L):=by
 grind [List.map_congr_left,Hw]
theorem JSv(x:TA):bX L' (kAs K L x)=bX L x:=by cases x<;>simp only[kAs,bX,Hw h,I2 h]
theorem JSK(x:TV):aX L' (kVs K L x)=aX L x:=by cases x<;>simp only[kVs,aX,JSv h,GC,Function.comp_def]
theorem JSp(x:TB):bF L' (kBs K L x)=bF L x:=by cases x<;>simp only[kBs,bF,I2 h]
end
theorem JOe(K:List Nat)(L:Nat->Nat)(x:TB):lnB (kBs K L x)=lnB x:=by cases x<;>rfl
theorem JNT(sto:List TB)(K:List Nat)(L:Nat->Nat)(c:Nat):lns (sto.map (kBs K L)) c=lns sto c:=by
 unfold lns;rw[iB];cases sto[c]? with
 |none=>rfl
 |some x=>exact JOe K L x
def xE(ws:List (Nat×Bool×TB))(sto:List TB):List TB:=ws.foldl (λσ x=>σ.set x.1 x.2.2) sto
def oO(ws:List (Nat×Bool×TB))(s:TSt):TSt:=
 match ws with
 |[]=>s
 |ws=>
  let K:=(ws.filter λx=> !x.2.1).map (·.1)
  ⟨s.env.map λy=>(y.1,kVs K (lns s.sto) y.2),xE ws (s.sto.map (kBs K (lns s.sto)))⟩
theorem kp: ∀{ws:List (Nat×Bool×TB)} {sto:List TB} {c:Nat},c∉ws.map (·.1)->(xE ws sto)[c]?=sto[c]?|[],_,_,_=>rfl|x::ws,sto,c,h=>by simp only[cN,cV,not_or]at h;show(xE ws (sto.set x.1 x.2.2))[c]?=_;rw[kp h.2,ZE (λe=>h.1 e.symm)]
theorem M6: ∀{ws:List (Nat×Bool×TB)} {sto:List TB},(ws.map (·.1)).Nodup-> ∀x∈ws,x.1<sto.length->(xE ws sto)[x.1]?=some x.2.2
 |[],_,_,x,e,_=>by cases e
 |y::ws,sto,g,x,e,hl=>by
  simp only[cN,List.nodup_cons]at g;show(xE ws (sto.set y.1 y.2.2))[x.1]?=_;rcases cV.1 e with rfl|e;grind [kp];exact M6 g.2 x e (by simpa using hl)
theorem wk(f:TB->Blk): ∀(ws:List (Nat×Bool×TB)) (sto:List TB),(xE ws sto).map f=upd (ws.map λx=>(x.1,f x.2.2)) (sto.map f)
 |[],_=>rfl
 |x::ws,sto=>by show(xE ws (sto.set x.1 x.2.2)).map f=upd (ws.map λx=>(x.1,f x.2.2)) ((sto.map f).set x.1 (f x.2.2));rw[wk f ws,List.map_set]
theorem JOi{ws:List (Nat×Bool×TB)}{s:TSt}(hn:(ws.map (·.1)).Nodup)(hl: ∀x∈ws,x.1<s.sto.length)(hf: ∀x∈ws,x.2.1=true->lnB x.2.2=lns s.sto x.1):
  JC (oO ws s)=⟨(JC s).env,upd (ws.map λx=>(x.1,bF (lns (oO ws s).sto) x.2.2)) (JC s).sto⟩/\ ∀x∈ws,lns (oO ws s).sto x.1=lnB x.2.2:=by
 cases ws with
 |nil=>exact⟨rfl,λx g=>by cases g⟩
 |cons x0 j=>
  generalize k:x0::j=ws at*;have e:oO ws s=⟨s.env.map λy=>(y.1,kVs ((ws.filter λx=> !x.2.1).map (·.1)) (lns s.sto) y.2),xE ws (s.sto.map (kBs ((ws.filter λx=> !x.2.1).map (·.1)) (lns s.sto)))⟩:=by subst k;rfl
  have h: ∀x∈ws,lns (oO ws s).sto x.1=lnB x.2.2:=λx g=>by rw[e];unfold lns;rw[M6 hn x g (by grind)];rfl
  have o: ∀c,((ws.filter λx=> !x.2.1).map (·.1)).any (λx=>x==c)=false->lns (oO ws s).sto c=lns s.sto c:=(by intro c hc;by_cases n:c∈ws.map (·.1);obtain⟨x,g,rfl⟩:=oM.1 n;grind;rw[e];have:=JNT s.sto ((ws.filter λx=> !x.2.1).map (·.1)) (lns s.sto) c;grind [lns,kp]);refine⟨?_,h⟩;generalize hL:lns (oO ws s).sto=L' at*;unfold JC;rw[hL,e];grind [fV,List.map_congr_left,JSK,wk,JSp]
theorem M2(b:Nat): ∀(ids:List Nat) (k:Nat),dN (.whole b) (ids.map .whole) k=eY b ids k
 |[],_=>rfl
 |x::r,k=>by
  simp only[cN,dN,eY];by_cases h:x=b;subst h;simp;simp[h,M2 b r (k+1)]
def TJ(ids:List Nat):TC->Option TC| .ptr b p=>(eY b ids 0).bind λk=>some (.ptr k p)| .slr b=>(eY b ids 0).bind λk=>some (.slr k)| .slo b n=>(eY b ids 0).bind λk=>some (.slo k n)| .ep _ _ _=>none| .epo _ _ _ _=>none| .pre _ _=>none| .pro _ _ _=>none| .suf _ _=>none| .suo _ _ _=>none|x=>some x
def BY(ids:List Nat):List TC->Option (List TC)|[]=>some []|x::r=>match TJ ids x,BY ids r with|some y,some l=>some (y::l)|_,_=>none
def MZ(ids:List Nat):TA->Option TA
 | .c x=>match TJ ids x with|some y=>some (.c y)|none=>none
 | .dt t x=>some (.dt t x)
 | .m t cs=>match BY ids cs with|some l=>some (.m t l)|none=>none
 | .fn f a c=>match BY ids a,BY ids c with|some a,some c=>some (.fn f a c)|_,_=>none
def UD(ids:List Nat):List TA->Option (List TA)|[]=>some []|x::r=>match MZ ids x,UD ids r with|some y,some l=>some (y::l)|_,_=>none
def uh(ids:List Nat):TB->Option TB
 | .box t x=>some (.box t x)
 | .mbox t cs=>match BY ids cs with|some l=>some (.mbox t l)|none=>none
 | .arr w t rows=>some (.arr w t rows)
 | .dead=>none
def zA(ids:List Nat)(s:TSt):List Nat->Option (List TB)
 |[]=>some []
 |b::r=>match s.sto[b]? with
  |some x=>match uh ids x,zA ids s r with|some y,some l=>some (y::l)|_,_=>none
  |none=>none
section
variable {ids:List Nat} {L L':Nat->Nat} (hL: ∀b k,eY b ids 0=some k->L' k=L b)
include hL
theorem O5{x y:TC}(h:TJ ids x=some y):ren (λe=>dN e (ids.map .whole) 0) (bG L x)=some (bG L' y):=by
 cases x<;>simp only[TJ]at h<;>first
  |(obtain⟨k,g,h⟩:=bQ.1 h
    injection h with h;subst h;simp only[bG,ren,M2,g,cZ]
    try rw[hL _ _ g]
    done)
  |(injection h with h;subst h;rfl)
  |cases h
theorem VY: ∀{xs g:List TC},BY ids xs=some g->ren.renL (λe=>dN e (ids.map .whole) 0) (xs.map (bG L))=some (g.map (bG L'))
 |[],g,h=>by injection h with h;subst h;rfl
 |x::r,g,h=>by
  simp only[BY]at h;split at h;rename_i y l j hl;injection h with h;subst h;simp only[cN,ren.renL,O5 hL j,VY hl];cases h
theorem JL6{x y:TA}(h:MZ ids x=some y):ren (λe=>dN e (ids.map .whole) 0) (bX L x)=some (bX L' y):=by
 cases x with
 |c x=>
  simp only[MZ]at h;split at h;rename_i y g;injection h with h;subst h;exact O5 hL g;cases h
 |dt t x=>injection h with h;subst h;rfl
 |m t cs=>
  grind [MZ,bX,ren,VY]
 |fn f a c=>
  grind [MZ,bX,ren,VY]
theorem ze: ∀{xs g:List TA},UD ids xs=some g->ren.renL (λe=>dN e (ids.map .whole) 0) (xs.map (bX L))=some (g.map (bX L'))
 |[],g,h=>by injection h with h;subst h;rfl
 |x::r,g,h=>by
  simp only[UD]at h;split at h;rename_i y l j hl;injection h with h;subst h;simp only[cN,ren.renL,JL6 hL j,ze hl];cases h
theorem zu{s0 s1:TSt}{ws:List (Nat×Blk)}(f:Fzd s0 s1 ws)(j:lns s0.sto=L): ∀{bs:List Nat} {bl:List TB},zA ids s1 bs=some bl->
  (lO ws (λe=>dN e (ids.map .whole) 0) (bs.map .whole)).run (JC s0)=some (bl.map (bF L'))
 |[],bl,h=>by injection h with h;subst h;rfl
 |b::r,bl,h=>by
  simp only[zA]at h;split at h;rename_i x hb;split at h;rename_i y l g hl;injection h with h;subst h;have ih:=zu f j hl;have k:=jw f hb;rw[j]at k;simp only[cN,lO,BW,run_bind,k,JE];cases x with
  |dead=>cases g
  |box t x=>injection g with g;grind [zb,YQ,bF,bP]
  |mbox t cs=>
   grind [uh,bF,VY,bP]
  |arr w t rows=>injection g with g;grind [bF,bP]
  cases h;cases h
end
theorem A5{ids:List Nat}{s:TSt}: ∀{bs:List Nat} {bl:List TB},zA ids s bs=some bl->bl.length=bs.length/\ ∀(k b:Nat),bs[k]?=some b->lns bl k=lns s.sto b
 |[],bl,h=>by injection h with h;simp_all
 |b::r,bl,h=>by
  simp only[zA]at h;split at h;rename_i x hb;split at h;rename_i y l e hl;injection h with h;subst h;obtain⟨h1,h2⟩:=A5 hl;refine⟨by simp[h1],λk c g=>?_⟩;cases k with
  |zero=>
   simp at g;subst g;unfold lns;rw[hb];show lnB y=lnB x;cases x with
   |dead=>cases e
   |box t x=>injection e with e;subst e;rfl
   |mbox t cs=>
    simp only[uh]at e;split at e;injection e with e;subst e;rfl;cases e
   |arr w t rows=>injection e with e;subst e;rfl
  |succ k=>
   grind [lns]
  cases h;cases h
def fL(ids:List Nat)(new m k:Nat):Option Nat:=if k<ids.length then ids[k]? else if k<m then some (new+(k-ids.length))else none
def cu(ids:List Nat)(new m:Nat):TC->Option TC| .ptr k p=>(fL ids new m k).bind λb=>some (.ptr b p)| .slr k=>(fL ids new m k).bind λb=>some (.slr b)| .slo k n=>(fL ids new m k).bind λb=>some (.slo b n)| .ep k i p=>(fL ids new m k).bind λb=>some (.ep b i p)| .epo k e i p=>(fL ids new m k).bind λb=>some (.epo b e i p)| .pre _ _=>none| .pro _ _ _=>none| .suf _ _=>none| .suo _ _ _=>none|x=>some x
def AS(ids:List Nat)(new m:Nat):List TC->Option (List TC)|[]=>some []|x::r=>match cu ids new m x,AS ids new m r with|some y,some l=>some (y::l)|_,_=>none
def dm(ids:List Nat)(new m:Nat):TA->Option TA
 | .c x=>match cu ids new m x with|some y=>some (.c y)|none=>none
 | .dt t x=>some (.dt t x)
 | .m t cs=>match AS ids new m cs with|some l=>some (.m t l)|none=>none
 | .fn f a c=>match AS ids new m a,AS ids new m c with|some a,some c=>some (.fn f a c)|_,_=>none
def SG(ids:List Nat)(new m:Nat):List TA->Option (List TA)|[]=>some []|x::r=>match dm ids new m x,SG ids new m r with|some y,some l=>some (y::l)|_,_=>none
def rh(ids:List Nat)(new m:Nat):TV->Option TV
 | .a x=>match dm ids new m x with|some y=>some (.a y)|none=>none
 | .tup vs=>match SG ids new m vs with|some l=>some (.tup l)|none=>none
def AO(ids:List Nat)(new m:Nat):TB->Option TB
 | .box t x=>some (.box t x)
 | .mbox t cs=>match AS ids new m cs with|some l=>some (.mbox t l)|none=>none
 | .arr w t rows=>some (.arr w t rows)
 | .dead=>none
section
variable {ids:List Nat} {new m:Nat} {L Lp:Nat->Nat} (hL: ∀k b,fL ids new m k=some b->Lp b=L k)
theorem JQX{k b o:Nat}(h:fL ids new m k=some b):bk (ids.map .whole) new (.ptr k o)=some (.ptr b o):=by
 grind [fL,bk]
theorem JQ7{k b i n:Nat}(h:fL ids new m k=some b):bk (ids.map .whole) new (.slr k i n)=some (.slr b i n):=by
 grind [fL,bk]
theorem JRi{k b e i o:Nat}(h:fL ids new m k=some b):bk (ids.map .whole) new (.ep k e i o)=some (.ep b e i o):=by
 grind [fL,bk]
include hL
theorem Ni{x y:TC}(h:cu ids new m x=some y):bk (ids.map .whole) new (bG L x)=some (bG Lp y):=by
 cases x<;>simp only[cu]at h<;>first
  |(obtain⟨b,hb,h⟩:=bQ.1 h
    injection h with h;subst h;simp only[bG,JQX hb,JQ7 hb,JRi hb,hL _ _ hb]
    done)
  |(cases h;done)
  |(injection h with h;subst h;rfl)
theorem VE: ∀{xs e:List TC},AS ids new m xs=some e->bk.bkL (ids.map .whole) new (xs.map (bG L))=some (e.map (bG Lp))
 |[],e,h=>by injection h with h;subst h;rfl
 |x::r,e,h=>by
  simp only[AS]at h;split at h;rename_i y l g hl;injection h with h;subst h;simp only[cN,bk.bkL,Ni hL g,VE hl];cases h
theorem Og{x y:TA}(h:dm ids new m x=some y):bk (ids.map .whole) new (bX L x)=some (bX Lp y):=by cases x<;>grind [dm,Ni,bX,bk,VE]
theorem O2: ∀{xs e:List TA},SG ids new m xs=some e->bk.bkL (ids.map .whole) new (xs.map (bX L))=some (e.map (bX Lp))
 |[],e,h=>by injection h with h;subst h;rfl
 |x::r,e,h=>by
  simp only[SG]at h;split at h;rename_i y l g hl;injection h with h;subst h;simp only[cN,bk.bkL,Og hL g,O2 hl];cases h
theorem JMQ{x y:TV}(h:rh ids new m x=some y):bk (ids.map .whole) new (aX L x)=some (aX Lp y):=by cases x<;>grind [rh,Og,aX,bk,O2]
end
end Go.Am
end
section
namespace Go.Am
structure TG where
 go: ∀{R:Type},FuncId->List TA->List TB->(TV->List (Bool×TB)->Option R)->Option R
def qF(out:List (Bool×TB)):Nat->Nat:=lns (out.map (·.2))
structure GOk(F:Orc)(G:TG):Prop where
 ok: ∀{R:Type} {f:FuncId} {xs:List TA} {bl:List TB} {kk:TV->List (Bool×TB)->Option R} {r:R},G.go f xs bl kk=some r->
  ∃v out,F f (xs.map (bX (lns bl))) (bl.map (bF (lns bl)))=some (aX (qF out) v,out.map λx=>bF (qF out) x.2)/\
   (∀(k:Nat) x,out[k]?=some (true,x)->k<bl.length->lnB x=lns bl k)/\kk v out=some r
def qQ(ids:List Nat)(new m:Nat):Nat->List (Bool×TB)->Option (List (Nat×Bool×TB))|_,[]=>some []|k,(s,x)::r=>match fL ids new m k,AO ids new m x,qQ ids new m (k+1) r with|some b,some y,some l=>some ((b,s&&decide (k<ids.length),y)::l)|_,_,_=>none
section
variable {R:Type}
def si(e:Bool)(a b n:Nat):Bool:=if e=true then decide (a<=b/\b<=a+n)else decide (b=a+n)
theorem JIy{e:Bool}{a b n:Nat}(h:si e a b n=true):(if e=true then a<=b/\b<=a+n else b=a+n)/\a<=b/\b<=a+n:=by
 grind [si]
def GZ(G:TG)(f:FuncId)(args:List (TV×Bool))(e:Bool)(n:Nat)(d:Option Nat)(new:Nat)(s:TSt)(kk:TSt->Option R):Option R:=
 ME args s λxs s1=>
 match HW xs []with
 |none=>none
 |some g=>match yM s1 g g with
  |none=>none
  |some i1=>match yM s1 i1 i1 with
   |none=>none
   |some ids=>if kH ids=true then
    match UD ids xs,zA ids s1 ids with
    |some j,some bl=>G.go f j bl λv out=>
     if si e ids.length out.length n=true then
      match rh ids new out.length v,qQ ids new out.length 0 out with
      |some h,some ws=>if kH (ws.map (·.1))=true then kk (bK d h (oO ws s1))else none
      |_,_=>none
     else none
    |_,_=>none
    else none
theorem Oi{ids:List Nat}{new m:Nat}{x y:TB}(h:AO ids new m x=some y):lnB y=lnB x:=by
 cases x with
 |dead=>cases h
 |box t x=>injection h with h;subst h;rfl
 |mbox t cs=>
  simp only[AO]at h;split at h;injection h with h;subst h;rfl;cases h
 |arr w t rows=>injection h with h;subst h;rfl
theorem xn{ids:List Nat}{new m:Nat}: ∀{k:Nat} {out:List (Bool×TB)} {ws:List (Nat×Bool×TB)},qQ ids new m k out=some ws->
  ws.length=out.length/\ ∀(j:Nat) s x,out[j]?=some (s,x)-> ∃b y,fL ids new m (k+j)=some b/\AO ids new m x=some y/\ws[j]?=some (b,s&&decide (k+j<ids.length),y)
 |k,[],ws,h=>by injection h with h;simp_all
 |k,(s,x)::r,ws,h=>by
  simp only[qQ]at h;split at h;rename_i b y l hb n hl;injection h with h;subst h;obtain⟨h1,h2⟩:=xn hl;refine⟨by simp[h1],λj s' e g=>?_⟩;cases j<;>grind
  cases h
theorem JM4{l:List Nat}(h:kH l=true):l.Nodup:=XB h
theorem JDx{ids:List Nat}(h:kH ids=true):kH ((ids.map Ent.whole).map Ent.id)=true:=by rw[GC,show Ent.id∘Ent.whole=id from rfl,List.map_id];exact h
theorem ww{ids:List Nat}{new m:Nat}{L Lp:Nat->Nat}(hL: ∀k b,fL ids new m k=some b->Lp b=L k){ws0:List (Nat×Blk)}{st:St}: ∀{j:Nat} {es:List Nat} {out:List (Bool×TB)} {ws:List (Nat×Bool×TB)},
  (∀(i:Nat) b,es[i]?=some b->ids[j+i]?=some b)->j+es.length=ids.length->es.length<=out.length->qQ ids new m j out=some ws->
  (jM ws0 (ids.map .whole) new (es.map .whole) (out.map λx=>bF L x.2)).run st=some ((ws.take es.length).map λx=>(x.1,bF Lp x.2.2))
 |j,[],out,ws,_,_,_,h=>by simp[jM]
 |j,b::es,[],ws,_,_,hl,h=>by simp at hl
 |j,b::es,(s,x)::out,ws,he,hj,hl,h=>by
  simp only[qQ]at h;split at h;rename_i e y l hb r n;injection h with h;subst h;have ih:=ww hL (ws0:=ws0) (st:=st) (j:=j+1) (es:=es) (out:=out) (ws:=l) (λi c hc=>by
   have:=he (i+1) c (by simpa using hc);grind) (by grind) (by simpa using hl) n
  have g:e=b:=(by have q:=he 0 b (by simp);grind [fL]);subst g;simp only[cN,jM,run_bind];have o:(vR ws0 (ids.map .whole) new (.whole e) (bF L x)).run st=some (e,bF Lp y):=by cases x<;>grind [CF,vR,la,YQ,bP,AO,OD,VE,va]
  simp_all;cases h
theorem O9{ids:List Nat}{new m:Nat}{L Lp:Nat->Nat}(hL: ∀k b,fL ids new m k=some b->Lp b=L k): ∀{j:Nat} {out:List (Bool×TB)} {ws:List (Nat×Bool×TB)},
  qQ ids new m (ids.length+j) out=some ws->iJ (ids.map .whole) new (new+j) (out.map λx=>bF L x.2)=some (ws.map λx=>(x.1,bF Lp x.2.2))
 |j,[],ws,h=>by injection h with h;subst h;rfl
 |j,(s,x)::out,ws,h=>by
  simp only[qQ]at h;split at h;rename_i o y l hb e n;injection h with h;subst h;have ih:=O9 hL (j:=j+1) n;have g:o=new+j:=(by grind [fL]);subst g;cases x with
  |dead=>cases e
  |box t x=>injection e with e;grind [CF,iJ,la,YQ]
  |mbox t cs=>
   grind [AO,OD,iJ,VE]
  |arr w t rows=>injection e with e;grind [va,iJ]
  cases h
theorem zx{ids:List Nat}{new m:Nat}: ∀{n k:Nat} {out:List (Bool×TB)} {ws:List (Nat×Bool×TB)},qQ ids new m k out=some ws->qQ ids new m (k+n) (out.drop n)=some (ws.drop n)
 |0,k,out,ws,h=>h
 |n+1,k,[],ws,h=>by injection h with h;subst h;rfl
 |n+1,k,(s,x)::out,ws,h=>by
  simp only[qQ]at h;split at h;rename_i b y l hb e hl;injection h with h;subst h;have:=zx (n:=n) hl;grind;cases h
theorem XH{F:Orc}{G:TG}(hG:GOk F G){f:FuncId}{args:List (TV×Bool)}{A:Bool}{n:Nat}{d:Option Nat}{new:Nat}{s:TSt}{kk:TSt->Option R}{r:R}
  (hd:oZ s new n=true) (h:GZ G f args A n d new s kk=some r):
  ∃xs ws B es z blks v res D fresh,(fO (args.map (·.2)) (args.map λx=>aX (lns s.sto) x.1)).run (JC s)=some (xs,ws)/\
   (eJ ws (cX.entsOfL xs []) (cX.entsOfL xs [])).run (JC s)=some B/\(eJ ws B B).run (JC s)=some es/\kH (es.map Ent.id)=true/\
   ren.renL (λe=>dN e es 0) xs=some z/\(lO ws (λe=>dN e es 0) es).run (JC s)=some blks/\F f z blks=some res/\
   (if A=true then es.length<=res.2.length/\res.2.length<=es.length+n else res.2.length=es.length+n)/\bk es new res.1=some v/\iJ es new new (res.2.drop es.length)=some fresh/\
   (jM ws es new es res.2).run (JC s)=some D/\ ∃s',put d ⟨v,ws++D++fresh⟩ (JC s)=JC s'/\kk s'=some r:=by
 unfold GZ at h;obtain⟨xs,s1,ws,h1,q,h⟩:=j7 (Fzd.refl s) h;rw[sH]at q;split at h;cases h;rename_i i0 U;split at h;cases h;rename_i i1 Q;split at h;cases h;rename_i ids L;split at h;rename_i W;split at h;rename_i ys bl T K;obtain⟨v,out,hF,a0,h⟩:=hG.ok h;split at h;rename_i hlen;split at h;rename_i N g V o;split at h;rename_i M;have e0:cX.entsOfL (xs.map (bX (lns s.sto))) []=i0.map .whole:=WV (lns s.sto) (l:=[]) U;have e1:=DA q Q;have e2:=DA q L;obtain⟨aj,Y⟩:=A5 K;have hL: ∀b k,eY b ids 0=some k->lns bl k=lns s.sto b:=by intro b k O;obtain⟨_,O⟩:=WO O;rw[Y k b (by simpa using O),q.2.1]
 have e3:=ze hL T;have e4:=zu hL q rfl K;obtain⟨b1,b2⟩:=xn o;have a5: ∀(j:Nat),qF out j=match out[j]? with
   |some x=>lnB x.2
   |none=>0:=by
  intro j;unfold qF lns;rw[iB];cases out[j]?<;>rfl
 have P: ∀(k b:Nat),ids[k]?=some b->b<s1.sto.length:=by
  have ak: ∀(bs:List Nat) (bl:List TB),zA ids s1 bs=some bl-> ∀(k b:Nat),bs[k]?=some b->b<s1.sto.length:=by
   intro bs
   induction bs with
   |nil=>simp_all
   |cons c bs ih=>
    grind [zA]
  grind
 have a3:s1.sto.length=s.sto.length:=(by have:=congrArg (λst=>st.sto.length) q.2.2.1;grind [JC,CU]);obtain⟨a2,J,a1⟩:=JIy hlen;have Z:=zB hd;have aa: ∀x∈g,∃(j:Nat) (S:Bool) (y:TB),out[j]?=some (S,y)/\fL ids new out.length j=some x.1/\AO ids new out.length y=some x.2.2/\x.2.1=(S&&decide (j<ids.length)):=by
  intro x hx;obtain⟨j,hj⟩:=jY hx;have w:j<out.length:=by grind
  obtain⟨b,y,q1,q2,H⟩:=b2 j (out[j]'w).1 (out[j]'w).2 (bC w);rw[hj]at H;injection H with H;rw[qN]at q1 H;exact⟨j,_,_,bC w,by simp_all,by simp_all,by rw[H];rfl⟩
 have E: ∀x∈g,x.1<s1.sto.length:=(by grind [fL,JD]);have I: ∀x∈g,x.2.1=true->lnB x.2.2=lns s1.sto x.1:=(by grind [Oi,fL]);obtain⟨w1,w2⟩:=JOi (JM4 M) E I;have C: ∀k b,fL ids new out.length k=some b->lns (oO g s1).sto b=qF out k:=(by grind [fL,Oi]);have e5:=JMQ C V;have e6:=ww C (ws0:=ws) (st:=JC s) (j:=0) (es:=ids) (out:=out) (ws:=g) (λi b hb=>by grind) (by omega) J o;have e7:=O9 C (j:=0) (out:=out.drop ids.length) (ws:=g.drop ids.length) (by have:=zx (n:=ids.length) o;grind);rw[xN]at e7;refine⟨xs.map (bX (lns s.sto)),ws,i1.map .whole,ids.map .whole,_,_,aX (lns (oO g s1).sto) N,_,_,(g.drop ids.length).map (λx=>(x.1,bF (lns (oO g s1).sto) x.2.2)),h1,?_,e2,JDx W,e3,e4,hF,?_,e5,?_,e6,bK d N (oO g s1),?_,h⟩;grind;grind;grind [List.map_drop];refine rE ?_ d N;rw[w1,q.2.2.1];simp[fH];cases h;cases h;cases h;cases h;cases h
end
end Go.Am
end
section
namespace Go.Am
inductive TOp where
 |mv (x:TO)
 |mkarr (t:Ty) (x:TO)
 |pick (c a b:TO)
 |newbox (t:Ty)
 |box (t:Ty) (x:TO)
 |build (t:Ty) (parts:List (Nat×Ty×TO))
 |lits (own:Bool) (t:Ty) (n:Nat) (parts:List (Nat×TO))
 |load (agg:Bool) (t:Ty) (x:TO)
 |store (t:Ty) (x v:TO)
 |nilchk (x:TO)
 |bin (op:BinOp) (bt:TBT) (x y:TO)
 |un (op:UnOp) (x:TO)
 |conv (k:CK) (x:TO)
 |mkslice (own:Bool) (t:Ty) (bytes:Nat) (l c:TO)
 |slice (k:TSK) (x:TO) (lo hi mx:Option TO)
 |faddr (off:Nat) (x:TO)
 |field (agg:Bool) (off:Nat) (t:Ty) (x:TO)
 |iaddr (t:Ty) (x i:TO)
 |aaddr (len esz:Nat) (x i:TO)
 |sidx (x i:TO)
 |aidx (agg:Bool) (len:Nat) (t:Ty) (x i:TO)
 |extr (x:TO) (i:Nat)
 |call (f:FuncId) (args:List TO) (k:Nat)
 |callo (f:FuncId) (args:List (TO×Bool)) (k:Nat)
 |callv (g:TO) (args:List TO) (k:Nat)
 |len (str:Bool) (x:TO)
 |app (t:Ty) (bytes:Nat) (x y:TO)
 |appn (t:Ty) (bytes:Nat) (y:TO)
 |mm (mx:Bool) (x y:TO)
 |mkfn (f:FuncId) (first caps:List TO)
 |newboxo (t:Ty) (os:List (Nat×Ty))
 |buildo (t:Ty) (parts:List (Nat×Ty×TO)) (os:List (Nat×Ty))
 |storen (t:Ty) (x:TO)
 |shr (t:Ty) (x hi:TO)
def zer(t:Ty):List PV:=cel t t.zero
def erp:TOp->AOp
 | .mv x=>.mv (erO x)
 | .mkarr t x=>.mkarr t.sz (erO x)
 | .pick c a b=>.pick (erO c) (erO a) (erO b)
 | .newbox t=>.newbox (zer t)
 | .box t x=>.box t.sz (erO x)
 | .build t parts=>.build (zer t) (erP parts)
 | .lits own t n parts=>.lits own t.sz n (zer t) (parts.map λx=>(x.1,erO x.2))
 | .load agg t x=>.load agg t.sz (erO x)
 | .store t x v=>.store t.sz (erO x) (erO v)
 | .nilchk x=>.nilchk (erO x)
 | .bin op bt x y=>.bin op (erT bt) (erO x) (erO y)
 | .un op x=>.un op (erO x)
 | .conv k x=>.conv k (erO x)
 | .mkslice own t bytes l c=>.mkslice own t.sz bytes (zer t) (erO l) (erO c)
 | .slice k x lo hi mx=>.slice (erK k) (erO x) (lo.map erO) (hi.map erO) (mx.map erO)
 | .faddr off x=>.faddr off (erO x)
 | .field agg off t x=>.field agg off t.sz (erO x)
 | .iaddr t x i=>.iaddr t.sz (erO x) (erO i)
 | .aaddr len esz x i=>.aaddr len esz (erO x) (erO i)
 | .sidx x i=>.sidx (erO x) (erO i)
 | .aidx agg len t x i=>.aidx agg len t.sz (erO x) (erO i)
 | .extr x i=>.extr (erO x) i
 | .call f args k=>.call f (args.map erO) k
 | .callo f args k=>.callo f (args.map (·.2)) (args.map λx=>erO x.1) k
 | .callv g args k=>.callv (erO g) (args.map erO) k
 | .len str x=>.len str (erO x)
 | .app t bytes x y=>.app t.sz bytes (zer t) (erO x) (erO y)
 | .appn t bytes y=>.appn t.sz bytes (zer t) (erO y)
 | .shr t x y=>.shr t.sz (zer t) (erO x) (erO y)
 | .mm mx x y=>.mm mx (erO x) (erO y)
 | .mkfn f first caps=>.mkfn f (first.map erO) (caps.map erO)
 | .newboxo t os=>.newboxo (zer t) (mA os)
 | .buildo t parts os=>.buildo (zer t) (erP parts) (mA os)
 | .storen t x=>.storen t.sz (erO x)
def cQ:TOp->Nat| .newbox _| .box _ _| .mkarr _ _| .appn _ _ _| .shr _ _ _=>1| .lits own _ _ _=>if own=true then 1 else 0| .mkslice own _ _ _ _=>if own=true then 1 else 0| .conv (.toBytes own) _=>if own=true then 1 else 0| .call _ _ k| .callv _ _ k| .callo _ _ k=>k| .newboxo _ os=>os.length+1| .buildo _ _ os=>os.length| .storen _ _=>1|_=>0
theorem OK(op:TOp):nM (erp op)=cQ op:=by
 cases op<;>try rfl
 rename_i k x;cases k<;>rfl
 all_goals simp[erp,cQ,mA]
def xJ:List (TO×Bool)->TSt->Option (List (TV×Bool))|[],_=>some []|(o,x)::r,s=>match tev o s,xJ r s with|some v,some l=>some ((v,x)::l)|_,_=>none
theorem CM{s:TSt}: ∀{xs:List (TO×Bool)} {l:List (TV×Bool)},xJ xs s=some l->
  (evs (xs.map λx=>erO x.1)).run (JC s)=some (l.map λx=>aX (lns s.sto) x.1)/\l.map (·.2)=xs.map (·.2)
 |[],l,h=>by injection h with h;simp_all
 |(o,x)::q,l,h=>by
  simp only[xJ]at h;split at h;rename_i v l' e hl;injection h with h;subst h;obtain⟨h1,h2⟩:=CM hl;exact⟨by simp only[cN,evs,run_bind,cE e,JE,h1,bP],by simp[h2]⟩;cases h
section
variable {R:Type}
def top(G:TG)(op:TOp)(d:Option Nat)(new:Nat)(s:TSt)(k:TSt->Option R):Option R:=
 match op with
 | .mv x=>match tev x s with|some v=>k (bK d v s)|none=>none
 | .mkarr t _=>Kc t d new s k
 | .pick c a b=>match tev c s with|some (.a (.c (.d .b x)))=>tm x (tev a s) (tev b s) λv=>k (bK d v s)|_=>none
 | .newbox t=>Nv t d new s k
 | .box t x=>match tev x s with|some v=>pz t v d new s k|none=>none
 | .build t parts=>vh t parts d s k
 | .lits own t n parts=>sy own t n parts d new s k
 | .load agg t x=>match tev x s with|some v=>uc agg t v d s k|none=>none
 | .store t x y=>match tev x s,tev y s with|some v,some u=>u9 t v u d s k|_,_=>none
 | .nilchk x=>match tev x s with|some v=>ri v λv=>k (bK d v s)|none=>none
 | .bin op bt x y=>match tev x s,tev y s with|some v,some u=>rk op bt v u λv=>k (bK d v s)|_,_=>none
 | .un op x=>match tev x s with|some v=>tUn op v λv=>k (bK d v s)|none=>none
 | .conv c x=>match tev x s with|some v=>tr c v d new s k|none=>none
 | .mkslice own t bytes l c=>match tev l s,tev c s with|some v,some u=>jh own t bytes v u d new s k|_,_=>none
 | .slice e x lo hi mx=>match tev x s,tbn lo s,tbn hi s,tbn mx s with|some v,some a,some b,some c=>uk e v a b c d s k|_,_,_,_=>none
 | .faddr off x=>match tev x s with|some v=>ft off v λv=>k (bK d v s)|none=>none
 | .field agg off t x=>match tev x s with|some v=>vj agg off t v d s k|none=>none
 | .iaddr t x i=>match tev x s,tev i s with|some v,some u=>vg t v u s λv=>k (bK d v s)|_,_=>none
 | .aaddr len esz x i=>match tev x s,tev i s with|some v,some u=>fv len esz v u λv=>k (bK d v s)|_,_=>none
 | .sidx x i=>match tev x s,tev i s with|some v,some u=>tz v u λv=>k (bK d v s)|_,_=>none
 | .aidx agg len t x i=>match tev x s,tev i s with|some v,some u=>r7 agg len t v u d s k|_,_=>none
 | .extr x i=>match tev x s with|some v=>tu v i λv=>k (bK d v s)|none=>none
 | .call f args n=>match xJ (args.map λx=>(x,false)) s with|some l=>GZ G f l false n d new s k|none=>none
 | .callo f args n=>match xJ args s with|some l=>GZ G f l true n d new s k|none=>none
 | .callv g args n=>match tev g s,xJ (args.map λx=>(x,false)) s with|some (.a (.fn f a c)),some l=>GZ G f (a.map (λx=>(.a (.c x),false))++l++c.map (λx=>(.a (.c x),false))) false n d new s k|some (.a (.c (.fn f))),some l=>GZ G f l false n d new s k|_,_=>none
 | .len str x=>match tev x s with|some v=>qz str v s λv=>k (bK d v s)|none=>none
 | .app t bytes x y=>match tev x s,tev y s with|some v,some u=>ql t bytes v u d s k|_,_=>none
 | .appn t bytes y=>match tev y s with|some u=>sa t bytes u d new s k|none=>none
 | .mm mx x y=>match tev x s,tev y s with|some v,some u=>tMm mx v u λv=>k (bK d v s)|_,_=>none
 | .mkfn f first caps=>match tcl first s,tcl caps s with|some a,some c=>k (bK d (.a (.fn f a c)) s)|_,_=>none
 | .newboxo t os=>kg t os d new s k
 | .buildo t parts os=>iw t parts os d new s k
 | .storen t x=>match tev x s with|some v=>il t v d new s k|none=>none
 | .shr t x y=>match tev x s,tev y s with|some v,some u=>rm t v u d new s k|_,_=>none
theorem kc{F:Orc}{f:FuncId}{vs xs g:List AV}{ws:List (Nat×Blk)}{h es:List Ent}{blks:List Blk}{v:AV}{res:Res}{j fresh:List (Nat×Blk)}{n new:Nat}{st:St}
  (h1:(kZ vs).run st=some (xs,ws)) (h2:(eJ ws (cX.entsOfL xs []) (cX.entsOfL xs [])).run st=some h) (h3:(eJ ws h h).run st=some es) (h4:kH (es.map Ent.id)=true)
  (h5:ren.renL (λe=>dN e es 0) xs=some g) (w:(lO ws (λe=>dN e es 0) es).run st=some blks) (q:F f g blks=some res) (r:res.2.length=es.length+n)
  (x:bk es new res.1=some v) (k:iJ es new new (res.2.drop es.length)=some fresh) (o:(jM ws es new es res.2).run st=some j):
  (iT F f vs n new).run st=some ⟨v,ws++j++fresh⟩:=by
 simp_all [iT]
theorem JJO{F:Orc}{f:FuncId}{xs g:List AV}{ws:List (Nat×Blk)}{h es:List Ent}{blks:List Blk}{v:AV}{res:Res}{j fresh:List (Nat×Blk)}{n new:Nat}{st:St}
  (h2:(eJ ws (cX.entsOfL xs []) (cX.entsOfL xs [])).run st=some h) (h3:(eJ ws h h).run st=some es) (h4:kH (es.map Ent.id)=true)
  (h5:ren.renL (λe=>dN e es 0) xs=some g) (w:(lO ws (λe=>dN e es 0) es).run st=some blks) (q:F f g blks=some res) (r:es.length<=res.2.length/\res.2.length<=es.length+n)
  (x:bk es new res.1=some v) (k:iJ es new new (res.2.drop es.length)=some fresh) (o:(jM ws es new es res.2).run st=some j):
  (fW F f (xs,ws) n new).run st=some ⟨v,ws++j++fresh⟩:=by
 simp_all [fW]
theorem VO(args:List TO):(args.map λx=>(x,false)).map (λx:TO×Bool=>erO x.1)=args.map erO:=by simp_all
theorem JPT{F:Orc}{G:TG}(K:GOk F G){op:TOp}{d:Option Nat}{new:Nat}{s:TSt}{k:TSt->Option R}{r:R}(hd:oZ s new (cQ op)=true)(h:top G op d new s k=some r):Ok (opR F (erp op) new) d s k r:=by
 have W: ∀j,j<cQ op->new+j<s.sto.length:=λj hj=>JD (zB hd j hj);unfold top at h;split at h;split at h;rename_i x _ v o;refine fY (v:=v) ?_ h;simp only[erp,opR,run_bind,cE o,JE,bP];cases h;exact JI2 F (by simp_all [cQ]) h;split at h;rename_i hc;exact JM5 F hc h;cases h;exact JFP F (by have:=zB hd 0 (by simp[cQ]);simp_all) h;split at h;rename_i o;exact JMU F (by have:=zB hd 0 (by simp[cQ]);simp_all) o h;cases h;exact JIW F new h;rename_i own t n parts;exact JKE F (λZ=>by simp_all [cQ]) h;split at h;rename_i o;obtain⟨e,s',h1,h2,q⟩:=JM2 h;exact⟨e,s',by grind [erp,opR,run_bind,cE],h2,q⟩;cases h;split at h;rename_i o w;obtain⟨e,s',h1,h2,q⟩:=JI5 h;exact⟨e,s',by grind [erp,opR,run_bind,cE],h2,q⟩;cases h;split at h;rename_i o;exact JMY F o h;cases h;split at h;rename_i o w;obtain⟨e,s',h1,h2,q⟩:=(JNQ h).ok;exact⟨e,s',by grind [erp,opR,run_bind,cE],h2,q⟩;cases h;split at h;rename_i o;obtain⟨e,s',h1,h2,q⟩:=(JQw h).ok;exact⟨e,s',by grind [erp,opR,run_bind,cE],h2,q⟩;cases h;split at h;rename_i o;exact JKQ F o (λZ=>by simp_all [cQ]) h;cases h;split at h;rename_i o w;exact JDi F o w (λZ=>by simp_all [cQ]) h;cases h;split at h;rename_i h1 h2 q h4;exact JIK F h1 h2 q h4 h;cases h;split at h;rename_i o;obtain⟨e,s',h1,h2,q⟩:=(JII h).ok;exact⟨e,s',by grind [erp,opR,run_bind,cE],h2,q⟩;cases h;split at h;rename_i o;obtain⟨e,s',h1,h2,q⟩:=JIr h;exact⟨e,s',by grind [erp,opR,run_bind,cE],h2,q⟩;cases h;split at h;rename_i o w;obtain⟨e,s',h1,h2,q⟩:=JIk h;exact⟨e,s',by grind [erp,opR,run_bind,cE],h2,q⟩;cases h;split at h;rename_i o w;obtain⟨e,s',h1,h2,q⟩:=(JJ2 h).ok;exact⟨e,s',by grind [erp,opR,run_bind,cE],h2,q⟩;cases h;split at h;rename_i o w;exact JMo F o w h;cases h;split at h;rename_i o w;exact JLf F o w h;cases h;split at h;rename_i o;obtain⟨e,s',h1,h2,q⟩:=(JM9 h).ok;exact⟨e,s',by grind [erp,opR,run_bind,cE],h2,q⟩;cases h;rename_i f args n;split at h;rename_i l hl;obtain⟨C,L⟩:=CM hl;rw[VO]at C;obtain⟨xs,ws,H,es,B,blks,v,res,D,fresh,E,V,U,Q,P,O,N,S,M,J,I,s',A,y⟩:=XH K hd h;rw[PP _ _ (λx hx=>by simp_all)]at E;refine⟨_,s',?_,A,y⟩;grind [erp,opR,run_bind,kc,cQ];cases h;rename_i f args n;split at h;rename_i l hl;obtain⟨C,L⟩:=CM hl;obtain⟨xs,ws,H,es,B,blks,v,res,D,fresh,E,V,U,Q,P,O,N,S,M,J,I,s',A,y⟩:=XH K hd h;rw[L]at E;refine⟨_,s',?_,A,y⟩;simp_all [erp,JJO,cQ];cases h;rename_i g args n;split at h;rename_i f a c l T hl;obtain⟨C,L⟩:=CM hl;rw[VO]at C;obtain⟨xs,ws,H,es,B,blks,v,res,D,fresh,E,V,U,Q,P,O,N,S,M,J,I,s',A,y⟩:=XH K hd h;have Y: ∀z:List TC,(z.map (λx=>((TV.a (.c x),false):TV×Bool))).map (λx=>aX (lns s.sto) x.1)=z.map (bG (lns s.sto)):=λz=>by rw[GC];rfl
 rw[PP _ _ (λx hx=>by
  grind),MA,MA,Y,Y]at E
 refine⟨_,s',?_,A,y⟩;simp only[erp,opR,run_bind,cE T,JE,rl,C];grind [kc,cQ];rename_i f l T hl;obtain⟨C,L⟩:=CM hl;rw[VO]at C;obtain⟨xs,ws,H,es,B,blks,v,res,D,fresh,E,V,U,Q,P,O,N,S,M,J,I,s',A,y⟩:=XH K hd h;rw[PP _ _ (λx hx=>by simp_all)]at E;refine⟨_,s',?_,A,y⟩;simp only[erp,opR,run_bind,cE T,JE,Ij,C,sH,iQ];grind [kc,cQ];cases h;split at h;rename_i o;obtain⟨e,s',h1,h2,q⟩:=(JMS h).ok;exact⟨e,s',by grind [erp,opR,run_bind,cE],h2,q⟩;cases h;split at h;rename_i o w;obtain⟨e,s',h1,h2,q⟩:=JOt h;exact⟨e,s',by grind [erp,opR,run_bind,cE],h2,q⟩;cases h;split at h;rename_i w;exact JKp F w (by simp_all [cQ]) h;cases h;split at h;rename_i o w;obtain⟨e,s',h1,h2,q⟩:=(JR1 h).ok;exact⟨e,s',by grind [erp,opR,run_bind,cE],h2,q⟩;cases h;rename_i f first caps
 split at h;rename_i a c ha hc;refine fY (v:=.a (.fn f a c)) ?_ h;simp_all [erp,Kw,rl];cases h;exact JDg F hd h;exact JFK F hd h;split at h;rename_i o;exact JFI F (by have:=zB hd 0 (by simp[cQ]);simp_all) o h;cases h;split at h;rename_i o w;obtain⟨e,s',h1,h2,q⟩:=JNI (by have:=W 0 (by simp[cQ]);simpa using this) h;exact⟨e,s',by simp only[erp,opR,run_bind,cE o,cE w,JE];exact h1,h2,q⟩;cases h
structure jV where
 op:TOp
 dst:Option Nat
 g:Option (Nat×Bool)
def eri(i:jV):cG:=⟨erp i.op,i.dst,i.g⟩
def rbE(g:Nat)(v:TV):List (Nat×TV)->List (Nat×TV)|[]=>[]|(m,u)::r=>if m=g then(m,v)::r else(m,u)::rbE g v r
def rb(g:Nat)(v:TV)(s:TSt):TSt:=⟨rbE g v s.env,s.sto⟩
theorem ux{g:Nat}{v:TV}{s:TSt}(h:tlk g s.env=some v):rb g v s=s:=by
 have e: ∀env:List (Nat×TV),tlk g env=some v->rbE g v env=env:=by
  intro env
  induction env with
  |nil=>intro h;cases h
  |cons x r ih=>
   grind [tlk,rbE]
 simp_all [rb]
def cl(G:TG)(i:jV)(new:Nat)(s:TSt)(k:TSt->Option R):Option R:=
 match i.g with
 |none=>if oZ s new (cQ i.op)=true then top G i.op i.dst new s k else none
 |some (g,e)=>match tlk g s.env with
  |some (.a (.c (.d .b x)))=>if x=e then
   (if oZ s new (cQ i.op)=true then top G i.op i.dst new (rb g (vb e) s) k else none)
   else k (bK i.dst uv (rb g (vb !e) s))
  |some (.tup [])=>k (bK i.dst uv s)
  |_=>none
theorem N2{F:Orc}{G:TG}(A:GOk F G){i:jV}{new:Nat}{s:TSt}{k:TSt->Option R}{r:R}(h:cl G i new s k=some r):Ok (cJ F (eri i) new) i.dst s k r:=by
 have y: ∀{s:TSt},oZ s new (cQ i.op)=true->top G i.op i.dst new s k=some r->Ok (opD F (erp i.op) new) i.dst s k r:=(by intro s hd h;obtain⟨e,s',h1,h2,q⟩:=JPT A hd h;refine⟨e,s',?_,h2,q⟩;grind [opD,run_bind,OK,O3]);unfold cl at h;split at h;grind [cJ,eri];rename_i g n z;split at h;rename_i x j;have hl:lk g (JC s).env=some (.p (.b x)):=by show lk g (fV _ s.env)=_;rw[CJ,j];rfl
 split at h;rename_i o;subst o;rw[ux j]at h;split at h;rename_i hd;obtain⟨e,s',h1,h2,q⟩:=y hd h;refine⟨e,s',?_,h2,q⟩;grind [cJ,eri,zD];cases h;rename_i o;have w:x= !n:=by clear hl j h;cases x<;>cases n<;>first|rfl|grind
 subst w;rw[ux j]at h;refine fY (v:=uv) ?_ h;simp only[cJ,eri,z,zD,hl,JE];rw[if_neg o];rfl;rename_i j;have hl:lk g (JC s).env=some (.tup []):=by show lk g (fV _ s.env)=_;rw[CJ,j];rfl
 refine fY (v:=uv) ?_ h;simp only[cJ,eri,z,zD,hl,JE,bP];rfl;cases h
def dr(G:TG):List jV->Nat->TSt->(TSt->Option R)->Option R|[],_,s,k=>k s|i::r,new,s,k=>cl G i new s λs=>dr G r (new+cQ i.op) s k
theorem Ml{F:Orc}{G:TG}(g:GOk F G): ∀{ins:List jV} {new:Nat} {s:TSt} {k:TSt->Option R} {r:R},dr G ins new s k=some r-> ∃s',gL F (ins.map eri) new (JC s)=some (JC s')/\k s'=some r
 |[],new,s,k,r,h=>⟨s,rfl,h⟩
 |i::q,new,s,k,r,h=>by
  simp only[dr]at h;obtain⟨e,s1,h1,h2,h⟩:=N2 g h;obtain⟨j,o,n⟩:=Ml g h;grind [gL,eri,OK]
def NA:List jV->Nat|[]=>0|i::r=>cQ i.op+NA r
theorem ki: ∀ins:List jV,news (ins.map eri)=NA ins
 |[]=>rfl
 |i::r=>by
  simp only[cN,news,NA,ki r];grind [eri,OK]
def RX(n:Nat)(s:TSt):TSt:=if n=0 then s else⟨s.env,s.sto++List.replicate n .dead⟩
theorem JAY(sto:List TB)(n:Nat):lns (sto++List.replicate n .dead)=lns sto:=by
 funext c
 unfold lns;rcases zQ3 c sto.length with h|h;grind;rw[uY h,qK h,List.getElem?_replicate];split<;>rfl
theorem wi(n:Nat)(s:TSt):JC (RX n s)=⟨(JC s).env,room n (JC s).sto⟩:=by
 unfold RX room;split;rfl;unfold JC;rw[JAY];simp only[MA,ZT];rfl
end
end Go.Am
end
section
namespace Go.Am
def Rb{α:Type}(S:Nat->Prop)(m:RM α)(st:St):Prop:= ∀b,Loc.blk b∈m.reads st->S b
section
variable {α β:Type} {S:Nat->Prop} {st:St}
theorem cP(a:α):Rb S (.ret a) st:=λb h=>by grind [RM.reads]
theorem eS:Rb S (.fail:RM α) st:=λb h=>by grind [RM.reads]
theorem cD{m:RM α}{f:α->RM β}(h:Rb S m st)(hf: ∀a,m.run st=some a->Rb S (f a) st):Rb S (m.bind f) st:=by
 intro b hb;rw[zM]at hb;rcases zQ9.1 hb with hb|hb;exact h b hb;cases hm:m.run st with
 |none=>simp_all
 |some a=>rw[hm]at hb;exact hf a hm b (by simpa using hb)
theorem sU{b:Nat}{k:Blk->RM α}(hb:S b)(h: ∀v,st.sto[b]?=some v->Rb S (k v) st):Rb S (.blk b k) st:=by
 intro c hc;simp only[RM.reads,cV]at hc;rcases hc with hc|hc;simp_all;cases hv:st.sto[b]? with
 |none=>simp_all
 |some v=>rw[hv]at hc;exact h v hv c hc
theorem N9{n:Nat}{k:AV->RM α}(h: ∀v,lk n st.env=some v->Rb S (k v) st):Rb S (.slot n k) st:=by
 intro c hc;simp only[RM.reads,cV]at hc;rcases hc with hc|hc;cases hc;cases hv:lk n st.env with
 |none=>simp_all
 |some v=>rw[hv]at hc;exact h v hv c hc
theorem Lo(x:Option AV):Rb S (val x) st:=by cases x<;>first|exact eS|exact cP _
theorem lH(x:Opd):Rb S (ev x) st:=by cases x<;>first|exact cP _|exact N9 λv _=>cP v
theorem gp: ∀xs:List Opd,Rb S (evs xs) st|[]=>cP _|x::r=>cD (lH x) λv _=>cD (gp r) λvs _=>cP _
theorem ug(x:Option Opd):Rb S (evo x) st:=by cases x<;>simp_all [cP,cD,lH]
end
def gF:AV->List Nat| .ptr b _=>[b]| .slr b _ _=>[b]| .ep b _ _ _=>[b]| .pre b _ _=>[b]|_=>[]
def avR:AV->List Nat| .agg cs=>cs.flatMap gF|x=>gF x
section
variable {S:Nat->Prop} {st:St}
theorem JOF{x:AV}(h: ∀b∈gF x,S b):Rb S (fz.fz1 x) st:=by
 cases x with
 |slr b i n=>
  refine sU (h b (by simp[gF])) λv _=>?_;grind [cP,eS]
 |p c=>exact cP _
 |_=>exact eS
theorem Ki: ∀{xs:List AV},(∀b∈xs.flatMap gF,S b)->Rb S (fz.fzL xs) st|[],_=>cP _|x::r,h=>cD (JOF λb hb=>h b (by simp[hb])) λa _=>cD (Ki λb hb=>h b (by simp_all)) λc _=>cP _
theorem MQ{x:AV}(h: ∀b∈avR x,S b):Rb S (fz x) st:=by
 cases x with
 |slr b i n=>
  refine sU (h b (by simp[avR,gF])) λv _=>?_;grind [cP,eS]
 |p c=>exact cP _
 |data cs=>exact cP _
 |agg cs=>exact Ki h
 |_=>exact eS
theorem JQC{x:AV}{a:List PV×List (Nat×Blk)}(h:(fz.fz1 x).run st=some a): ∀y∈a.2,y.1∈gF x:=by
 cases x with
 |slr b i n=>
  simp only[fz.fz1,eI]at h;obtain⟨v,_,h⟩:=bQ.1 h;cases v with
  |arr w esz rows=>
   dsimp only at h;split at h;injection h with h;grind [gF];cases h
  |_=>cases h
 |p c=>injection h with h;subst h;simp
 |_=>cases h
theorem Lr: ∀{xs:List AV} {a:List PV×List (Nat×Blk)},(fz.fzL xs).run st=some a-> ∀y∈a.2,y.1∈xs.flatMap gF
 |[],a,h,y,g=>by injection h with h;grind
 |x::r,a,h,y,g=>by
  simp only[fz.fzL]at h;obtain⟨c,h1,h⟩:=bind_some h;obtain⟨e,h2,h⟩:=bind_some h;injection h with h;subst h;simp only[zQ9]at g;simp only[List.flatMap_cons,zQ9];rcases g with g|g;grind [JQC];exact .inr (Lr h2 y g)
theorem MN{x:AV}{a:List PV×List (Nat×Blk)}(h:(fz x).run st=some a): ∀y∈a.2,y.1∈avR x:=by
 cases x with
 |slr b i n=>
  simp only[fz,eI]at h;obtain⟨v,_,h⟩:=bQ.1 h;cases v with
  |arr w esz rows=>
   dsimp only at h;split at h;injection h with h;grind [avR,gF];cases h
  |_=>cases h
 |p c=>injection h with h;subst h;simp
 |data cs=>injection h with h;subst h;simp
 |agg cs=>exact Lr h
 |_=>cases h
theorem i5{esz:Nat}{x:AV}(h: ∀b∈avR x,S b):Rb S (fX esz x) st:=by
 unfold fX;grind [cP,eS,sU,avR,gF]
theorem JNx{agg:Bool}{size:Nat}{x:AV}(h: ∀b∈avR x,S b):Rb S (gY agg size x) st:=by
 unfold gY;split
 all_goals grind [Lo,eS,sU,avR,gF]
theorem UK{x:Option AV}{e:Eff}(h:(val x).run st=some e):e.ws=[]:=by
 cases x with
 |none=>cases h
 |some v=>injection h with h;subst h;rfl
theorem JNm{agg:Bool}{size:Nat}{x:AV}{e:Eff}(h:(gY agg size x).run st=some e):e.ws=[]:=by
 unfold gY at h;split at h;split at h<;>first|exact UK h|cases h
 simp only[eI]at h;obtain⟨v,_,h⟩:=bQ.1 h;split at h;split at h<;>first|exact UK h|cases h
 cases h;simp only[eI]at h;obtain⟨v,_,h⟩:=bQ.1 h;split at h;split at h;split at h;split at h<;>first|exact UK h|cases h
 cases h;cases h;cases h;cases h
theorem JLD{size:Nat}{x v:AV}(h: ∀b∈avR x,S b)(hv: ∀b∈avR v,S b):Rb S (iV size x v) st:=by
 unfold iV;split;grind [sU,avR,gF,cP,eS];refine sU (h _ (by simp[avR,gF])) λy _=>?_;grind [cD,MQ,cP,eS];simp[eS]
theorem JMj{size:Nat}{x v:AV}{e:Eff}(h:(iV size x v).run st=some e): ∀y∈e.ws,y.1∈avR x++avR v:=by
 unfold iV at h;split at h;simp only[eI]at h;obtain⟨w,_,h⟩:=bQ.1 h;split at h;split at h;split at h;split at h;injection h with h;grind [avR,gF];cases h;cases h;cases h;cases h;simp only[eI]at h;obtain⟨w,_,h⟩:=bQ.1 h;split at h;split at h;split at h;obtain⟨a,h1,h⟩:=bind_some h;split at h;split at h;injection h with h;subst h;intro y g;grind [MN,avR,gF];cases h;cases h;cases h;cases h;cases h;cases h
theorem JJR{esz:Nat}{x i:AV}(h: ∀b∈avR x,S b):Rb S (nP esz x i) st:=by
 unfold nP;grind [cP,eS,sU,avR,gF]
theorem JMc{esz:Nat}{x i:AV}{e:Eff}(h:(nP esz x i).run st=some e):e.ws=[]:=by
 unfold nP at h;split at h;split at h;split at h;injection h with h;subst h;rfl;cases h;cases h;simp only[eI]at h;obtain⟨v,_,h⟩:=bQ.1 h;split at h;split at h;injection h with h;subst h;rfl;cases h;cases h;cases h
theorem JQG{esz bytes:Nat}{x y:AV}(h: ∀b∈avR x,S b)(hy: ∀b∈avR y,S b):Rb S (jU esz bytes x y) st:=by
 unfold jU;split
 all_goals grind [sU,avR,gF,cD,i5,cP,eS]
theorem JPu{esz bytes:Nat}{x y:AV}{e:Eff}(h:(jU esz bytes x y).run st=some e): ∀z∈e.ws,z.1∈avR x:=by
 unfold jU at h;split at h;simp only[eI]at h;obtain⟨v,_,h⟩:=bQ.1 h;split at h;obtain⟨new,_,h⟩:=bind_some h;split at h;injection h with h;grind [avR,gF];cases h;cases h;cases h
theorem N6: ∀{k new:Nat},(∀j,j<k->S (new+j))->Rb S (vG new k) st
 |0,_,_=>cP _
 |k+1,new,h=>sU (h 0 (by omega)) λv _=>by
  cases v with
  |dead=>exact N6 λj e=>by grind
  |_=>exact eS
theorem K0: ∀{xs:List Opd},(∀x∈xs,∀v,(ev x).run st=some v-> ∀b∈avR v,S b)->Rb S (fzs xs) st|[],_=>cP _|x::r,h=>cD (lH x) λv e=>cD (MQ (h x (by simp) v e)) λa _=>cD (K0 λy g=>h y (by simp[g])) λc _=>cP _
theorem gk: ∀{xs:List Opd} {a:List (List PV)×List (Nat×Blk)},(∀x∈xs,∀v,(ev x).run st=some v-> ∀b∈avR v,S b)->(fzs xs).run st=some a-> ∀y∈a.2,S y.1
 |[],a,_,h,y,g=>by injection h with h;grind
 |x::r,a,j,h,y,g=>by
  simp only[fzs]at h;obtain⟨v,k,h⟩:=bind_some h;obtain⟨c,h1,h⟩:=bind_some h;obtain⟨e,h2,h⟩:=bind_some h;injection h with h;subst h;simp only[zQ9]at g;rcases g with g|g;exact j x (by simp) v k _ (MN h1 y g);exact gk (λz n=>j z (by simp[n])) h2 y g
theorem M9{x:AV}(h: ∀b∈avR x,S b):Rb S (jS x) st:=by
 cases x with
 |slr b i n=>
  refine cD (MQ h) λa _=>?_;grind [cP,eS]
 |agg cs=>exact cD (MQ h) λa _=>cP _
 |tup cs=>exact eS
 |_=>exact cP _
theorem Mp{x:AV}{a:AV×List (Nat×Blk)}(h:(jS x).run st=some a): ∀y∈a.2,y.1∈avR x:=by
 cases x with
 |slr b i n=>
  simp only[jS]at h;obtain⟨c,h1,h⟩:=bind_some h;split at h;injection h with h;subst h;exact MN h1;cases h
 |agg cs=>simp only[jS]at h;obtain⟨c,h1,h⟩:=bind_some h;injection h with h;subst h;exact MN h1
 |tup cs=>cases h
 |_=>injection h with h;subst h;simp
theorem OT: ∀{m:List Bool} {xs:List AV},(∀x∈xs,∀b∈avR x,S b)->Rb S (fO m xs) st|_,[],_=>by simp[fO,cP]|[],x::r,h=>cD (M9 (h x (by simp))) λa _=>cD (OT λy e=>h y (by simp[e])) λc _=>cP _|true::m,x::r,h=>cD (OT λy e=>h y (by simp[e])) λc _=>cP _|false::m,x::r,h=>cD (M9 (h x (by simp))) λa _=>cD (OT λy e=>h y (by simp[e])) λc _=>cP _
theorem OW: ∀{m:List Bool} {xs:List AV} {a:List AV×List (Nat×Blk)},(∀x∈xs,∀b∈avR x,S b)->(fO m xs).run st=some a-> ∀y∈a.2,S y.1
 |m,[],a,_,h,y,g=>by unfold fO at h;injection h with h;grind
 |[],x::r,a,j,h,y,g=>by
  simp only[fO]at h;obtain⟨c,h1,h⟩:=bind_some h;obtain⟨e,h2,h⟩:=bind_some h;injection h with h;subst h;simp only[zQ9]at g;rcases g with g|g;exact j x (by simp) _ (Mp h1 y g);exact OW (λz k=>j z (by simp[k])) h2 y g
 |true::m,x::r,a,j,h,y,g=>by simp only[fO]at h;obtain⟨e,h2,h⟩:=bind_some h;injection h with h;subst h;exact OW (λz k=>j z (by simp[k])) h2 y g
 |false::m,x::r,a,j,h,y,g=>by
  simp only[fO]at h;obtain⟨c,h1,h⟩:=bind_some h;obtain⟨e,h2,h⟩:=bind_some h;injection h with h;subst h;simp only[zQ9]at g;rcases g with g|g;exact j x (by simp) _ (Mp h1 y g);exact OW (λz k=>j z (by simp[k])) h2 y g
theorem M4{ws:List (Nat×Blk)}{b:Nat}(h:S b):Rb S (sC ws b) st:=sU h λv _=>by grind [cP]
theorem jg{ws:List (Nat×Blk)}: ∀{r:List Nat} {acc:List Ent},(∀b∈r,S b)->Rb S (eJ ws (r.map .whole) acc) st|[],acc,_=>cP _|b::r,acc,h=>by simp only[cN,eJ];refine cD (M4 (h b (by simp))) λx _=>?_;cases x<;>exact jg λc hc=>h c (by simp[hc])
theorem yc{ws:List (Nat×Blk)}{ρ:Ent->Option Nat}: ∀{r:List Nat},(∀b∈r,S b)->Rb S (lO ws ρ (r.map .whole)) st
 |[],_=>cP _
 |b::r,h=>by
  simp only[cN,lO,BW];refine cD (cD (M4 (h b (by simp))) λx _=>?_) λx _=>cD (yc λc hc=>h c (by simp[hc])) λl _=>cP _;grind [cP,eS]
theorem zn{ws:List (Nat×Blk)}{es:List Ent}{new:Nat}: ∀{r:List Nat} {l:List Blk},Rb S (jM ws es new (r.map .whole) l) st
 |[],l=>by cases l<;>exact cP _
 |b::r,[]=>eS
 |b::r,x::l=>by simp only[cN,jM];refine cD ?_ λy _=>cD zn λe _=>cP _;cases x<;>grind [vR,cP,eS]
theorem zp{ws:List (Nat×Blk)}{es:List Ent}{new:Nat}: ∀{r:List Nat} {l:List Blk} {g:List (Nat×Blk)},(jM ws es new (r.map .whole) l).run st=some g-> ∀y∈g,y.1∈r
 |[],l,g,h,y,j=>by
  have:g=[]:=by cases l<;>(injection h with h;exact h.symm)
  simp_all
 |b::r,[],g,h,_,_=>by cases h
 |b::r,x::l,g,h,y,j=>by
  simp only[cN,jM]at h;obtain⟨z,h1,h⟩:=bind_some h;obtain⟨k,h2,h⟩:=bind_some h;injection h with h;subst h;rcases cV.1 j with rfl|j;cases x with
  |box cs=>
   simp only[vR]at h1;split at h1;injection h1 with h1;subst h1;simp;cases h1
  |arr w e rows=>injection h1 with h1;subst h1;simp
  |dead=>cases h1
  exact kU _ (zp h2 y j)
theorem ma{es:List Ent}{new:Nat}: ∀{l:List Blk} {k:Nat} {n:List (Nat×Blk)},iJ es new k l=some n-> ∀y∈n,∃j,j<l.length/\y.1=k+j
 |[],k,n,h,y,g=>by injection h with h;simp_all
 | .dead::l,k,n,h,_,_=>by cases h
 | .box cs::l,k,n,h,y,g=>by
  simp only[iJ]at h;split at h;rename_i c q _ o;injection h with h;subst h;rcases cV.1 g with rfl|g;simp_all;obtain⟨j,r,e⟩:=ma o y g;exact⟨j+1,by simp;omega,by omega⟩;cases h
 | .arr w e rows::l,k,n,h,y,g=>by
  simp only[iJ]at h;split at h;rename_i q o;injection h with h;subst h;rcases cV.1 g with rfl|g;simp_all;obtain⟨j,r,e⟩:=ma o y g;exact⟨j+1,by simp;omega,by omega⟩;cases h
theorem kq(e x:Ent)(l:List Ent)(h:e∈l):e∈yS x l:=by grind [yS]
mutual
theorem JLV: ∀(x:AV) (l:List Ent) (e:Ent),e∈l->e∈cX x l| .ptr b off,l,e,h=>kq e _ l h| .slr b i n,l,e,h=>kq e _ l h| .ep b g i off,l,e,h=>kq e _ l h| .fn f a c,l,e,h=>entsL_sub c _ e (entsL_sub a l e h)| .agg cs,l,e,h=>entsL_sub cs l e h| .tup cs,l,e,h=>entsL_sub cs l e h| .p _,l,e,h=>h| .data _,l,e,h=>h| .cp _ _,l,e,h=>h| .unk,l,e,h=>h| .pre _ _ _,l,e,h=>h
theorem entsL_sub: ∀(xs:List AV) (l:List Ent) (e:Ent),e∈l->e∈cX.entsOfL xs l|[],l,e,h=>h|x::r,l,e,h=>entsL_sub r _ e (JLV x l e h)
end
theorem wq{ws:List (Nat×Blk)}: ∀{r acc l:List Ent},(eJ ws r acc).run st=some l-> ∀e∈acc,e∈l:=by
 intro r
 induction r with
 |nil=>intro acc l h e g;injection h with h;simp_all
 |cons x r ih=>
  intro acc l h e g;cases x with
  |whole b=>
   simp only[eJ]at h;obtain⟨y,_,h⟩:=bind_some h;cases y with
   |box cs=>exact ih h e (entsL_sub cs acc e g)
   |_=>exact ih h e g
  |elem b j i=>exact ih h e g
theorem xz{F:Orc}{f:FuncId}{xs:List AV}{ws:List (Nat×Blk)}{e0 k ids:List Nat}{n new:Nat}(q: ∀b∈ids,S b)(hw: ∀y∈ws,S y.1)(hn: ∀j,j<n->S (new+j))
  (h0:cX.entsOfL xs []=e0.map .whole) (h1:(eJ ws (e0.map .whole) (e0.map .whole)).run st=some (k.map .whole)) (h2:(eJ ws (k.map .whole) (k.map .whole)).run st=some (ids.map .whole)):
  Rb S (fW F f (xs,ws) n new) st/\(∀e,(fW F f (xs,ws) n new).run st=some e-> ∀y∈e.ws,S y.1):=by
 have s1: ∀b∈k,S b:=λb hb=>by have:=wq h2 (.whole b) (oM.2 ⟨b,hb,rfl⟩);simp_all
 have s0: ∀b∈e0,S b:=λb hb=>by have:=wq h1 (.whole b) (oM.2 ⟨b,hb,rfl⟩);simp_all
 constructor
 ·unfold fW;simp only[h0];refine cD (jg s0) λa g=>?_;rw[h1]at g;injection g with g;subst g
  refine cD (jg s1) λa g=>?_;rw[h2]at g;injection g with g;subst g;split
  ·split
   all_goals grind [eS,cD,yc,zn,cP]
  simp[eS]
 intro e h y r;unfold fW at h;simp only[h0]at h;obtain⟨a,g,h⟩:=bind_some h;rw[h1]at g;injection g with g;subst g;obtain⟨a,g,h⟩:=bind_some h;rw[h2]at g;injection g with g;subst g;split at h;split at h;cases h;obtain⟨bl,_,h⟩:=bind_some h;split at h;cases h;split at h;rename_i hlen;split at h;rename_i v fresh _ hf;obtain⟨o,hb,h⟩:=bind_some h;injection h with h;grind [zp,ma];cases h;cases h;cases h
end
def tcR:TC->List Nat| .ptr b _=>[b]| .slr b=>[b]| .slo b _=>[b]| .ep b _ _=>[b]| .epo b _ _ _=>[b]| .pre b _=>[b]| .pro b _ _=>[b]| .suf b _=>[b]| .suo b _ _=>[b]|_=>[]
def tvR:TV->List Nat| .a (.c x)=>tcR x| .a (.m _ cs)=>cs.flatMap tcR|_=>[]
theorem JQ6(L:Nat->Nat)(x:TC):gF (bG L x)=tcR x:=by cases x<;>rfl
theorem mH(L:Nat->Nat)(v:TV):avR (aX L v)=tvR v:=by
 cases v with
 |a x=>
  cases x with
  |c x=>cases x<;>rfl
  |dt t x=>rfl
  |m t cs=>show(cs.map (bG L)).flatMap gF=cs.flatMap tcR;simp[List.flatMap_map,JQ6]
  |fn f a c=>rfl
 |tup vs=>rfl
def rng(new:Nat):Nat->List Nat|0=>[]|k+1=>new::rng (new+1) k
theorem tA: ∀{k new j:Nat},j<k->new+j∈rng new k
 |0,_,_,h=>by omega
 |k+1,new,j,h=>by
  cases j with
  |zero=>simp[rng]
  |succ j=>simp only[rng,cV];right;rw[show new+(j+1)=new+1+j by omega];exact tA (by omega)
def iR{α β:Type}(m:Option α)(f:α->Option β):Option β:=match m with|some x=>f x|none=>none
theorem iX{α β:Type}{m:Option α}{f:α->Option β}{b:β}(h:iR m f=some b): ∃a,m=some a/\f a=some b:=by
 cases m with
 |none=>cases h
 |some a=>exact⟨a,rfl,h⟩
def qw(l:List (TV×Bool))(s:TSt):Option (List Nat):=ME l s λxs s1=>iR (HW xs []) λe=>iR (yM s1 e e) λi1=>yM s1 i1 i1
def tcU(l:List (TV×Bool))(n new:Nat)(s:TSt):Option (List Nat×List Nat):=iR (qw l s) λids=>some (rng new n++(l.flatMap λx=>tvR x.1)++ids,rng new n++(l.flatMap λx=>tvR x.1)++ids)
def tpR(s:TSt):List (Nat×TO)->Option (List Nat)|[]=>some []|(_,o)::r=>iR (tev o s) λv=>iR (tpR s r) λl=>some (tvR v++l)
def uw(op:TOp)(new:Nat)(s:TSt):Option (List Nat×List Nat):=
 match op with
 | .load _ _ x=>iR (tev x s) λv=>some (tvR v,[])
 | .newbox _=>some ([new],[new])
 | .store _ x y=>iR (tev x s) λv=>iR (tev y s) λu=>some (tvR v++tvR u,tvR v++tvR u)
 | .iaddr _ x _=>iR (tev x s) λv=>some (tvR v,[])
 | .lits own t n ps=>iR (tpR s ps) λl=>some (rng new (cQ (.lits own t n ps))++l,rng new (cQ (.lits own t n ps))++l)
 | .appn _ _ y=>iR (tev y s) λv=>some (new::tvR v,[new])
 | .app _ _ x y=>iR (tev x s) λv=>iR (tev y s) λu=>some (tvR v++tvR u,tvR v)
 | .slice _ x _ _ _=>iR (tev x s) λv=>some (tvR v,tvR v)
 | .call _ args n=>iR (xJ (args.map λx=>(x,false)) s) λl=>tcU l n new s
 | .callo _ args n=>iR (xJ args s) λl=>tcU l n new s
 | .mkslice own t bytes l c=>some (rng new (cQ (.mkslice own t bytes l c)),rng new (cQ (.mkslice own t bytes l c)))
 | .conv k x=>iR (tev x s) λv=>some (rng new (cQ (.conv k x))++tvR v,rng new (cQ (.conv k x)))
 |_=>none
theorem pH{F:Orc}{op:TOp}{new:Nat}{st:St}{S:Nat->Prop}(hd: ∀j,j<cQ op->S (new+j))(h:Rb S (opR F (erp op) new) st):Rb S (opD F (erp op) new) st:=by
 grind [opD,OK,cD,N6]
theorem pM{F:Orc}{op:AOp}{new:Nat}{st:St}{e:Eff}(h:(opD F op new).run st=some e):(opR F op new).run st=some e:=by unfold opD at h;obtain⟨_,_,h⟩:=bind_some h;exact h
def UW(F:Orc)(op:AOp)(new:Nat)(st:St)(U W:List Nat):Prop:=Rb (· ∈U) (opD F op new) st/\ ∀e,(opD F op new).run st=some e-> ∀y∈e.ws,y.1∈W
theorem mG{x:TO}{s:TSt}{v:TV}(h:tev x s=some v){a:AV}(ha:(ev (erO x)).run (JC s)=some a):a=aX (lns s.sto) v:=by
 grind [cE]
theorem L8{l:List (TV×Bool)}{s:TSt}{ids:List Nat}(h:qw l s=some ids): ∃(xs:List AV) (ws:List (Nat×Blk)) (e i1:List Nat),(fO (l.map (·.2)) (l.map λx=>aX (lns s.sto) x.1)).run (JC s)=some (xs,ws)/\
  cX.entsOfL xs []=e.map .whole/\(eJ ws (e.map .whole) (e.map .whole)).run (JC s)=some (i1.map .whole)/\(eJ ws (i1.map .whole) (i1.map .whole)).run (JC s)=some (ids.map .whole):=by
 unfold qw at h;obtain⟨xs,s1,ws,h1,g,h⟩:=j7 (Fzd.refl s) h;rw[sH]at g;obtain⟨e,h2,h⟩:=iX h;obtain⟨i1,k,j⟩:=iX h;exact⟨_,ws,e,i1,h1,WV (lns s.sto) (l:=[]) h2,DA g k,DA g j⟩
theorem JLF{F:Orc}{f:FuncId}{vs:List AV}{n new:Nat}{st:St}{S:Nat->Prop}{a:List AV×List (Nat×Blk)}(ha:(kZ vs).run st=some a)(hr:Rb S (kZ vs) st)
  (h: ∀(_:Unit),Rb S (fW F f a n new) st):Rb S (iT F f vs n new) st:=by
 unfold iT;refine cD hr λa' g=>?_;rw[ha]at g;injection g with g;subst g;have h:=h ();unfold fW at h;intro b hb;refine h b ?_
 revert hb
 simp only[zM];intro hb;rcases zQ9.1 hb with hb|hb;grind;refine zQ9.2 (.inr ?_)
 revert hb
 cases(eJ a.2 (cX.entsOfL a.1 []) (cX.entsOfL a.1 [])).run st with
 |none=>grind
 |some j=>
  simp only[cZ,Option.getD_some,zM];intro hb;rcases zQ9.1 hb with hb|hb;grind;refine zQ9.2 (.inr ?_)
  revert hb
  cases(eJ a.2 j j).run st with
  |none=>grind
  |some es=>
   simp only[cZ,Option.getD_some];split;split;grind;simp only[zM];intro hb;rcases zQ9.1 hb with hb|hb;grind;refine zQ9.2 (.inr ?_)
   revert hb
   cases(lO a.2 (λe=>dN e es 0) es).run st<;>grind [RM.reads]
   grind
theorem JRA(F:Orc){op:TOp}{new:Nat}{s:TSt}{U W:List Nat}(h:uw op new s=some (U,W)):UW F (erp op) new (JC s) U W:=by
 unfold uw at h;split at h;rename_i agg t x;obtain⟨v,A,h⟩:=iX h;injection h with h;injection h with h1 h2;subst h1 h2;refine⟨pH (op:=.load agg t x) (λj w=>by grind [cQ]) (cD (lH _) λa r=>?_),λe g y B=>?_⟩;rw[mG A r];grind [JNx,mH];have g:=pM g;simp only[erp,opR]at g;obtain⟨a,r,g⟩:=bind_some g;grind [JNm];rename_i t;injection h with h;injection h with h1 h2;subst h1 h2;refine⟨pH (op:=.newbox t) (λj w=>by grind [cQ]) (cP _),λe g y B=>?_⟩;have g:=pM g;injection g with g;grind;rename_i t x y;obtain⟨v,A,h⟩:=iX h;obtain⟨u,D,h⟩:=iX h;injection h with h;injection h with h1 h2;subst h1 h2;refine⟨pH (op:=.store t x y) (λj w=>by grind [cQ]) (cD (lH _) λa r=>cD (lH _) λc hc=>?_),λe g z G=>?_⟩;rw[mG A r,mG D hc];grind [JLD,mH];have g:=pM g;simp only[erp,opR]at g;obtain⟨a,r,g⟩:=bind_some g;obtain⟨c,hc,g⟩:=bind_some g;have:=JMj g z G;rwa[mG A r,mG D hc,mH,mH]at this;rename_i t x i;obtain⟨v,A,h⟩:=iX h;injection h with h;injection h with h1 h2;subst h1 h2;refine⟨pH (op:=.iaddr t x i) (λj w=>by grind [cQ]) (cD (lH _) λa r=>cD (lH _) λc hc=>?_),λe g y B=>?_⟩;rw[mG A r];grind [JJR,mH];have g:=pM g;simp only[erp,opR]at g;obtain⟨a,r,g⟩:=bind_some g;obtain⟨c,hc,g⟩:=bind_some g;grind [JMc];rename_i own t n ps;obtain⟨l,hl,h⟩:=iX h;injection h with h;injection h with h1 h2;subst h1 h2;have N: ∀x∈ps.map (λx=>erO x.2),∀v,(ev x).run (JC s)=some v-> ∀b∈avR v,b∈rng new (cQ (.lits own t n ps))++l:=by
  have V: ∀(ps:List (Nat×TO)) (l:List Nat),tpR s ps=some l-> ∀x∈ps.map (λx=>erO x.2),∀v,(ev x).run (JC s)=some v-> ∀b∈avR v,b∈l:=by
   intro ps
   induction ps with
   |nil=>simp_all
   |cons p ps ih=>
    intro l hl x J v A b hb;obtain⟨i,o⟩:=p;simp only[tpR]at hl;obtain⟨u,D,hl⟩:=iX hl;obtain⟨q,hq,hl⟩:=iX hl;injection hl with hl;subst hl;simp only[cN,cV]at J;rcases J with rfl|J;rw[mG D A,mH]at hb;simp[hb];grind
  grind
 have H:(ps.map λx=>(x.1,erO x.2)).map (·.2)=ps.map λx=>erO x.2:=by simp
 refine⟨pH (op:=.lits own t n ps) (λj w=>zQ9.2 (.inl (tA w))) ?_,λe g y B=>?_⟩;grind [erp,opR,cD,K0,cP,eS];have g:=pM g;simp only[erp,opR,H]at g;obtain⟨a,r,g⟩:=bind_some g;split at g;split at g;rename_i I;injection g with g;subst g;simp only[zQ9,eO]at B;rcases B with B|rfl;exact gk N r y B;exact zQ9.2 (.inl (by have:=tA (k:=cQ (.lits own t n ps)) (new:=new) (j:=0) (by simp[cQ,I]);grind));injection g with g;subst g;exact gk N r y B;cases g;rename_i t bytes y;obtain⟨v,A,h⟩:=iX h;injection h with h;injection h with h1 h2;subst h1 h2;refine⟨pH (op:=.appn t bytes y) (λj w=>by grind [cQ]) (cD (lH _) λa r=>?_),λe g z G=>?_⟩;rw[mG A r];grind [cD,i5,mH,cP,eS];have g:=pM g;simp only[erp,opR]at g;obtain⟨a,r,g⟩:=bind_some g;obtain⟨rows,_,g⟩:=bind_some g;split at g;injection g with g;grind;cases g;rename_i t bytes x y;obtain⟨v,A,h⟩:=iX h;obtain⟨u,D,h⟩:=iX h;injection h with h;injection h with h1 h2;subst h1 h2;refine⟨pH (op:=.app t bytes x y) (λj w=>by grind [cQ]) (cD (lH _) λa r=>cD (lH _) λc hc=>?_),λe g z G=>?_⟩;rw[mG A r,mG D hc];grind [JQG,mH];have g:=pM g;simp only[erp,opR]at g;obtain⟨a,r,g⟩:=bind_some g;obtain⟨c,hc,g⟩:=bind_some g;have:=JPu g z G;rwa[mG A r,mH]at this;rename_i P x lo hi mx;obtain⟨v,A,h⟩:=iX h;injection h with h;injection h with h1 h2;subst h1 h2;refine⟨pH (op:=.slice P x lo hi mx) (λj w=>by grind [cQ]) (cD (lH _) λa r=>cD (ug _) λ_ _=>cD (ug _) λ_ _=>cD (ug _) λ_ _=>?_),λe g z G=>?_⟩;have e:=mG A r;grind [cD,MQ,mH,cP,eS,Lo];have g:=pM g;simp only[erp,opR]at g;obtain⟨a,r,g⟩:=bind_some g;obtain⟨_,_,g⟩:=bind_some g;obtain⟨_,_,g⟩:=bind_some g;obtain⟨_,_,g⟩:=bind_some g;have Z:=mG A r;split at g;obtain⟨y,B,g⟩:=bind_some g;split at g;split at g;injection g with g;grind [MN,mH];cases g;cases g;grind [UK];rename_i f args n;obtain⟨l,hl,h⟩:=iX h;unfold tcU at h;obtain⟨ids,hi,h⟩:=iX h;injection h with h;injection h with h1 h2;subst h1 h2;obtain⟨xs,ws,R,i1,C,M,L,K⟩:=L8 hi;obtain⟨H,O⟩:=CM hl;rw[VO]at H;rw[PP _ _ (λx J=>by simp_all)]at C;have hA: ∀x∈l.map (λx=>aX (lns s.sto) x.1),∀b∈avR x,b∈rng new n++(l.flatMap λx=>tvR x.1)++ids:=(by grind [mH]);have Y:Rb (· ∈rng new n++(l.flatMap λx=>tvR x.1)++ids) (kZ (l.map λx=>aX (lns s.sto) x.1)) (JC s):=by rw[<-XF];grind [OT]
 have E: ∀y∈ws,y.1∈rng new n++(l.flatMap λx=>tvR x.1)++ids:=by rw[<-XF]at C;exact OW (S:=(· ∈rng new n++(l.flatMap λx=>tvR x.1)++ids)) hA C
 obtain⟨Q,T⟩:=xz (F:=F) (f:=f) (S:=(· ∈rng new n++(l.flatMap λx=>tvR x.1)++ids)) (n:=n) (new:=new) (λb hb=>by simp[hb]) E
  (λj w=>by grind [tA]) M L K
 refine⟨pH (op:=.call f args n) (λj w=>by simp only[zQ9];exact .inl (.inl (tA w))) (cD (gp _) λa r=>?_),λe g y B=>?_⟩;grind [JLF];have g:=pM g;simp only[erp,opR]at g;obtain⟨a,r,g⟩:=bind_some g;grind [Mh];rename_i f args n;obtain⟨l,hl,h⟩:=iX h;unfold tcU at h;obtain⟨ids,hi,h⟩:=iX h;injection h with h;injection h with h1 h2;subst h1 h2;obtain⟨xs,ws,R,i1,C,M,L,K⟩:=L8 hi;obtain⟨H,O⟩:=CM hl;have hA: ∀x∈l.map (λx=>aX (lns s.sto) x.1),∀b∈avR x,b∈rng new n++(l.flatMap λx=>tvR x.1)++ids:=(by grind [mH]);rw[O]at C;have E: ∀y∈ws,y.1∈rng new n++(l.flatMap λx=>tvR x.1)++ids:=OW (S:=(· ∈rng new n++(l.flatMap λx=>tvR x.1)++ids)) hA C;obtain⟨Q,T⟩:=xz (F:=F) (f:=f) (S:=(· ∈rng new n++(l.flatMap λx=>tvR x.1)++ids)) (n:=n) (new:=new) (λb hb=>by simp[hb]) E
  (λj w=>by grind [tA]) M L K
 refine⟨pH (op:=.callo f args n) (λj w=>by simp only[zQ9];exact .inl (.inl (tA w))) (cD (gp _) λa r=>?_),λe g y B=>?_⟩;grind [cD,OT];have g:=pM g;simp only[erp,opR]at g;obtain⟨a,r,g⟩:=bind_some g;rw[H]at r;injection r with r;subst r;obtain⟨a,r,g⟩:=bind_some g;grind;rename_i own t bytes l c;injection h with h;injection h with h1 h2;subst h1 h2;refine⟨pH (op:=.mkslice own t bytes l c) (λj w=>tA w) (cD (lH _) λa r=>cD (lH _) λd hd=>?_),λe g y B=>?_⟩;grind [cP,eS];have g:=pM g;simp only[erp,opR]at g;obtain⟨a,r,g⟩:=bind_some g;obtain⟨d,hd,g⟩:=bind_some g;split at g;split at g;split at g;rename_i I;injection g with g;subst g;simp only[eO]at B;subst B;have:=tA (k:=cQ (.mkslice own t bytes l c)) (new:=new) (j:=0) (by simp[cQ,I]);grind;injection g with g;grind;cases g;cases g;rename_i k x;obtain⟨v,A,h⟩:=iX h;injection h with h;injection h with h1 h2;subst h1 h2;refine⟨pH (op:=.conv k x) (λj w=>zQ9.2 (.inl (tA w))) (cD (lH _) λa r=>?_),λe g y B=>?_⟩;have hr: ∀b∈avR a,b∈rng new (cQ (.conv k x))++tvR v:=λb hb=>by rw[mG A r,mH]at hb;simp[hb]
 grind [cP,cD,i5,eS];have g:=pM g;simp only[erp,opR]at g;obtain⟨a,r,g⟩:=bind_some g;split at g;injection g with g;grind;injection g with g;grind;obtain⟨rows,_,g⟩:=bind_some g;split at g;injection g with g;grind;cases g;split at g;rename_i I;injection g with g;grind [cQ,rng];injection g with g;grind;cases g;cases h
abbrev qG:=Option (List Nat×List Nat)
section
variable {R:Type}
def G1(i:jV)(s:TSt):Bool:=match i.g with|none=>false|some (g,e)=>if i.dst=some g then false else match tlk g s.env with|some (.a (.c (.d .b x)))=>if x=e then false else true|some (.tup [])=>true|_=>false
def uwI(i:jV)(new:Nat)(s s':TSt):qG:=if G1 i s'=true then some ([],[])else uw i.op new s
def SM(G:TG):List jV->Nat->TSt->List qG->(TSt->List qG->Option R)->Option R|[],_,s,l,k=>k s l|i::r,new,s,l,k=>cl G i new s λs'=>SM G r (new+cQ i.op) s' (l++[uwI i new s s']) k
def vF:qG->(List Nat×List Nat)->Prop|none,_=>True|some (U,W),x=>(∀b∈x.1,b∈U)/\ ∀b∈x.2,b∈W
def TH(l:List qG):List (Nat×Nat)->Bool
 |[]=>true
 |(i,j)::r=>(match l[i]?,l[j]? with
  |some (some a),some (some b)=>gQ a.2 b.1&&gQ a.2 b.2&&gQ a.1 b.2
  |_,_=>false)&&TH l r
theorem PI{b:Nat}: ∀{l:List Loc},b∈kK l->Loc.blk b∈l
 | .blk c::r,h=>by
  simp only[kK,cV]at h;rcases h with rfl|h;simp;simp[PI h]
 | .slot n::r,h=>by simp only[kK]at h;simp[PI h]
theorem vF.snoc{l:List qG}{l0:Log}{x:qG}{y:List Nat×List Nat}(hl:l.length=l0.length)(ho: ∀(j:Nat) a b,l[j]?=some a->l0[j]?=some b->vF a b)(hx:vF x y)(j:Nat)(a:qG)(b:List Nat×List Nat)(ha:(l++[x])[j]?=some a)(hb:(l0++[y])[j]?=some b):vF a b:=by
 grind
theorem JO8{F:Orc}{i:jV}{new:Nat}{s s':TSt}{e:Eff}(h:(cJ F (eri i) new).run (JC s)=some e)(hp:put i.dst e (JC s)=JC s'):vF (uwI i new s s') (kK ((cJ F (eri i) new).reads (JC s)),e.ws.map (·.1)):=by
 unfold uwI;split;rename_i j;unfold G1 at j;split at j;cases j;rename_i g k B;split at j;cases j;rename_i hd;have r:lk g (JC s').env=lk g (JC s).env:=(by rw[<-hp];unfold put;grind [lk]);have n: ∀v,tlk g s'.env=some v->lk g (JC s).env=some (aX (lns s'.sto) v):=λv z=>by
  rw[<-r];show lk g (fV _ s'.env)=_;grind [CJ]
 split at j;rename_i x o;split at j;cases j;rename_i C;have hl:=n _ o;rw[e_b]at hl;have hi:cJ F (eri i) new=.slot g fun
  | .p (.b x)=>if x=k then opD F (eri i).op new else .ret ⟨hE,[]⟩
  | .tup []=>.ret ⟨hE,[]⟩
  |_=>.fail:=by grind [cJ,eri]
 rw[hi]at h⊢;refine⟨λb hb=>?_,λb hb=>?_⟩;have:=PI hb;grind [RM.reads];grind [zD,bP];rename_i o;have hl:=n _ o;have hl:lk g (JC s).env=some (.tup []):=hl;have hi:cJ F (eri i) new=.slot g fun
  | .p (.b x)=>if x=k then opD F (eri i).op new else .ret ⟨hE,[]⟩
  | .tup []=>.ret ⟨hE,[]⟩
  |_=>.fail:=by grind [cJ,eri]
 rw[hi]at h⊢;refine⟨λb hb=>?_,λb hb=>?_⟩;have:=PI hb;grind [RM.reads];grind [zD,bP];cases j
 ·cases hu:uw i.op new s with
  |none=>trivial
  |some q=>
   obtain⟨U,W⟩:=q;obtain⟨h1,h2⟩:=JRA F hu;have A:Rb (· ∈U) (cJ F (eri i) new) (JC s):=by
    unfold cJ;split;exact h1
    ·refine N9 λv z=>?_;split
     split;exact h1;simp[cP]
     all_goals simp[cP,eS]
   refine⟨λb hb=>A b (PI hb),λb hb=>?_⟩;obtain⟨y,w,rfl⟩:=oM.1 hb;unfold cJ at h;split at h;exact h2 e h y w;simp only[zD]at h;obtain⟨v,z,h⟩:=bQ.1 h;split at h;split at h;exact h2 e h y w;injection h with h;grind;injection h with h;grind;cases h
theorem O4{F:Orc}{G:TG}(o:GOk F G): ∀{ins:List jV} {new:Nat} {s:TSt} {l:List qG} {l0:Log} {k:TSt->List qG->Option R} {r:R},l.length=l0.length->(∀(j:Nat) a b,l[j]?=some a->l0[j]?=some b->vF a b)->
  SM G ins new s l k=some r-> ∃s' l' g,kI F (ins.map eri) new (JC s) l0=some (JC s',l')/\k s' g=some r/\g.length=l'.length/\ ∀(j:Nat) a b,g[j]?=some a->l'[j]?=some b->vF a b
 |[],new,s,l,l0,k,r,hl,n,h=>⟨s,l0,l,rfl,h,hl,n⟩
 |i::q,new,s,l,l0,k,r,hl,n,h=>by
  simp only[SM]at h;obtain⟨e,s1,h1,h2,h⟩:=N2 o h;obtain⟨v,l',g,z,x,y,w⟩:=O4 o (l0:=l0++[(kK ((cJ F (eri i) new).reads (JC s)),e.ws.map (·.1))]) (by grind) (vF.snoc hl n (JO8 h1 h2)) h;refine⟨v,l',g,?_,x,y,w⟩;grind [kI,eri,OK]
theorem kh{a b a' e:List Nat}(h:gQ a' e=true)(ha: ∀x∈a,x∈a')(hb: ∀x∈b,x∈e):gQ a b=true:=by
 grind [gQ]
theorem Pc{l:List qG}{l':Log}(hl:l.length=l'.length)(ho: ∀(j:Nat) a b,l[j]?=some a->l'[j]?=some b->vF a b): ∀{ps:List (Nat×Nat)},TH l ps=true->IN l' ps=true
 |[],_=>rfl
 |(i,j)::r,h=>by
  simp only[TH,aY]at h;obtain⟨h1,h2⟩:=h;simp only[IN,aY];refine⟨?_,Pc hl ho h2⟩;split at h1;rename_i a b n hb;have hi:i<l'.length:=by grind
  have k:j<l'.length:=by grind
  have e:=ho i _ _ n (bC hi);have g:=ho j _ _ hb (bC k);rw[bC hi,bC k];simp only[aY]at h1⊢;exact⟨⟨kh h1.1.1 e.2 g.1,kh h1.1.2 e.2 g.2⟩,kh h1.2 e.1 g.2⟩;cases h1
def ra(G:TG)(pairs:List (Nat×Nat))(ins:List jV)(s:TSt)(k:TSt->Option R):Option R:=
 match pairs with
 |[]=>dr G ins s.sto.length (RX (NA ins) s) k
 |p::ps=>SM G ins s.sto.length (RX (NA ins) s) [] λs' l=>if TH l (p::ps)=true then k s' else none
theorem JOh{F:Orc}{G:TG}(e:GOk F G){pairs:List (Nat×Nat)}{ins:List jV}{s:TSt}{k:TSt->Option R}{r:R}(h:ra G pairs ins s k=some r): ∃s',region F pairs (ins.map eri) (JC s)=some (JC s')/\k s'=some r:=by
 have hlen:(JC s).sto.length=s.sto.length:=by simp[JC]
 unfold ra at h;split at h;grind [Ml,region,ki,wi];obtain⟨s',l',n,h1,h2,q,o⟩:=O4 e (l0:=[]) rfl (λj a b g hb=>by simp at g) h;grind [region,ki,wi,Pc]
end
end Go.Am
end
section
namespace Go.Am
def xY(m:Nat)(ids:List Nat)(s:TSt):TC->Option TC
 | .ptr b p=>if b<m then some (.ptr b p)else match eY b ids m with|some k=>some (.ptr k p)|none=>match s.sto[b]? with|some (.box t x)=>some (.cp t x p)|_=>none
 | .slr b=>if b<m then some (.slr b)else match eY b ids m with|some k=>some (.slr k)|none=>match s.sto[b]? with|some (.arr _ t rows)=>some (.d (.l t) rows)|_=>none
 | .slo b n=>if b<m then some (.slo b n)else match eY b ids m with|some k=>some (.slo k n)|none=>none
 | .ep b i p=>if b<m then some (.ep b i p)else match eY b ids m with|some k=>some (.ep k i p)|none=>none
 | .epo b e i p=>if b<m then some (.epo b e i p)else match eY b ids m with|some k=>some (.epo k e i p)|none=>none
 | .pre _ _=>none
 | .pro _ _ _=>none
 | .suf _ _=>none
 | .suo _ _ _=>none
 |x=>some x
def BV(m:Nat)(ids:List Nat)(s:TSt):List TC->Option (List TC)|[]=>some []|x::r=>match xY m ids s x,BV m ids s r with|some y,some l=>some (y::l)|_,_=>none
def HC(m:Nat)(ids:List Nat)(s:TSt):TA->Option TA
 | .c x=>match xY m ids s x with|some y=>some (.c y)|none=>none
 | .dt t x=>some (.dt t x)
 | .m t cs=>match BV m ids s cs with
  |some l=>match asm t l with|some x=>some (.dt t x)|none=>if l.any cj=true then some (.m t l)else none
  |none=>none
 | .fn f a c=>match BV m ids s a,BV m ids s c with|some a,some c=>some (.fn f a c)|_,_=>none
def NG(m:Nat)(ids:List Nat)(s:TSt):List TA->Option (List TA)|[]=>some []|x::r=>match HC m ids s x,NG m ids s r with|some y,some l=>some (y::l)|_,_=>none
def sk(m:Nat)(ids:List Nat)(s:TSt):TV->Option TV
 | .a x=>match HC m ids s x with|some y=>some (.a y)|none=>none
 | .tup vs=>match NG m ids s vs with|some l=>some (.tup l)|none=>none
def MI(m:Nat)(ids:List Nat)(s:TSt):TB->Option TB
 | .mbox t cs=>match BV m ids s cs with|some l=>some (mkb t l)|none=>none
 |x=>some x
def yQ(m:Nat)(ids:List Nat)(s:TSt):List TB->Option (List TB)|[]=>some []|x::r=>match MI m ids s x,yQ m ids s r with|some y,some l=>some (y::l)|_,_=>none
def SE(m:Nat)(s:TSt):List (Nat×TV)->Option (List (Nat×TV))|[]=>some []|(k,x)::r=>match sk m [] s x,SE m s r with|some y,some l=>some ((k,y)::l)|_,_=>none
def rB:List Nat->List (Nat×TV)->List (Nat×TV)|[],_=>[]|k::r,env=>match tlk k env with|some v=>(k,v)::rB r env|none=>rB r env
theorem PF(L:Nat->Nat)(env:List (Nat×TV)): ∀live:List Nat,restr live (fV L env)=fV L (rB live env)
 |[]=>rfl
 |k::r=>by
  simp only[restr,rB,CJ];cases tlk k env with
  |none=>exact PF L env r
  |some v=>
   have ih:=PF L env r;grind [fV]
section
variable {m:Nat} {ids:List Nat} {s:TSt} {L':Nat->Nat} (h1: ∀b,b<m->L' b=lns s.sto b) (h2: ∀b k,eY b ids m=some k->L' k=lns s.sto b)
include h1 h2
theorem xi{x y:TC}(h:xY m ids s x=some y):fin m ids (JC s).sto (bG (lns s.sto) x)=some (bG L' y):=by
 cases x with
 |ptr b p=>
  simp only[xY]at h;simp only[bG,fin];split at h;grind;rename_i hb;rw[if_neg hb];split at h;grind [bG];rename_i j;rw[j];dsimp only;split at h;rename_i t x g;injection h with h;subst h;simp only[eH,g,cZ,CF,IR,bG];cases h
 |slr b=>
  simp only[xY]at h;simp only[bG,fin];split at h;grind
  ·rename_i hb;rw[if_neg hb];split at h
   all_goals grind [eH,va,mJ,cel,hdP]
 |slo b n=>
  grind [xY,bG,fin]
 |ep b i p=>
  grind [xY,bG,fin]
 |epo b e i p=>
  grind [xY,bG,fin]
 |_=>first|(cases h;done)|(injection h with h;subst h;rfl)
theorem VL: ∀{xs e:List TC},BV m ids s xs=some e->fin.finL m ids (JC s).sto (xs.map (bG (lns s.sto)))=some (e.map (bG L'))
 |[],e,h=>by injection h with h;subst h;rfl
 |x::r,e,h=>by
  simp only[BV]at h;split at h;rename_i y l g hl;injection h with h;subst h;simp only[cN,fin.finL,xi h1 h2 g,VL hl];cases h
theorem Pa{x y:TA}(h:HC m ids s x=some y):fin m ids (JC s).sto (bX (lns s.sto) x)=some (bX L' y):=by
 cases x with
 |c x=>
  simp only[HC]at h;split at h;rename_i y g;injection h with h;subst h;exact xi h1 h2 g;cases h
 |dt t x=>injection h with h;subst h;rfl
 |m t cs=>
  simp only[HC]at h;split at h;rename_i l hl;have e:=VL h1 h2 hl;grind [bX,fin,NT,IR,gw];cases h
 |fn f a c=>
  grind [HC,bX,fin,VL]
theorem lc: ∀{xs e:List TA},NG m ids s xs=some e->fin.finL m ids (JC s).sto (xs.map (bX (lns s.sto)))=some (e.map (bX L'))
 |[],e,h=>by injection h with h;subst h;rfl
 |x::r,e,h=>by
  simp only[NG]at h;split at h;rename_i y l g hl;injection h with h;subst h;simp only[cN,fin.finL,Pa h1 h2 g,lc hl];cases h
theorem JLj{x y:TV}(h:sk m ids s x=some y):fin m ids (JC s).sto (aX (lns s.sto) x)=some (aX L' y):=by cases x<;>grind [sk,Pa,aX,fin,lc]
theorem JKe{x y:TB}(h:MI m ids s x=some y):gH m ids (JC s).sto (bF (lns s.sto) x)=some (bF L' y):=by
 cases x with
 |mbox t cs=>
  grind [MI,OD,gH,VL,UR]
 |box t x=>injection h with h;grind [CF,gH,yh]
 |_=>injection h with h;subst h;rfl
theorem WN: ∀{xs e:List TB},yQ m ids s xs=some e->sK m ids (JC s).sto (xs.map (bF (lns s.sto)))=some (e.map (bF L'))
 |[],e,h=>by injection h with h;subst h;rfl
 |x::r,e,h=>by
  simp only[yQ]at h;split at h;rename_i y l g hl;injection h with h;subst h;simp only[cN,sK,JKe h1 h2 g,WN hl];cases h
end
theorem JJ7{m:Nat}{ids:List Nat}{s:TSt}{x y:TB}(h:MI m ids s x=some y):lnB y=lnB x:=by
 cases x with
 |mbox t cs=>
  simp only[MI]at h;split at h;injection h with h;subst h;exact VC _ _;cases h
 |_=>injection h with h;subst h;rfl
theorem XD{m:Nat}{ids:List Nat}{s:TSt}: ∀{xs e:List TB},yQ m ids s xs=some e->e.length=xs.length/\ ∀(k:Nat),lns e k=lns xs k
 |[],e,h=>by injection h with h;simp_all
 |x::r,e,h=>by
  simp only[yQ]at h;split at h;rename_i y l g hl;injection h with h;subst h;obtain⟨j,n⟩:=XD hl;refine⟨by simp[j],λk=>?_⟩;cases k with
  |zero=>exact JJ7 g
  |succ k=>exact n k
  cases h
theorem Oh{m:Nat}{s:TSt}{L':Nat->Nat}(h1: ∀b,b<m->L' b=lns s.sto b): ∀{env e:List (Nat×TV)},SE m s env=some e->xH m (JC s).sto (fV (lns s.sto) env)=some (fV L' e)
 |[],e,h=>by injection h with h;subst h;rfl
 |(k,x)::r,e,h=>by
  simp only[SE]at h;split at h;rename_i y l j hl;injection h with h;subst h;simp only[fV,cN,xH];rw[JLj (ids:=[]) h1 (λb k g=>by cases g) j];have ih:=Oh h1 hl;grind [fV];cases h
def sX(n:Nat)(live:List Nat)(s:TSt):Option TSt:=
 if s.sto.length=n then some ⟨rB live s.env,s.sto⟩
 else match SE n s (rB live s.env),yQ n [] s (s.sto.take n)with|some e,some l=>some ⟨e,l⟩|_,_=>none
theorem IU{n:Nat}{live:List Nat}{s s':TSt}(h:sX n live s=some s'):clean n live (JC s)=some (JC s'):=by
 unfold sX at h;have hlen:(JC s).sto.length=s.sto.length:=by simp[JC]
 split at h;grind [clean,JC,PF];rename_i j;split at h;rename_i e l o hl;injection h with h;subst h;obtain⟨q,w⟩:=XD hl;have hL: ∀b,b<n->lns l b=lns s.sto b:=λb hb=>by
  grind [lns]
 unfold clean;rw[hlen,if_neg j];have v:=Oh hL o;have r:=WN (ids:=[]) hL (λb k g=>by cases g) hl;grind [JC,PF,List.map_take];cases h
inductive BL where|tmp (t:Nat)|cell (t:Nat) (agg:Bool) (ty:Ty)
def erR:BL->xQ| .tmp t=>.tmp t| .cell t agg ty=>.cell t agg ty.sz
def tx(agg:Bool)(ty:Ty)(v:TV)(s:TSt):Option TA:=
 if agg=true\/ty.sz=1 then
  match v with
  | .a (.c (.ptr b []))=>match s.sto[b]? with
   |some (.box e x)=>if h:e=ty then(if agg=true then some (.dt ty (h▸x))else some (.c (.d ty (h▸x))))else none
   |some (.mbox _ cs)=>if cs.length=ty.sz then
    match mka agg ty cs with
    |some (.a x)=>some x
    |_=>none
    else none
   |_=>none
  |_=>none
 else none
theorem JKd{agg:Bool}{ty:Ty}{v:TV}{s:TSt}{x:TA}(h:tx agg ty v s=some x): ∃e,(gY agg ty.sz (aX (lns s.sto) v)).run (JC s)=some e/\e.val=bX (lns s.sto) x:=by
 unfold tx at h;split at h;rename_i r;split at h;rename_i b;split at h;rename_i g y hb;split at h;rename_i k;subst k;refine⟨⟨bX (lns s.sto) x,[]⟩,?_,rfl⟩;have hc:lQ agg ((cel g y).map .p)=pS agg (cel g y):=by
  unfold lQ pS;split;rw[IR];cases hcel:cel g y with
  |nil=>rfl
  |cons a l=>cases l<;>rfl
 have j:sub (cel g y) 0 g.sz=some (cel g y):=ib (eK _ _);have q:=HR (lns s.sto) r y;simp only[lK,spo,gY,eI,eH,hb,cZ,JE,CF,IP,j,hc,q,val,bP];unfold mkv;split at h;rename_i h1;injection h with h;subst h;rw[if_pos h1];rfl;rename_i h1;injection h with h;subst h;rw[if_neg h1];rfl;cases h;rename_i cs hb;split at h;rename_i o;split at h;rename_i y n;injection h with h;subst h;have j:sub cs 0 ty.sz=some cs:=ib o;refine⟨⟨bX (lns s.sto) y,[]⟩,?_,rfl⟩;simp only[lK,spo,gY,eI,eH,hb,cZ,JE,OD,IP,j,HX (lns s.sto) n,val,bP];rfl;cases h;cases h;cases h;cases h;cases h
def GO:List BL->TSt->Option (List TA)
 |[],_=>some []
 | .tmp t::r,s=>match tlk t s.env,GO r s with|some (.a x),some l=>some (x::l)|_,_=>none
 | .cell t agg ty::r,s=>match tlk t s.env with
  |some v=>match tx agg ty v s,GO r s with|some x,some l=>some (x::l)|_,_=>none
  |none=>none
theorem L9(s:TSt)(t:Nat):(RM.slot t RM.ret).run (JC s)=(tlk t s.env).map (aX (lns s.sto)):=by rw[zD];show(lk t (fV _ s.env)).bind _=_;simp[CJ]
theorem ij{s:TSt}: ∀{j:List BL} {l:List TA},GO j s=some l->(oS (j.map erR)).run (JC s)=some (l.map (bX (lns s.sto)))
 |[],l,h=>by injection h with h;subst h;rfl
 | .tmp t::r,l,h=>by
  simp only[GO]at h;split at h;rename_i x l' g hl;injection h with h;subst h;simp only[cN,erR,oS,run_bind,L9,g,cZ,JE,ij hl,bP];rfl;cases h
 | .cell t agg ty::r,l,h=>by
  simp only[GO]at h;split at h;rename_i v k;split at h;rename_i x l' g hl;injection h with h;subst h;obtain⟨e,n,o⟩:=JKd g;simp only[cN,erR,oS,run_bind,L9,k,cZ,JE,n,ij hl,bP,o];cases h;cases h
def MR(s:TSt):List Nat->List Nat->Option (List Nat)
 |[],acc=>some acc
 |b::r,acc=>match s.sto[b]? with
  |some (.mbox _ cs)=>match xW cs acc with|some acc=>MR s r acc|none=>none
  |some _=>MR s r acc
  |none=>none
theorem VS{s:TSt}: ∀{r acc l:List Nat},MR s r acc=some l->sM (JC s).sto (r.map .whole) (acc.map .whole)=l.map .whole
 |[],acc,l,h=>by injection h with h;subst h;rfl
 |b::r,acc,l,h=>by
  simp only[MR]at h;split at h;rename_i cs hb;split at h;rename_i e g;simp only[cN,sM,eH,hb,cZ,OD,OX (lns s.sto) g];exact VS h;cases h;rename_i x j hb;simp only[cN,sM,eH,hb,cZ];cases x with
  |mbox t cs=>simp_all
  |box t x=>simp only[CF];rw[yb];exact VS h
  |_=>exact VS h
  cases h
def mI(m:Nat)(fresh:Bool)(s:TSt):List Nat->List Nat
 |[]=>[]
 |b::r=>if b<m then mI m fresh s r else
  match s.sto[b]? with
  |some (.box _ _)=>b::mI m fresh s r
  |some (.mbox _ _)=>b::mI m fresh s r
  |some (.arr _ _ _)=>if fresh=true then b::mI m fresh s r else mI m fresh s r
  |_=>mI m fresh s r
theorem Af{m:Nat}{fresh:Bool}{s:TSt}: ∀r:List Nat,kL m fresh (JC s).sto (r.map .whole)=mI m fresh s r
 |[]=>rfl
 |b::r=>by
  simp only[cN,kL,mI,eH];rw[Af r];split;rfl;cases s.sto[b]? with
  |none=>rfl
  |some x=>cases x<;>rfl
def SP(s:TSt):List Nat->Option (List TB)|[]=>some []|b::r=>match s.sto[b]?,SP s r with|some x,some l=>some (x::l)|_,_=>none
theorem Om{s:TSt}: ∀{ids:List Nat} {l:List TB},SP s ids=some l->yB (JC s).sto ids=some (l.map (bF (lns s.sto)))/\l.length=ids.length/\ ∀(j b:Nat),ids[j]?=some b->lns l j=lns s.sto b
 |[],l,h=>by injection h with h;simp_all
 |b::r,l,h=>by
  simp only[SP]at h;split at h;rename_i x l' n hl;injection h with h;subst h;obtain⟨e,k,g⟩:=Om hl;grind [yB,eH,lns];cases h
def QK:List TA->TV|[x]=>.a x|l=>.tup l
theorem N4(L:Nat->Nat)(l:List TA):one (l.map (bX L))=aX L (QK l):=by
 match l with
 |[]=>rfl
 |[x]=>rfl
 |x::y::r=>rfl
section
variable {R:Type}
def OE(res:List BL)(fresh:Bool)(m:Nat)(s:TSt)(E:TV->List TB->Option R):Option R:=
 match GO res s with
 |none=>none
 |some vs=>
  if s.sto.length=m then E (QK vs) s.sto
  else match HW vs []with
   |none=>none
   |some e=>match MR s e e with
    |none=>none
    |some i1=>if kH (mI m fresh s i1)=true/\m<=s.sto.length then
     match NG m (mI m fresh s i1) s vs,yQ m (mI m fresh s i1) s (s.sto.take m),SP s (mI m fresh s i1)with
     |some ws,some l,some q=>match yQ m (mI m fresh s i1) s q with|some q'=>E (QK ws) (l++q')|none=>none
     |_,_,_=>none
     else none
theorem JHx{f:AFn}{res:List BL}{fresh:Bool}{m:Nat}{s:TSt}{E:TV->List TB->Option R}{r:R}(n:f.res=res.map erR)(I:f.fresh=fresh)(h:OE res fresh m s E=some r):
  ∃v out,iI f m (JC s)=some (aX (lns out) v,out.map (bF (lns out)))/\E v out=some r:=by
 unfold OE at h;have hlen:(JC s).sto.length=s.sto.length:=by simp[JC]
 split at h;cases h;rename_i vs hvs;have B:=ij hvs;split at h;rename_i y;refine⟨QK vs,s.sto,?_,h⟩;unfold iI;rw[n,B];dsimp only;rw[hlen,if_pos y,N4];rfl;rename_i y;split at h;cases h;rename_i A x;split at h;cases h;rename_i i1 o;split at h;rename_i j;obtain⟨K,W⟩:=j;generalize g:mI m fresh s i1=ids at*;split at h;rename_i ws l q w hl D;split at h;rename_i q' e;refine⟨QK ws,l++q',?_,h⟩;obtain⟨Q,F⟩:=XD hl;obtain⟨P,N,L⟩:=Om D;obtain⟨T,V⟩:=XD e;have H:l.length=m:=by simp_all
 have h1: ∀b,b<m->lns (l++q') b=lns s.sto b:=λb hb=>by
  have:=F b;grind [lns]
 have h2: ∀b k,eY b ids m=some k->lns (l++q') k=lns s.sto b:=λb k C=>by
  obtain⟨J,G⟩:=WO C;grind [lns]
 have Y:=lc h1 h2 w;have U:=WN h1 h2 hl;have Z:=WN h1 h2 e;have S:cX.entsOfL (vs.map (bX (lns s.sto))) []=A.map .whole:=WV (lns s.sto) (l:=[]) x;have M:=VS o;have z:=Af (m:=m) (fresh:=fresh) (s:=s) i1;rw[g]at z;have O:(JC s).sto.take m=(s.sto.take m).map (bF (lns s.sto)):=by simp[JC]
 grind [iI,N4];cases h;cases h;cases h
end
end Go.Am
end
section
namespace Go.Am
inductive ShC where
 |d (t:Ty)
 |sc (t:Ty)
 |np
 |nf
 |un
 |ptr (b:Nat) (p:List Sp)
 |cp (t:Ty) (p:List Sp)
 |slr (b:Nat)
 |fn (f:FuncId)
 deriving DecidableEq
inductive ShA where
 |c (x:ShC)
 |dt (t:Ty)
 |m (t:Ty) (cs:List ShC)
 |fn (f:FuncId) (a c:List ShC)
 deriving DecidableEq
inductive ShV where
 |a (x:ShA)
 |tup (vs:List ShA)
 deriving DecidableEq
inductive ShB where
 |dead
 |box (t:Ty)
 |mbox (t:Ty) (cs:List ShC)
 |arr (w:Bool) (t:Ty)
 deriving DecidableEq
structure ShS where
 env:List (Nat×ShV)
 sto:List ShB
 deriving DecidableEq
abbrev Lf:=(t:Ty)×t.D
def shC:TC->Option (ShC×List Lf)| .d t x=>some (.d t,[⟨t,x⟩])| .sc t rows=>some (.sc t,[⟨.l t,rows⟩])| .np=>some (.np,[])| .nf=>some (.nf,[])| .un=>some (.un,[])| .ptr b p=>if(uP p).isSome=true then some (.ptr b p,[])else none| .cp t x p=>if(uP p).isSome=true then some (.cp t p,[⟨t,x⟩])else none| .slr b=>some (.slr b,[])| .fn f=>some (.fn f,[])|_=>none
def lf1(t:Ty)(l:List Lf):Option (t.D×List Lf):=
 match l with
 |⟨t',x⟩::r=>if h:t'=t then some (h▸x,r)else none
 |[]=>none
def mkC:ShC->List Lf->Option (TC×List Lf)
 | .d t,l=>match lf1 t l with|some (x,r)=>some (.d t x,r)|none=>none
 | .sc t,l=>match lf1 (.l t) l with|some (x,r)=>some (.sc t x,r)|none=>none
 | .np,l=>some (.np,l)
 | .nf,l=>some (.nf,l)
 | .un,l=>some (.un,l)
 | .ptr b p,l=>some (.ptr b p,l)
 | .cp t p,l=>match lf1 t l with|some (x,r)=>some (.cp t x p,r)|none=>none
 | .slr b,l=>some (.slr b,l)
 | .fn f,l=>some (.fn f,l)
theorem yO(t:Ty)(x:t.D)(r:List Lf):lf1 t (⟨t,x⟩::r)=some (x,r):=by simp[lf1]
theorem NR{x:TC}{sh:ShC}{ls:List Lf}(h:shC x=some (sh,ls))(rest:List Lf):mkC sh (ls++rest)=some (x,rest):=by
 cases x<;>simp only[shC]at h<;>first
  |(split at h
    simp only[Option.some.injEq,Prod.mk.injEq]at h;obtain⟨rfl,rfl⟩:=h;simp only[AY,sH,mkC,yO];cases h)
  |(simp only[Option.some.injEq,Prod.mk.injEq]at h
    obtain⟨rfl,rfl⟩:=h;simp only[AY,sH,mkC,yO])
  |cases h
def shL{α σ:Type}(f:α->Option (σ×List Lf)):List α->Option (List σ×List Lf)|[]=>some ([],[])|x::r=>match f x,shL f r with|some (s,l),some (q,k)=>some (s::q,l++k)|_,_=>none
def mkL{α σ:Type}(g:σ->List Lf->Option (α×List Lf)):List σ->List Lf->Option (List α×List Lf)
 |[],l=>some ([],l)
 |s::r,l=>match g s l with
  |some (x,l)=>match mkL g r l with|some (q,l)=>some (x::q,l)|none=>none
  |none=>none
theorem qZ{α σ:Type}{f:α->Option (σ×List Lf)}{g:σ->List Lf->Option (α×List Lf)}(j: ∀{x:α} {s:σ} {ls:List Lf},f x=some (s,ls)-> ∀rest,g s (ls++rest)=some (x,rest)):
  ∀{xs:List α} {e:List σ} {ls:List Lf},shL f xs=some (e,ls)-> ∀rest,mkL g e (ls++rest)=some (xs,rest)
 |[],e,ls,h,rest=>by injection h with h;injection h with h1 h2;subst h1 h2;rfl
 |x::r,e,ls,h,rest=>by
  simp only[shL]at h;split at h;rename_i s l q k h1 h2;injection h with h;injection h with h3 h4;subst h3 h4;simp only[mkL,kY,j h1,qZ j h2];cases h
def shA:TA->Option (ShA×List Lf)
 | .c x=>match shC x with|some (s,l)=>some (.c s,l)|none=>none
 | .dt t x=>some (.dt t,[⟨t,x⟩])
 | .m t cs=>match shL shC cs with|some (s,l)=>some (.m t s,l)|none=>none
 | .fn f a c=>match shL shC a,shL shC c with|some (s,l),some (q,k)=>some (.fn f s q,l++k)|_,_=>none
def mkA:ShA->List Lf->Option (TA×List Lf)
 | .c s,l=>match mkC s l with|some (x,l)=>some (.c x,l)|none=>none
 | .dt t,l=>match lf1 t l with|some (x,l)=>some (.dt t x,l)|none=>none
 | .m t s,l=>match mkL mkC s l with|some (x,l)=>some (.m t x,l)|none=>none
 | .fn f a c,l=>match mkL mkC a l with
  |some (x,l)=>match mkL mkC c l with|some (y,l)=>some (.fn f x y,l)|none=>none
  |none=>none
theorem gf{x:TA}{sh:ShA}{ls:List Lf}(h:shA x=some (sh,ls))(rest:List Lf):mkA sh (ls++rest)=some (x,rest):=by
 cases x with
 |c x=>
  simp only[shA]at h;split at h;rename_i s l h1;injection h with h;injection h with h2 h3;subst h2 h3;simp only[mkA,NR h1];cases h
 |dt t x=>injection h with h;grind [mkA,yO]
 |m t cs=>
  simp only[shA]at h;split at h;rename_i s l h1;injection h with h;injection h with h2 h3;subst h2 h3;simp only[mkA,qZ NR h1];cases h
 |fn f a c=>
  simp only[shA]at h;split at h;rename_i s l q k h1 h2;injection h with h;injection h with h3 h4;subst h3 h4;simp only[mkA,kY,qZ NR h1,qZ NR h2];cases h
def shV:TV->Option (ShV×List Lf)
 | .a x=>match shA x with|some (s,l)=>some (.a s,l)|none=>none
 | .tup vs=>match shL shA vs with|some (s,l)=>some (.tup s,l)|none=>none
def mkV:ShV->List Lf->Option (TV×List Lf)
 | .a s,l=>match mkA s l with|some (x,l)=>some (.a x,l)|none=>none
 | .tup s,l=>match mkL mkA s l with|some (x,l)=>some (.tup x,l)|none=>none
theorem K6{x:TV}{sh:ShV}{ls:List Lf}(h:shV x=some (sh,ls))(rest:List Lf):mkV sh (ls++rest)=some (x,rest):=by
 cases x with
 |a x=>
  simp only[shV]at h;split at h;rename_i s l h1;injection h with h;injection h with h2 h3;subst h2 h3;simp only[mkV,gf h1];cases h
 |tup vs=>
  simp only[shV]at h;split at h;rename_i s l h1;injection h with h;injection h with h2 h3;subst h2 h3;simp only[mkV,qZ gf h1];cases h
def shB:TB->Option (ShB×List Lf)
 | .dead=>some (.dead,[])
 | .box t x=>some (.box t,[⟨t,x⟩])
 | .mbox t cs=>match shL shC cs with|some (s,l)=>some (.mbox t s,l)|none=>none
 | .arr w t rows=>some (.arr w t,[⟨.l t,rows⟩])
def mkB:ShB->List Lf->Option (TB×List Lf)
 | .dead,l=>some (.dead,l)
 | .box t,l=>match lf1 t l with|some (x,l)=>some (.box t x,l)|none=>none
 | .mbox t s,l=>match mkL mkC s l with|some (x,l)=>some (.mbox t x,l)|none=>none
 | .arr w t,l=>match lf1 (.l t) l with|some (x,l)=>some (.arr w t x,l)|none=>none
theorem fw{x:TB}{sh:ShB}{ls:List Lf}(h:shB x=some (sh,ls))(rest:List Lf):mkB sh (ls++rest)=some (x,rest):=by
 cases x with
 |dead=>injection h with h;injection h with h2 h3;subst h2 h3;rfl
 |box t x=>injection h with h;grind [mkB,yO]
 |mbox t cs=>
  simp only[shB]at h;split at h;rename_i s l h1;injection h with h;injection h with h2 h3;subst h2 h3;simp only[mkB,qZ NR h1];cases h
 |arr w t rows=>injection h with h;grind [mkB,yO]
def shE(x:Nat×TV):Option ((Nat×ShV)×List Lf):=match shV x.2 with|some (s,l)=>some ((x.1,s),l)|none=>none
def mkE(x:Nat×ShV)(l:List Lf):Option ((Nat×TV)×List Lf):=match mkV x.2 l with|some (v,l)=>some ((x.1,v),l)|none=>none
theorem JOY{x:Nat×TV}{sh:Nat×ShV}{ls:List Lf}(h:shE x=some (sh,ls))(rest:List Lf):mkE sh (ls++rest)=some (x,rest):=by
 unfold shE at h;split at h;rename_i s l h1;injection h with h;injection h with h2 h3;subst h2 h3;simp only[mkE,K6 h1];cases h
def shS(s:TSt):Option (ShS×List Lf):=match shL shE s.env,shL shB s.sto with|some (a,l),some (c,k)=>some (⟨a,c⟩,l++k)|_,_=>none
def xP(s:ShS)(l:List Lf):Option TSt:=match mkL mkE s.env l with
 |some (a,l)=>match mkL mkB s.sto l with|some (c,[])=>some ⟨a,c⟩|_=>none
 |none=>none
theorem Mr{x:TSt}{sh:ShS}{ls:List Lf}(h:shS x=some (sh,ls)):xP sh ls=some x:=by
 unfold shS at h;split at h;rename_i a l c k h1 h2;injection h with h;injection h with h3 h4;subst h3 h4;have e:=qZ fw h2 [];rw[iQ]at e;simp only[xP,qZ JOY h1,e];cases h
def tyL:List Ty->Ty|[]=>.u|[t]=>t|t::t'::r=>.pr t (tyL (t'::r))
def xM:(ls:List Lf)->(tyL (ls.map (·.1))).D|[]=>()|[x]=>x.2|x::y::r=>(x.2,xM (y::r))
def pE:(ts:List Ty)->(tyL ts).D->List Lf|[],_=>[]|[t],x=>[⟨t,x⟩]|t::t'::r,x=>⟨t,x.1⟩::pE (t'::r) x.2
theorem lq: ∀ls:List Lf,pE (ls.map (·.1)) (xM ls)=ls
 |[]=>rfl
 |[x]=>rfl
 |x::y::r=>by
  have:=lq (y::r);grind [pE,xM]
def asL(ts:List Ty)(ls:List Lf):Option (tyL ts).D:=if h:ls.map (·.1)=ts then some (h▸xM ls)else none
theorem vf{ts:List Ty}{ls:List Lf}{x:(tyL ts).D}(h:asL ts ls=some x):pE ts x=ls:=by
 grind [asL,lq]
def GE(sh:ShS)(ts:List Ty)(s:TSt):Option (tyL ts).D:=match shS s with|some (e,ls)=>if e=sh then asL ts ls else none|none=>none
theorem Lw{sh:ShS}{ts:List Ty}{s:TSt}{x:(tyL ts).D}(h:GE sh ts s=some x):xP sh (pE ts x)=some s:=by
 grind [GE,vf,Mr]
inductive TCo where|skip|bad|reg (draw:Bool) (pairs:List (Nat×Nat)) (ins:List jV)|seq (a b:TCo)|cond (c:TO) (a b:TCo)|block (id:Nat) (c:TCo)|loop (live:List Nat) (c:TCo)|scope (c:TCo)|exit (id:Nat)|ret|keep (live:List Nat) (c:TCo)|tidy (live:List Nat) (c:TCo)|jn (sh:ShS) (ts:List Ty) (a b:TCo)
def erc:TCo->cL| .skip=>.skip| .bad=>.bad| .reg d p ins=>.reg d p (ins.map eri)| .seq a b=>.seq (erc a) (erc b)| .cond c a b=>.cond (erO c) (erc a) (erc b)| .block id c=>.block id (erc c)| .loop live c=>.loop live (erc c)| .scope c=>.scope (erc c)| .exit id=>.exit id| .ret=>.ret| .keep live c=>.keep live (erc c)| .tidy live c=>.tidy live (erc c)| .jn sh _ a b=>.seq (erc a) (.keep (sh.env.map (·.1)) (erc b))
structure TK(R:Type) where
 n:TSt->Option R
 x:Nat->TSt->Option R
 r:TSt->Option R
def TK.at'{R:Type}(K:TK R):AX->TSt->Option R| .normal=>K.n| .exit i=>K.x i| .ret=>K.r
def rbO(c:TO)(v:Bool)(s:TSt):TSt:=match c with| .t n=>rb n (vb v) s| .c _=>s
def jnO{σ R:Type}(m:Option (σ⊕R))(f:σ->Option R):Option R:=match m with|some (.inl x)=>f x|some (.inr r)=>some r|none=>none
def inl?{σ R:Type}(m:Option σ):Option (σ⊕R):=match m with|some x=>some (.inl x)|none=>none
def onO{α R:Type}(m:Option α)(k:α->Option R):Option R:=match m with|some x=>k x|none=>none
theorem tH{α R:Type}{m:Option α}{k:α->Option R}{r:R}(h:onO m k=some r): ∃x,m=some x/\k x=some r:=by
 cases m with
 |none=>cases h
 |some x=>exact⟨x,rfl,h⟩
def ZV{R:Type}(clean:TSt->Option TSt)(body:(TSt->Option R)->TSt->Option R):Nat->TSt->Option R|0,_=>none|k+1,s=>body (λs'=>onO (clean s') (ZV clean body k)) s
def orO{σ R:Type}(m:Option σ)(f:Unit->Option R):Option (σ⊕R):=match m with|some x=>some (.inl x)|none=>(f ()).map .inr
noncomputable def trc(G:TG):TCo->(R:Type)->TK R->TSt->Option R
 | .skip,_,K,s=>K.n s
 | .bad,_,_,_=>none
 | .reg _ p ins,_,K,s=>ra G p ins s K.n
 | .seq a b,R,K,s=>trc G a R ⟨λs=>trc G b R K s,K.x,K.r⟩ s
 | .cond c a b,R,K,s=>match tev c s with|some (.a (.c (.d .b x)))=>if x=true then trc G a R K (rbO c true s)else trc G b R K (rbO c false s)|_=>none
 | .block id c,R,K,s=>trc G c R ⟨K.n,λi s=>if i=id then K.n s else K.x i s,K.r⟩ s
 | .loop live c,R,K,s=>onO (shS ⟨rB live s.env,s.sto⟩) fun(sh,ls)=>
   J4 (λx:(tyL (ls.map (·.1))).D=>onO (xP sh (pE (ls.map (·.1)) x)) λs1=>
    trc G c ((tyL (ls.map (·.1))).D⊕R) ⟨λs'=>onO (sX s.sto.length live s') λs'=>orO (GE sh (ls.map (·.1)) s') λ_=>ZV (sX s.sto.length live) (λagain s=>trc G c R ⟨again,K.x,K.r⟩ s) 3 s',λi s'=>(K.x i s').map .inr,λs'=>(K.r s').map .inr⟩ s1) (xM ls)
 | .scope c,R,K,s=>trc G c R K s
 | .exit id,_,K,s=>K.x id s
 | .ret,_,K,s=>K.r s
 | .keep live c,R,K,s=>trc G c R K ⟨rB live s.env,s.sto⟩
 | .tidy live c,R,K,s=>trc G c R ⟨λs'=>onO (sX s.sto.length live s') K.n,λi s'=>onO (sX s.sto.length live s') (K.x i),λs'=>onO (sX s.sto.length live s') K.r⟩ s
 | .jn sh ts a b,R,K,s=>jnO (trc G a ((tyL ts).D⊕R) ⟨λs'=>inl? (GE sh ts ⟨rB (sh.env.map (·.1)) s'.env,s'.sto⟩),λi s'=>(K.x i s').map .inr,λs'=>(K.r s').map .inr⟩ s)
   λx=>onO (xP sh (pE ts x)) λs1=>trc G b R K s1
theorem jl(live:List Nat)(s:TSt):JC ⟨rB live s.env,s.sto⟩=⟨restr live (JC s).env,(JC s).sto⟩:=by simp[JC,PF]
theorem Kl{c:TO}{x:Bool}{s:TSt}(h:tev c s=some (vb x)):rbO c x s=s:=by
 cases c with
 |t n=>exact ux h
 |c v=>rfl
theorem JL9{σ R:Type}{m:Option σ}{o:σ⊕R}(h:inl? m=some o): ∃x,m=some x/\o=.inl x:=by
 cases m with
 |none=>cases h
 |some x=>injection h with h;simp_all
theorem mF{T:dM}{G:TG}(q:GOk (AF T) G): ∀{c:TCo} {R:Type} {K:TK R} {s:TSt} {r:R},trc G c R K s=some r-> ∃o s',X T (erc c) (JC s)=some (o,JC s')/\K.at' o s'=some r
 | .skip,R,K,s,r,h=>⟨.normal,s,by simp[erc],h⟩
 | .bad,R,K,s,r,h=>by cases h
 | .reg d p ins,R,K,s,r,h=>by obtain⟨s',h1,h2⟩:=JOh q h;exact⟨.normal,s',by simp_all [erc,Im],h2⟩
 | .seq a b,R,K,s,r,h=>by
  obtain⟨o,s1,h1,h2⟩:=mF q (c:=a) h;rw[erc,Iu,h1];cases o with
  |normal=>obtain⟨o,n,j,g⟩:=mF q (c:=b) h2;exact⟨o,n,j,g⟩
  |exit i=>exact⟨.exit i,s1,rfl,h2⟩
  |ret=>exact⟨.ret,s1,rfl,h2⟩
 | .cond c a b,R,K,s,r,h=>by
  unfold trc at h;split at h;rename_i x v;have e:evv (erO c) (JC s).env=some (.p (.b x)):=by rw[<-UG (erO c) (JC s),cE v];rfl
  rw[erc,JOI,e,I4];split at h;rename_i z;subst z;rw[Kl v]at h;simp only[if_true];exact mF q (c:=a) h;rename_i z;have:x=false:=by simpa using z
  subst this;rw[Kl v]at h;simp only[fF,if_false];exact mF q (c:=b) h;cases h
 | .block id c,R,K,s,r,h=>by
  obtain⟨o,s1,h1,h2⟩:=mF q (c:=c) h;rw[erc,JMX,h1];cases o with
  |normal=>exact⟨.normal,s1,rfl,h2⟩
  |exit i=>
   simp only[wo];simp only[TK.at']at h2;split at h2;rename_i hi;rw[if_pos hi];exact⟨.normal,s1,rfl,h2⟩;rename_i hi;rw[if_neg hi];exact⟨.exit i,s1,rfl,h2⟩
  |ret=>exact⟨.ret,s1,rfl,h2⟩
 | .loop live c,R,K,s,r,h=>by
  unfold trc at h;obtain⟨⟨sh,ls⟩,hs,h⟩:=tH h;dsimp only at h;have C: ∀(k:Nat) {n:TSt} {r:R},ZV (sX s.sto.length live) (λagain s=>trc G c R ⟨again,K.x,K.r⟩ s) k n=some r->
    ∃o s',X T (.lp s.sto.length live (erc c)) (JC n)=some (o,JC s')/\K.at' o s'=some r:=by
   intro k
   induction k with
   |zero=>intro n r h;cases h
   |succ k ih=>
    intro n r h;obtain⟨o,A,h1,h2⟩:=mF q (c:=c) h;rw[rc,h1];cases o with
    |normal=>
     obtain⟨L,hc,h2⟩:=tH h2;grind [PJ,IU]
    |exit i=>exact⟨.exit i,A,rfl,h2⟩
    |ret=>exact⟨.ret,A,rfl,h2⟩
  have B: ∀{x:(tyL (ls.map (·.1))).D} {r:R},J4 (λx:(tyL (ls.map (·.1))).D=>onO (xP sh (pE (ls.map (·.1)) x)) λs1=>
    trc G c ((tyL (ls.map (·.1))).D⊕R) ⟨λs'=>onO (sX s.sto.length live s') λs'=>orO (GE sh (ls.map (·.1)) s') λ_=>ZV (sX s.sto.length live) (λagain s=>trc G c R ⟨again,K.x,K.r⟩ s) 3 s',λi s'=>(K.x i s').map .inr,λs'=>(K.r s').map .inr⟩ s1) x=some r->
    ∃st,xP sh (pE (ls.map (·.1)) x)=some st/\ ∃o s',X T (.lp s.sto.length live (erc c)) (JC st)=some (o,JC s')/\K.at' o s'=some r:=by
   intro x r J;refine kx (P:=fun(x:(tyL (ls.map (·.1))).D) (r:R)=> ∃st,xP sh (pE (ls.map (·.1)) x)=some st/\ ∃o s',X T (.lp s.sto.length live (erc c)) (JC st)=some (o,JC s')/\K.at' o s'=some r) ?_ ?_ J;intro x r v;obtain⟨st,w,v⟩:=tH v;obtain⟨o,s1,h1,h2⟩:=mF q (c:=c) v;refine⟨st,w,?_⟩;rw[rc,h1];cases o with
   |normal=>
    obtain⟨n,hc,h2⟩:=tH h2;unfold orO at h2;grind [Option.map_eq_some_iff,PJ,IU]
   |exit i=>obtain⟨r',j,g⟩:=gT.1 h2;injection g with g;subst g;exact⟨.exit i,s1,rfl,j⟩
   |ret=>obtain⟨r',j,g⟩:=gT.1 h2;injection g with g;subst g;exact⟨.ret,s1,rfl,j⟩
   rintro x y r v ⟨st',H,o,A,I,F⟩;obtain⟨st,w,v⟩:=tH v;obtain⟨E,s1,h1,h2⟩:=mF q (c:=c) v;refine⟨st,w,?_⟩;rw[rc,h1];cases E with
   |normal=>
    obtain⟨n,hc,h2⟩:=tH h2;unfold orO at h2;grind [Lw,PJ,IU,Option.map_eq_some_iff]
   |exit i=>obtain⟨r',_,g⟩:=gT.1 h2;cases g
   |ret=>obtain⟨r',_,g⟩:=gT.1 h2;cases g
  obtain⟨st,w,o,s',h1,h2⟩:=B h;rw[lq,Mr hs]at w;grind [erc,JC,JQ2,jl]
 | .scope c,R,K,s,r,h=>by
  obtain⟨o,s1,h1,h2⟩:=mF q (c:=c) h;grind [erc,JNq]
 | .exit id,R,K,s,r,h=>⟨.exit id,s,by simp[erc],h⟩
 | .ret,R,K,s,r,h=>⟨.ret,s,by rw[erc,JRP],h⟩
 | .keep live c,R,K,s,r,h=>by
  obtain⟨o,s1,h1,h2⟩:=mF q (c:=c) h;grind [erc,Kp,jl]
 | .tidy live c,R,K,s,r,h=>by
  obtain⟨o,s1,h1,h2⟩:=mF q (c:=c) h;rw[erc,JPm,h1,JCA,show(JC s).sto.length=s.sto.length by simp[JC]];cases o with
  |normal=>obtain⟨n,j,g⟩:=tH h2;rw[IU j];exact⟨.normal,n,rfl,g⟩
  |exit i=>obtain⟨n,j,g⟩:=tH h2;rw[IU j];exact⟨.exit i,n,rfl,g⟩
  |ret=>obtain⟨n,j,g⟩:=tH h2;rw[IU j];exact⟨.ret,n,rfl,g⟩
 | .jn sh ts a b,R,K,s,r,h=>by
  unfold trc at h;rw[erc,Iu];cases ho:trc G a ((tyL ts).D⊕R) ⟨λs'=>inl? (GE sh ts ⟨rB (sh.env.map (·.1)) s'.env,s'.sto⟩),λi s'=>(K.x i s').map .inr,λs'=>(K.r s').map .inr⟩ s with
  |none=>rw[ho]at h;cases h
  |some res=>
   rw[ho]at h;obtain⟨o,s1,h1,h2⟩:=mF q (c:=a) ho;rw[h1];cases o with
   |normal=>
    obtain⟨x,v,rfl⟩:=JL9 h2;obtain⟨n,j,g⟩:=tH h;rw[Lw v]at j;injection j with j;subst j;obtain⟨o,A,I,F⟩:=mF q (c:=b) g;grind [PJ,Kp,jl]
   |exit i=>obtain⟨r',j,g⟩:=gT.1 h2;subst g;injection h with h;subst h;exact⟨.exit i,s1,rfl,j⟩
   |ret=>obtain⟨r',j,g⟩:=gT.1 h2;subst g;injection h with h;subst h;exact⟨.ret,s1,rfl,j⟩
end Go.Am
end
section
namespace Go.Am
structure TFn where
 np:Nat
 nt:Nat
 body:TCo
 res:List BL
 fresh:Bool
def aN(f:TFn):AFn:=⟨f.np,f.nt,erc f.body,f.res.map erR,f.fresh⟩
def MY:Nat->List TA->List (Nat×TV)|_,[]=>[]|k,x::r=>(k,.a x)::MY (k+1) r
theorem O7(L:Nat->Nat): ∀(k:Nat) (xs:List TA),jW k (xs.map (bX L))=fV L (MY k xs)|_,[]=>rfl|k,x::r=>by have:=O7 L (k+1) r;simp only[cN,jW,MY,fV,this];rfl
noncomputable def lZ(G:TG)(f:TFn){R:Type}(xs:List TA)(bl:List TB)(E:TV->List TB->Option R):Option R:=if xs.length=f.np then trc G f.body R ⟨λs=>OE f.res f.fresh bl.length s E,λ_ _=>none,λs=>OE f.res f.fresh bl.length s E⟩ ⟨MY 0 xs,bl⟩else none
theorem Nh{T:dM}{G:TG}(e:GOk (AF T) G){g:FuncId}{f:TFn}(hf:T g=some (.fn (aN f))){R:Type}{xs:List TA}{bl:List TB}{E:TV->List TB->Option R}{r:R}(h:lZ G f xs bl E=some r):
  ∃v out,AF T g (xs.map (bX (lns bl))) (bl.map (bF (lns bl)))=some (aX (lns out) v,out.map (bF (lns out)))/\E v out=some r:=by
 unfold lZ at h;split at h;rename_i y;obtain⟨o,s',h1,h2⟩:=mF e h;have j:JC ⟨MY 0 xs,bl⟩=⟨jW 0 (xs.map (bX (lns bl))),bl.map (bF (lns bl))⟩:=by simp[JC,O7]
 rw[j]at h1;have fin:OE f.res f.fresh bl.length s' E=some r-> ∃v out,iI (aN f) bl.length (JC s')=some (aX (lns out) v,out.map (bF (lns out)))/\E v out=some r:=
  λh=>JHx rfl rfl h
 have z: ∀q,iI (aN f) bl.length (JC s')=some q->(o=.normal\/o=.ret)->AF T g (xs.map (bX (lns bl))) (bl.map (bF (lns bl)))=some q:=by intro q k w;rw[JS7 T hf,if_pos (by rw[eQ];exact y),show(aN f).body=erc f.body from rfl,h1,eQ];rcases w with rfl|rfl<;>exact k
 cases o with
 |normal=>
  obtain⟨v,out,x,n⟩:=fin h2;grind
 |exit i=>cases h2
 |ret=>
  obtain⟨v,out,x,n⟩:=fin h2;grind
 cases h
structure TE where
 f:FuncId
 go: ∀{R:Type},List TA->List TB->(TV->List (Bool×TB)->Option R)->Option R
 fit:List TA->List TB->Bool
structure EOk(F:Orc)(e:TE):Prop where
 ok: ∀{R:Type} {xs:List TA} {bl:List TB} {kk:TV->List (Bool×TB)->Option R} {r:R},e.go xs bl kk=some r->
  ∃v out,F e.f (xs.map (bX (lns bl))) (bl.map (bF (lns bl)))=some (aX (qF out) v,out.map λx=>bF (qF out) x.2)/\
   (∀(k:Nat) x,out[k]?=some (true,x)->k<bl.length->lnB x=lns bl k)/\kk v out=some r
def goE{R:Type}(f:FuncId)(xs:List TA)(bl:List TB)(kk:TV->List (Bool×TB)->Option R):List TE->Option R|[]=>none|e::r=>if f=e.f/\e.fit xs bl=true then e.go xs bl kk else goE f xs bl kk r
def TG.of(l:List TE):TG:=⟨λf xs bl kk=>goE f xs bl kk l⟩
def vD(F:Orc):List TE->Prop|[]=>True|e::r=>EOk F e/\vD F r
theorem I9{F:Orc}{R:Type}{f:FuncId}{xs:List TA}{bl:List TB}{kk:TV->List (Bool×TB)->Option R}{r:R}: ∀{l:List TE},vD F l->goE f xs bl kk l=some r->
  ∃v out,F f (xs.map (bX (lns bl))) (bl.map (bF (lns bl)))=some (aX (qF out) v,out.map λx=>bF (qF out) x.2)/\
   (∀(k:Nat) x,out[k]?=some (true,x)->k<bl.length->lnB x=lns bl k)/\kk v out=some r
 |[],_,h=>by cases h
 |e::l,g,h=>by
  simp only[goE]at h;split at h;rename_i j;obtain⟨rfl,_⟩:=j;exact g.1.ok h;exact I9 g.2 h
theorem Kb{F:Orc}{l:List TE}(h:vD F l):GOk F (TG.of l):=⟨λe=>I9 h e⟩
structure Sig where
 args:List ShA
 blks:List ShB
 ti:List Ty
 res:ShV
 out:List ShB
 same:List Bool
 to:List Ty
def gR(g:Sig)(x:(tyL g.ti).D):Option (List TA×List TB):=match mkL mkA g.args (pE g.ti x)with
 |some (xs,l)=>match mkL mkB g.blks l with|some (bl,[])=>some (xs,bl)|_=>none
 |none=>none
def uS(g:Sig)(xs:List TA)(bl:List TB):Option (tyL g.ti).D:=match shL shA xs,shL shB bl with|some (a,l),some (c,k)=>if a=g.args/\c=g.blks then asL g.ti (l++k)else none|_,_=>none
theorem Me{g:Sig}{xs:List TA}{bl:List TB}{x:(tyL g.ti).D}(h:uS g xs bl=some x):gR g x=some (xs,bl):=by
 unfold uS at h;split at h;rename_i a l c k h1 h2;split at h;rename_i j;obtain⟨rfl,rfl⟩:=j;have e:=qZ fw h2 [];rw[iQ]at e;unfold gR;rw[vf h,qZ gf h1 k];simp only[e];cases h;cases h
def HG(g:Sig)(y:(tyL g.to).D):Option (TV×List TB):=match mkV g.res (pE g.to y)with
 |some (v,l)=>match mkL mkB g.out l with|some (out,[])=>some (v,out)|_=>none
 |none=>none
def iE(g:Sig)(v:TV)(out:List TB):Option (tyL g.to).D:=match shV v,shL shB out with|some (a,l),some (c,k)=>if a=g.res/\c=g.out then asL g.to (l++k)else none|_,_=>none
theorem Ot{g:Sig}{v:TV}{out:List TB}{y:(tyL g.to).D}(h:iE g v out=some y):HG g y=some (v,out):=by
 unfold iE at h;split at h;rename_i a l c k h1 h2;split at h;rename_i j;obtain⟨rfl,rfl⟩:=j;have e:=qZ fw h2 [];rw[iQ]at e;unfold HG;rw[vf h,K6 h1 k];simp only[e];cases h;cases h
def flg(same:List Bool)(out:List TB):List (Bool×TB):=match same,out with|b::r,x::l=>(b,x)::flg r l|[],x::l=>(false,x)::flg [] l|_,[]=>[]
theorem yZ: ∀(same:List Bool) (out:List TB),(flg same out).map (·.2)=out|[],[]=>rfl|[],x::l=>by simp only[flg,cN,yZ [] l]|b::r,[]=>rfl|b::r,x::l=>by simp only[flg,cN,yZ r l]
def aH(f:FuncId)(g:Sig)(S:(tyL g.ti).D->Option (tyL g.to).D):TE:=
 ⟨f,λxs bl kk=>match uS g xs bl with
  |some x=>(S x).bind λy=>match HG g y with|some (v,out)=>kk v (flg g.same out)|none=>none
  |none=>none,λxs bl=>(uS g xs bl).isSome⟩
def qv:ShB->Bool| .arr _ _=>false|_=>true
def IA(g:Sig):Bool:=(List.range g.same.length).all λk=>match g.same[k]?,g.blks[k]?,g.out[k]? with|some true,some a,some c=>qv a&&qv c|some true,some _,none=>false|_,_,_=>true
theorem wn{x:TB}{s:ShB}{ls:List Lf}(h:shB x=some (s,ls))(hb:qv s=true):lnB x=0:=by
 cases x with
 |arr w t rows=>injection h with h;injection h with h1;subst h1;cases hb
 |_=>rfl
theorem uq{α σ:Type}{f:α->Option (σ×List Lf)}: ∀{xs:List α} {e:List σ} {ls:List Lf},shL f xs=some (e,ls)-> ∀(k:Nat) x,xs[k]?=some x-> ∃s l,e[k]?=some s/\f x=some (s,l)
 |[],_,_,_,k,x,g=>by simp at g
 |y::r,e,ls,h,k,x,g=>by
  simp only[shL]at h;split at h;rename_i s l q k' h1 h2;injection h with h;injection h with h3 h4;subst h3 h4;cases k with
  |zero=>simp_all
  |succ k=>exact uq h2 k x (by simpa using g)
  cases h
theorem UL: ∀{same:List Bool} {out:List TB} {k:Nat} {x:TB},(flg same out)[k]?=some (true,x)->same[k]?=some true/\out[k]?=some x
 |[],[],k,x,h=>by simp[flg]at h
 |[],y::l,k,x,h=>by
  cases k with
  |zero=>simp[flg]at h
  |succ k=>simp only[flg,List.getElem?_cons_succ]at h;have:=UL (same:=[]) h;simp at this
 |b::r,[],k,x,h=>by simp[flg]at h
 |b::r,y::l,k,x,h=>by
  cases k with
  |zero=>grind [flg]
  |succ k=>simp only[flg,List.getElem?_cons_succ]at h;simpa using UL h
theorem NZ{T:dM}{f:FuncId}{g:Sig}{S:(tyL g.ti).D->Option (tyL g.to).D}(hs:IA g=true)
  (h: ∀x xs bl y,gR g x=some (xs,bl)->S x=some y-> ∃v out,AF T f (xs.map (bX (lns bl))) (bl.map (bF (lns bl)))=some (aX (lns out) v,out.map (bF (lns out)))/\iE g v out=some y):EOk (AF T) (aH f g S):=by
 refine⟨fun{R xs bl kk r} j=>?_⟩;simp only[aH]at j;split at j;rename_i x n;obtain⟨y,L,j⟩:=bQ.1 j;split at j;rename_i v out o;obtain⟨C,e,h1,h2⟩:=h x xs bl y (Me n) L;rw[Ot h2]at o;injection o with o;injection o with hv1 hv2;subst hv1 hv2;refine⟨C,flg g.same e,?_,λk z K A=>?_,j⟩;unfold qF;rw[yZ];have:(flg g.same e).map (λx=>bF (lns e) x.2)=e.map (bF (lns e)):=by
  conv=>rhs;rw[<-yZ g.same e,GC]
  simp[yZ]
 rw[this];exact h1;obtain⟨q,w⟩:=UL K;unfold IA at hs;rw[List.all_eq_true]at hs;have hs:=hs k (by grind);unfold uS at n;split at n;rename_i a l c k' V J;split at n;rename_i H;obtain⟨U,P,I,M⟩:=uq J k _ (bC A);unfold iE at h2;split at h2;rename_i Y Z O Q W G;split at h2;rename_i B;obtain⟨sc,N,F,E⟩:=uq G k z w;rw[q,<-H.2,I,<-B.2,F]at hs;simp only[aY]at hs;rw[wn E hs.2];unfold lns;rw[bC A];exact(wn M hs.1).symm;cases h2;cases h2;cases n;cases n;cases j;cases j
theorem tp{T:dM}{f:FuncId}{g:Sig}{fn:TFn}{S:(tyL g.ti).D->Option (tyL g.to).D}{l:List TE}(hf:T f=some (.fn (aN fn)))(hl:vD (AF T) l)(hs:IA g=true)
  (h: ∀x,onO (gR g x) (λy=>lZ (TG.of l) fn y.1 y.2 (iE g))=S x):EOk (AF T) (aH f g S):=by
 refine NZ hs λx xs bl y k j=>?_;have e:=h x;rw[k,j]at e;exact Nh (Kb hl) hf e
def jF{α β:Type}(S:(α->Option β)->α->Option β):Nat->α->Option β|0=>λ_=>none|n+1=>S (jF S n)
theorem gn{T:dM}{f:FuncId}{g:Sig}{fn:TFn}{S:((tyL g.ti).D->Option (tyL g.to).D)->(tyL g.ti).D->Option (tyL g.to).D}{l:List TE}(hf:T f=some (.fn (aN fn)))(hl:vD (AF T) l)(hs:IA g=true)
  (h: ∀r x,onO (gR g x) (λy=>lZ (TG.of (aH f g r::l)) fn y.1 y.2 (iE g))=S r x): ∀n,EOk (AF T) (aH f g (jF S n))
 |0=>NZ hs λx xs bl y j e=>by cases e
 |n+1=>tp hf (l:=aH f g (jF S n)::l) (And.intro (gn hf hl hs h n) hl) hs (h (jF S n))
end Go.Am
end
section
namespace Go.Am
end Go.Am
end
section
namespace Go.Am
def yT(t:Ty):Sig:=⟨[.c (.d (.l t))],[],[.l t],.a (.c (.slr 0)),[.arr true t],[],[.l t]⟩
def QO(e:Nat):Opd:=.c (.p (.sl e []))
def HU(t:Ty)(bytes:Nat):kT:=⟨1,8,.reg false [] [⟨.mkarr t.sz (QO t.sz),some 2,none⟩],[],.reg false [] [⟨.mv (.t 0),some 3,none⟩,⟨.bin .eql .nils (.t 3) (QO t.sz),some 4,none⟩],.t 4,.seq (.reg false [] [⟨.mkarr t.sz (QO t.sz),some 2,none⟩]) .ret,.skip,.seq (.reg false [] [⟨.lits true t.sz 0 (zer t) [],some 5,none⟩,⟨.mv (.t 0),some 6,none⟩,⟨.app t.sz bytes (zer t) (.t 5) (.t 6),some 7,none⟩,⟨.mv (.t 7),some 2,none⟩]) .ret,[.tmp 2],true⟩
theorem JMl{T:dM}{f:FuncId}{t:Ty}{bytes:Nat}(hf:T f=some (.fork (HU t bytes))){x y:List t.D}(h:cI bytes x=some y):
  AF T f [.p (.sl t.sz (x.map (cel t)))] []=some (.slr 0 0 y.length,[.arr true t.sz (y.map (cel t))]):=by
 unfold cI at h;split at h;rename_i h2;injection h with h;subst h;rw[JOv _ hf];cases x with
 |nil=>
  have e:512*bytes<=281474976710656:=by simp_all
  simp[HU,QO,vL,uZ,kT.af,e]
 |cons a r=>simp at h2;simp[HU,QO,vL,uZ,kT.af,h2]
 cases h
theorem JKU(t:Ty)(x:List t.D):gR (yT t) x=some ([.c (.d (.l t) x)],[]):=by
 have h:lf1 (.l t) [⟨.l t,x⟩]=some (x,[]):=yO (.l t) x [];show(match mkL mkA [.c (.d (.l t))] [(⟨.l t,x⟩:Lf)]with
  |some (xs,l)=>match mkL mkB (yT t).blks l with|some (bl,[])=>some (xs,bl)|_=>none
  |none=>none)=_
 simp only[mkL,mkA,mkC,h];rfl
theorem JIa(t:Ty)(y:List t.D):iE (yT t) (.a (.c (.slr 0))) [.arr true t y]=some y:=by show(if(ShV.a (.c (.slr 0))=(yT t).res/\[ShB.arr true t]=(yT t).out)then asL [.l t] [⟨.l t,y⟩]else none)=some y;rw[if_pos ⟨rfl,rfl⟩];simp[asL,xM];rfl
theorem Ol{T:dM}{f:FuncId}{t:Ty}{bytes:Nat}(hf:T f=some (.fork (HU t bytes))):EOk (AF T) (aH f (yT t) (cI bytes)):=by refine NZ rfl λx xs bl y e g=>?_;rw[JKU t x]at e;injection e with e;injection e with h1 h2;subst h1 h2;exact⟨.a (.c (.slr 0)),[.arr true t y],JMl hf g,JIa t y⟩
end Go.Am
end
