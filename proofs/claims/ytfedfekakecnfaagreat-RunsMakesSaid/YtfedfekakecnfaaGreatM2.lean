/-
  Parts of a proof.
-/
import Derived.Orders
import Derived.LoopN
import Derived.Scope
import Derived.Below
import Derived.Test.YtfedfekakecnfaaGreatM1
set_option linter.unusedSimpArgs false
set_option linter.unusedVariables false
section
namespace Go.Am
section
variable {P:Program} {F:Orc} {s:Sn} {a:Act} {env:List (Nat×AV)} {o:Oper} {new:Nat} {e:Eff}
theorem lh{q:List Blk}(hi:Inv s)(A:Frz q s.σ){x:AV}{y:AV×List (Nat×Blk)}{v:Value}(h:(hZ x).run ⟨env,q⟩=some y)(hr:Jz s x v):
  ∃g',Inv ⟨upd y.2 s.σ,g',s.w⟩/\aW s ⟨upd y.2 s.σ,g',s.w⟩/\Frz s.σ (upd y.2 s.σ)/\Jz ⟨upd y.2 s.σ,g',s.w⟩ y.1 v:=by
 have same: ∀{z:AV},(RM.ret (z,[]):RM (AV×List (Nat×Blk))).run ⟨env,q⟩=some y->Jz s z v-> ∃g',Inv ⟨upd y.2 s.σ,g',s.w⟩/\aW s ⟨upd y.2 s.σ,g',s.w⟩/\Frz s.σ (upd y.2 s.σ)/\Jz ⟨upd y.2 s.σ,g',s.w⟩ y.1 v:=(by intro z j hr;simp only[RM.run]at j;injection j with j;subst j;exact⟨s.g,hi,.refl s,.refl _,hr⟩);cases x with
 |slr b i n=>
  simp only[hZ]at h;obtain⟨B,h1,h⟩:=bind_some h;obtain⟨g',k,r,o,c,hc,D⟩:=IC hi A h1 hr;rw[hc]at h;simp only[RM.run]at h;injection h with h;subst h;exact⟨g',k,r,o,.p _ _ D⟩
 |agg cs=>
  simp only[hZ]at h;obtain⟨B,h1,h⟩:=bind_some h;simp only[RM.run]at h;injection h with h;subst h;obtain⟨g',k,r,o,E,C⟩:=WT hi A h1 hr;cases hr with
  |agg _ vs h1 H h2=>exact⟨g',k,r,o,.data _ _ E λi x v F G=>C i x v F G⟩
 |tup=>grind [hZ,RM.run]
 |p c=>exact same h hr
 |data cs=>exact same h hr
 |ptr b off=>exact same h hr
 |cp cs off=>exact same h hr
 |ep b e i off=>exact same h hr
 |fn f first caps=>exact same h hr
 |unk=>exact same h hr
theorem n9{q:List Blk}: ∀{xs:List AV} {s:Sn} {y:List AV×List (Nat×Blk)} {vs:List Value},Inv s->Frz q s.σ->(jB xs).run ⟨env,q⟩=some y->xs.length=vs.length->
  (∀(i:Nat) x v,xs[i]?=some x->vs[i]?=some v->Jz s x v)->
  ∃g',Inv ⟨upd y.2 s.σ,g',s.w⟩/\aW s ⟨upd y.2 s.σ,g',s.w⟩/\Frz s.σ (upd y.2 s.σ)/\y.1.length=vs.length/\
   ∀(i:Nat) x v,y.1[i]?=some x->vs[i]?=some v->Jz ⟨upd y.2 s.σ,g',s.w⟩ x v
 |[],s,y,vs,hi,j,h,e,k=>by
  simp only[jB,RM.run]at h;injection h with h;subst h;exact⟨s.g,hi,.refl s,.refl _,by simpa using e,λi c v hc=>by simp at hc⟩
 |x::xs,s,y,[],hi,j,h,e,k=>by simp at e
 |x::xs,s,y,v::vs,hi,j,h,e,k=>by
  simp only[jB]at h;obtain⟨z,h1,h⟩:=bind_some h;obtain⟨K,h2,h⟩:=bind_some h;simp only[RM.run]at h;injection h with h;subst h;obtain⟨D,i1,o,n,I⟩:=lh hi j h1 (k 0 x v rfl rfl);obtain⟨C,i2,r,A,B,J⟩:=n9 (s:=⟨upd z.2 s.σ,D,s.w⟩) i1 (j.trans n) h2 (by simpa using e) λi x v E F=>(k (i+1) x v (by simpa using E) (by simpa using F)).mono hi o;refine⟨C,by grind [eF],by rw[eF];exact o.trans r,by rw[eF];exact n.trans A,by simp[B],λi c' H hc' G=>?_⟩;grind [Jz.mono,upd]
def zn(s1:Sn)(es:List Ent)(new:Nat)(e:Ent)(x:Blk)(y:Nat×Blk):Prop:=
 y.1=e.id/\match e with
 | .whole _=>(∃cs l,x=.box cs/\bk.bkL es new cs=some l/\y.2=.box l)\/(∃w esz rows,x=.arr w esz rows/\y.2=.arr w esz rows)
 | .elem b _ i=> ∃w esz rows g,s1.σ[b]?=some (.arr w esz rows)/\x=.box (g.map .p)/\y.2=.arr w esz (rows.set i g)
theorem JCJ{g:List Blk}{ws:List (Nat×Blk)}(k:s.σ=upd ws g){es:List Ent}{en:Ent}{x:Blk}{y:Nat×Blk}(h:(rT ws es new en x).run ⟨env,g⟩=some y):zn s es new en x y:=by
 unfold rT at h;split at h;rename_i b cs;split at h;rename_i l o;simp only[RM.run]at h;injection h with h;subst h;exact⟨rfl,.inl ⟨cs,l,rfl,o,rfl⟩⟩;cases h;simp only[RM.run]at h;injection h with h;subst h;exact⟨rfl,.inr ⟨_,_,_,rfl,rfl⟩⟩;rename_i b ext i cs;obtain⟨z,h1,h⟩:=bind_some h;have j:=ZL h1;rw[<-k]at j;cases z with
 |arr w esz rows=>
  dsimp only at h;split at h;rename_i e n;simp only[RM.run]at h;injection h with h;subst h;exact⟨rfl,w,esz,rows,e,j,by grind [NT],rfl⟩;cases h
 |_=>cases h
 cases h
theorem pp{j:List Blk}{ws:List (Nat×Blk)}(n:s.σ=upd ws j){es:List Ent}: ∀{e:List Ent} {xs:List Blk} {g:List (Nat×Blk)},(hQ ws es new e xs).run ⟨env,j⟩=some g->
  e.length=g.length/\e.length<=xs.length/\ ∀(k:Nat) en x y,e[k]?=some en->xs[k]?=some x->g[k]?=some y->zn s es new en x y
 |[],xs,g,h=>by grind [hQ,RM.run]
 |_::_,[],g,h=>by cases h
 |en::e,x::xs,g,h=>by
  simp only[hQ]at h;obtain⟨y,h1,h⟩:=bind_some h;obtain⟨l,h2,h⟩:=bind_some h;simp only[RM.run]at h;injection h with h;subst h;obtain⟨o,q,r⟩:=pp n h2;grind [JCJ]
theorem dx{es:List Ent}: ∀{xs:List Blk} {g:Nat} {e:List (Nat×Blk)},gE es new g xs=some e->
  xs.length=e.length/\ ∀(j:Nat) x y,xs[j]?=some x->e[j]?=some y->y.1=g+j/\((∃cs l,x=.box cs/\bk.bkL es new cs=some l/\y.2=.box l)\/(∃w esz rows,x=.arr w esz rows/\y.2=.arr w esz rows))
 |[],g,e,h=>by grind [gE]
 | .dead::_,g,e,h=>by grind [gE]
 | .box cs::xs,g,e,h=>by
  simp only[gE]at h;split at h;rename_i c l hc k;injection h with h;subst h;obtain⟨n,o⟩:=dx k;grind;cases h
 | .arr w esz rows::xs,g,e,h=>by
  simp only[gE]at h;split at h;rename_i l k;injection h with h;subst h;obtain⟨n,o⟩:=dx k;grind;cases h
theorem nv(b:Nat)(p q:List (Nat×Blk)):iF b (p++q)=match iF b q with
  |some y=>some y
  |none=>iF b p:=by
 induction p with
 |nil=>grind [iF]
 |cons x p ih=>
  grind [iF]
theorem ZO{b:Nat}{x:Blk}: ∀{ws:List (Nat×Blk)},(ws.map (·.1)).Nodup-> ∀{k:Nat},ws[k]?=some (b,x)->iF b ws=some x
 |[],_,k,h=>by simp at h
 |(c,z)::r,hn,k,h=>by
  obtain⟨h1,h2⟩:=List.nodup_cons.1 hn;simp only[iF];cases k with
  |zero=>
   grind [uT]
  |succ k=>rw[ZO h2 (k:=k) (by simpa using h)]
theorem Fq(n k:Nat):((List.range k).map (n+ ·)).Nodup:=by
 grind [List.nodup_range]
theorem n3(hF:iN P F){f:FuncId}{ar:List AV×List (Nat×Blk)}{q:Nat}{vals:Array Value}(H: ∀j,j<q->s.σ[new+j]?=some .dead)
  {g1:Gh} (i1:Inv ⟨upd ar.2 s.σ,g1,s.w⟩) (t1:aW s ⟨upd ar.2 s.σ,g1,s.w⟩) (f1:Frz s.σ (upd ar.2 s.σ)) (l1:ar.1.length=vals.toList.length)
  (r1: ∀(i:Nat) x v,ar.1[i]?=some x->vals.toList[i]?=some v->Jz ⟨upd ar.2 s.σ,g1,s.w⟩ x v)
  (h:(fC F f ar q new).run ⟨env,s.σ⟩=some e)
  (ai: ∀fn,P.funcs[f]?=some fn→fn.body.isSome=true→(fn.name== "runtime.NumGoroutine")=false→(execOp a.eval o).run P s.w=.ok (.enter f vals) s.w):bJ P o a s e:=by
 unfold fC at h;obtain⟨b7,h2,h⟩:=bind_some h;obtain⟨es,h3,h⟩:=bind_some h;split at h;rename_i ah;split at h;cases h;rename_i N a7;obtain⟨blks,h4,h⟩:=bind_some h;split at h;cases h;rename_i r a9;split at h;rename_i V;obtain⟨k,hlen,hk⟩: ∃k,r.2.length=es.length+k/\k<=q:=⟨r.2.length-es.length,by omega,by omega⟩;have M: ∀j,j<k->s.σ[new+j]?=some .dead:=λj hj=>H j (by omega);clear V;split at h;rename_i v fresh hv K;obtain⟨n,h5,h⟩:=bind_some h;simp only[RM.run]at h;injection h with h;subst h
 let s1:Sn:=⟨upd ar.2 s.σ,g1,s.w⟩
 obtain⟨bl,a6⟩:=ov (s:=s1) rfl h4;have cin:WQ s1 es blks:=⟨i1,PC ah,bl,a6⟩;obtain⟨⟨fn,af,O,S⟩,R⟩:=hF f N blks r a9;obtain⟨q1,q2⟩:=sD a7;have ci:=JL9 cin;have hc:=R (gJ s1 es blks).g s.w vals ci (by grind) (λi x v hx hv=>by have A:=Jp hx;have Y:ar.1[i]?=some (ar.1[i]'(by omega)):=zQ9 _;exact zw cin (r1 i _ v Y (by simpa using hv)) (q2 i _ x Y hx));intro next Q T;simp only[Oper.wp,ai fn af O S,Oper.upon];refine hc.mono ?_;rintro e w' ⟨rv,g',rfl,a8,I,a3⟩;simp only;obtain⟨b1,b2,b3⟩:=pp (s:=s1) rfl h5;obtain⟨n1,n2⟩:=dx K;have B: ∀j,j<k->s1.σ[new+j]?=some .dead:=λj hj=>f1.2 _ _ (M j hj) (by simp);have ba:(r.2.drop es.length).length=k:=by simp;omega
 have ad:n.map (·.1)=es.map Ent.id:=(by apply zQ6;intro i;rw[fF,fF];by_cases A:i<es.length;have E:es[i]?=some es[i]:=zQ9 A;have L:n[i]?=some (n[i]'(by omega)):=zQ9 _;have G:r.2[i]?=some (r.2[i]'(by omega)):=zQ9 _;have:=(b3 i _ _ _ E G L).1;grind;grind);have ac: ∀j,j<k->fresh[j]?=some (new+j,(fresh[j]?.map (·.2)).getD .dead):=(by grind);have am:(fresh.map (·.1)).Nodup:=(by have:fresh.map (·.1)=(List.range k).map (new+ ·):=(by apply zQ6;grind);grind [Fq]);have al: ∀b,b∈fresh.map (·.1)↔new<=b/\b<new+k:=(by intro b;constructor;grind [List.getElem?_of_mem];intro hm;have:=ac (b-new) (by omega);grind);have W:(upd (n++fresh) s1.σ).length=s1.σ.length:=xD _ _;have U: ∀{q:Nat} {en:Ent},es[q]?=some en->en.id<s1.σ.length/\ ¬(new<=en.id/\en.id<new+k):=by
  intro q en C;obtain⟨x,_,Z⟩:=pS cin C;have z: ∃y,s1.σ[en.id]?=some y/\y≠.dead:=by
   cases en with
   |whole b=>
    rcases Z with⟨cs',l,h1,h2,rfl⟩|⟨w,a2,rows',h1,rfl⟩;exact⟨_,h1,by simp⟩;exact⟨_,h1,by simp⟩
   |elem b ext i=>obtain⟨a2,rows',row,h1,h2,h3,rfl⟩:=Z;exact⟨_,h1,by simp⟩
  obtain⟨y,z,hd⟩:=z;refine⟨Jp z,λhm=>?_⟩;have:=B (en.id-new) (by omega);rw[show new+(en.id-new)=en.id by omega,z]at this;grind
 have ab: ∀{q:Nat} {en:Ent} {y:Nat×Blk},es[q]?=some en->n[q]?=some y->(upd (n++fresh) s1.σ)[en.id]?=some y.2:=by intro q en y C z;obtain⟨A,b8⟩:=U C;have G:r.2[q]?=some (r.2[q]'(by grind)):=zQ9 _;have ag:=(b3 q en _ y C G z).1;rw[uI _ _ _ A,nv,uT (by grind)];simp only;rw[ZO (x:=y.2) (by rw[ad];exact cin.nodup) (k:=q) (by grind)]
 have av: ∀{j:Nat} {y:Nat×Blk},j<k->fresh[j]?=some y->(upd (n++fresh) s1.σ)[new+j]?=some y.2:=(by grind [uI,nv,ZO]);have co:Cy s1 es blks new k ⟨r.2,g',w'⟩ (upd (n++fresh) s1.σ):=by
  refine⟨cin,a8,I,hlen,W,B,λq y z=>?_,λb bc b9=>?_⟩;have z:r.2[q]?=some y:=z;unfold nY;cases C:es[q]? with
  |some en=>
   have A:=Jp C;have L:n[q]?=some (n[q]'(by omega)):=zQ9 _;obtain⟨ag,a0⟩:=b3 q en y _ C z L;have hg:=ab C L;cases en with
   |whole b=>
    rcases a0 with⟨cs,l,E,G,J⟩|⟨w,esz,rows,E,J⟩;exact .inl ⟨cs,l,E,G,by rw[<-J];exact hg⟩;exact .inr ⟨w,esz,rows,E,by rw[<-J];exact hg⟩
   |elem b ext i=>obtain⟨w,esz,rows,a5,E,G,J⟩:=a0;exact⟨w,esz,rows,a5,E,G,by rw[<-J];exact hg⟩
  |none=>
   have bb:es.length<=q:=(by grind);have A:=Jp z;have L:fresh[q-es.length]?=some (fresh[q-es.length]'(by omega)):=zQ9 _;grind
  grind [uI,uT]
 have oi:=JIo co;have ot:=mz co;have D:upd (ar.2++n++fresh) s.σ=upd (n++fresh) s1.σ:=by grind [eF]
 refine T rv w' (eR s1 es new k ⟨r.2,g',w'⟩ (upd (n++fresh) s1.σ)).g ?_ ?_ ?_;rw[D];exact oi;rw[D];exact t1.trans ot;rw[D];exact B8 co a3 hv;cases h;cases h;cases h
theorem C7{f:FuncId}{args:List AV}{k:Nat}{s:St}(h:(gP F f args k new).run s=some e): ∃ar,(jB args).run s=some ar/\(fC F f ar k new).run s=some e:=by
 unfold gP at h;obtain⟨ar,h1,h⟩:=bind_some h;obtain⟨w,h2,h⟩:=bind_some h;obtain⟨es,v,h⟩:=bind_some h;refine⟨ar,h1,?_⟩;unfold fC;rw[run_bind,h2,JL,run_bind,v,JL];split at h;rename_i n;rw[if_pos n];split at h;cases h;rename_i o g;obtain⟨blks,q,h⟩:=bind_some h
 try rw[g]
 try dsimp only
 rw[run_bind,q,JL];split at h;cases h;rename_i r j
 try rw[j]
 try dsimp only
 split at h;grind;cases h;cases h
theorem C9(A:iN P F)(hi:Inv s){f:FuncId}{args:List AV}{k:Nat}{vals:Array Value}(g: ∀j,j<k->s.σ[new+j]?=some .dead)
  (h:(gP F f args k new).run ⟨env,s.σ⟩=some e) (hl:args.length=vals.size) (hr: ∀(i:Nat) x v,args[i]?=some x->vals[i]?=some v->Jz s x v)
  (r: ∀fn,P.funcs[f]?=some fn→fn.body.isSome=true→(fn.name== "runtime.NumGoroutine")=false→(execOp a.eval o).run P s.w=.ok (.enter f vals) s.w):bJ P o a s e:=by
 obtain⟨ar,h1,h2⟩:=C7 h;obtain⟨D,i1,B,z,C,y⟩:=n9 (vs:=vals.toList) hi (.refl _) h1 (by simpa using hl) (λi x v n q=>hr i x v n (by simpa using q));grind [n3]
theorem JEk{r:List Blk}: ∀{m:List Bool} {xs:List AV} {s:Sn} {y:List AV×List (Nat×Blk)} {vs:List Value},Inv s->Frz r s.σ->(eQ m xs).run ⟨env,r⟩=some y->xs.length=vs.length->
  (∀(i:Nat) x v,xs[i]?=some x->vs[i]?=some v->Jz s x v)->
  ∃g',Inv ⟨upd y.2 s.σ,g',s.w⟩/\aW s ⟨upd y.2 s.σ,g',s.w⟩/\Frz s.σ (upd y.2 s.σ)/\y.1.length=vs.length/\
   ∀(i:Nat) x v,y.1[i]?=some x->vs[i]?=some v->Jz ⟨upd y.2 s.σ,g',s.w⟩ x v:=by
 intro m xs
 induction xs generalizing m with
 |nil=>
  intro s y vs hi q h j k;have h:(RM.ret ([],[]):RM (List AV×List (Nat×Blk))).run ⟨env,r⟩=some y:=by cases m<;>exact h
  simp only[RM.run]at h;injection h with h;subst h;exact⟨s.g,hi,.refl s,.refl _,by simpa using j,λi c v hc=>by simp at hc⟩
 |cons x xs ih=>
  intro s y vs hi q h j k;cases vs with
  |nil=>simp at j
  |cons v vs=>
   have z: ∀{A:List Bool},((hZ x).bind λa=>(eQ A xs).bind λc=>.ret (a.1::c.1,a.2++c.2)).run ⟨env,r⟩=some y->
     ∃g',Inv ⟨upd y.2 s.σ,g',s.w⟩/\aW s ⟨upd y.2 s.σ,g',s.w⟩/\Frz s.σ (upd y.2 s.σ)/\y.1.length=(v::vs).length/\
      ∀(i:Nat) x o,y.1[i]?=some x->(v::vs)[i]?=some o->Jz ⟨upd y.2 s.σ,g',s.w⟩ x o:=by
    intro A h;obtain⟨I,h1,h⟩:=bind_some h;obtain⟨K,h2,h⟩:=bind_some h;simp only[RM.run]at h;injection h with h;subst h;obtain⟨L,i1,H,G,M⟩:=lh hi q h1 (k 0 x v rfl rfl);obtain⟨D,i2,n,B,C,J⟩:=ih (m:=A) (s:=⟨upd I.2 s.σ,L,s.w⟩) i1 (q.trans G) h2 (by simpa using j) λi x v E F=>(k (i+1) x v (by simpa using E) (by simpa using F)).mono hi H;refine⟨D,by grind [eF],by rw[eF];exact H.trans n,by rw[eF];exact G.trans B,by simp[C],λi c' o hc' e=>?_⟩;grind [Jz.mono,upd]
   cases m with
   |nil=>exact z h
   |cons b m=>
    cases b with
    |false=>exact z h
    |true=>
     simp only[eQ]at h;obtain⟨K,h2,h⟩:=bind_some h;simp only[RM.run]at h;injection h with h;subst h;obtain⟨D,i2,n,B,C,J⟩:=ih (m:=m) hi q h2 (by simpa using j) λi x v E F=>k (i+1) x v (by simpa using E) (by simpa using F);refine⟨D,i2,n,B,by simp[C],λi c' o hc' e=>?_⟩;cases i with
     |zero=>simp at hc' e;subst hc' e;exact(k 0 x v rfl rfl).mono hi n
     |succ i=>grind
theorem ed{f:FuncId}{args:Array Value}{fn:Func}(h1:P.funcs[f]?=some fn)(h2:fn.body.isSome=true)(h3:(fn.name== "runtime.NumGoroutine")=false)(w:World):
  (callFunc f args).run P w=.ok (.enter f args) w:=by
 have e:fn.name≠ "runtime.NumGoroutine" :=by simpa using h3
 have g:fn.body≠none:=by grind
 simp_all [callFunc]
theorem JIE(y:iN P F)(hi:Inv s)(he:bK s a.tmps env){f args k}(n: ∀j,j<k->s.σ[new+j]?=some .dead)(h:(opR F (.call f args k) new).run ⟨env,s.σ⟩=some e)
  (hc:JR P (.call f args k) o.op=true):bJ P o a s e:=by
 simp only[opR]at h;obtain⟨vs,h1,w⟩:=bind_some h;clear h;unfold JR at hc;simp only at hc;split at hc;rename_i c C;split at hc;rename_i g z;simp only[JQ,beq_iff_eq]at hc;obtain⟨rfl,q⟩:=hc;obtain⟨l,r⟩:=BV he h1 q;refine C9 y hi n w (vals:=c.args.map a.eval) (by simpa using l) (λi x v A B=>r i x v A (by simpa using B)) λfn G E D=>?_;simp_all [execOp,resolve,Act.eval,Deferred.ofValue,invoke,ed];cases hc;cases hc
theorem JFC(A:iN P F)(hi:Inv s)(he:bK s a.tmps env){f keep args k}(n: ∀j,j<k->s.σ[new+j]?=some .dead)(h:(opR F (.callo f keep args k) new).run ⟨env,s.σ⟩=some e)
  (hc:JR P (.callo f keep args k) o.op=true):bJ P o a s e:=by
 simp only[opR]at h;obtain⟨vs,h1,w⟩:=bind_some h;obtain⟨ar,h2,G⟩:=bind_some w;clear h w;unfold JR at hc;simp only at hc;split at hc;rename_i c J;split at hc;rename_i g B;simp only[JQ,beq_iff_eq]at hc;obtain⟨rfl,q⟩:=hc;obtain⟨l,r⟩:=BV he h1 q;obtain⟨E,i1,C,z,D,y⟩:=JEk (vs:=(c.args.map a.eval).toList) hi (.refl _) h2 (by simpa using l) (λi x v H I=>r i x v H (by simpa using I));refine n3 A n (vals:=c.args.map a.eval) i1 C z D y G λfn E L K=>?_;simp_all [execOp,resolve,Act.eval,Deferred.ofValue,invoke,ed];cases hc;cases hc
theorem JFx(C:iN P F)(hi:Inv s)(he:bK s a.tmps env){x args k}(g: ∀j,j<k->s.σ[new+j]?=some .dead)(h:(opR F (.callv x args k) new).run ⟨env,s.σ⟩=some e)
  (hc:JR P (.callv x args k) o.op=true):bJ P o a s e:=by
 simp only[opR]at h;obtain⟨u,E,q⟩:=bind_some h;clear h;unfold JR at hc;simp only at hc;split at hc;rename_i c G;split at hc;rename_i y D;simp only[JQ]at hc;obtain⟨B,n⟩:=hc;have A:=bF he E B;cases u with
 |fn f first caps=>
  dsimp only at q;obtain⟨vs,h1,w⟩:=bind_some q;obtain⟨l,r⟩:=BV he h1 n;generalize O:a.eval y=z at A;cases A with
  |fn _ _ _ fs cs K J H I=>
   have L:vs.length=c.args.size:=by simpa using l
   refine C9 C hi g w (vals:=fs++c.args.map a.eval++cs) (by simp;omega) (λi x v B R=>?_) λfn Q N M=>?_;grind;grind [execOp,resolve,Deferred.ofValue,invoke,ed]
 |_=>cases q
 cases hc;cases hc
end
end Go.Am
end
section
namespace Go.Am
section
variable {P:Program} {F:Orc} {s:Sn} {a:Act} {env:List (Nat×AV)} {o:Oper} {new:Nat} {e:Eff}
theorem YR: ∀(os:List (Nat×Nat)) (n:Nat) {s:Sn},Inv s->(∀j,j<os.length->s.σ[n+j]?=some .dead)->
  ∃g',Inv ⟨upd (fY os n) s.σ,g',s.w⟩/\aW s ⟨upd (fY os n) s.σ,g',s.w⟩/\
   (∀j,j<os.length->(∃esz,(upd (fY os n) s.σ)[n+j]?=some (.arr true esz []))/\g'.μ (n+j)=none)/\
   (∀b,b<n\/n+os.length<=b->(upd (fY os n) s.σ)[b]?=s.σ[b]?/\g'.μ b=s.g.μ b)
 |[],n,s,hi,_=>⟨s.g,hi,.refl s,λj e=>by simp at e,λb _=>⟨rfl,rfl⟩⟩
 |(off,esz)::r,n,s,hi,hd=>by
  obtain⟨i1,v⟩:=NH hi (hd 0 (by simp)) esz;obtain⟨g',i2,q,h1,h2⟩:=YR r (n+1) (s:=⟨s.σ.set n (.arr true esz []),eO s.g n none,s.w⟩) i1 (λj e=>by
   show(s.σ.set n _)[n+1+j]?=_;rw[qH (by omega)];have:=hd (j+1) (by simp;omega);grind)
  refine⟨g',i2,v.trans q,λj e=>?_,λb x=>?_⟩;cases j with
  |zero=>
   obtain⟨o,k⟩:=h2 n (.inl (by omega));refine⟨⟨esz,?_⟩,?_⟩;grind [upd,fY];rw[rA,k];exact if_pos rfl
  |succ j=>have:=h1 j (by simpa using e);rw[show n+(j+1)=n+1+j by omega];exact this
  obtain⟨o,k⟩:=h2 b (by grind);have h:n≠b:=by grind
  exact⟨o.trans (qH h),k.trans (if_neg (Ne.symm h))⟩
theorem pb{t:TypeId}{os:List (Nat×Nat)}{v:Value}(hv:zeT P t=some v)(h:LB P t os=true): ∀x∈os,v.cells[x.1]?=some (.slice none 0 0):=by
 grind [LB]
theorem YQ{cells:Array Value}: ∀(os:List (Nat×Nat)) (n:Nat) {cs:List AV},(∀x∈os,cells[x.1]?=some (.slice none 0 0))->
  (∀j,j<os.length->(∃esz,s.σ[n+j]?=some (.arr true esz []))/\s.g.μ (n+j)=none)->
  (∀(i:Nat) x,cs[i]?=some x-> ∃u,cells[i]?=some u/\Jz s x u/\u.oneCell'=true)->
  ∀(i:Nat) x,(kY os n cs)[i]?=some x-> ∃u,cells[i]?=some u/\Jz s x u/\u.oneCell'=true
 |[],_,_,_,_,h=>h
 |(off,esz)::r,n,cs,hz,ha,h=>by
  refine YQ r (n+1) (λx e=>hz x (by simp[e])) (λj q=>by
   have:=ha (j+1) (by simpa using q);grind) λi x e=>?_
  by_cases hi:off=i;subst hi;have k:=Jp e;rw[List.length_set]at k;rw[zX k]at e;injection e with e;subst e;obtain⟨⟨o,h1⟩,h2⟩:=ha 0 (by simp);rw[rA]at h1 h2;exact⟨.slice none 0 0,hz (off,esz) (by simp),.slr n 0 0 _ true o [] ⟨none,0,rfl,.inl rfl⟩ h1 (zQ0 _) λ_=>.inl ⟨h2,rfl,rfl,rfl⟩,rfl⟩;simp_all
theorem ZM: ∀(os:List (Nat×Nat)) (n:Nat) (cs:List AV),(kY os n cs).length=cs.length|[],_,_=>rfl|_::r,n,cs=>(ZM r (n+1) _).trans (by simp)
theorem JBv(hi:Inv s){zero os}(n: ∀j,j<os.length+1->s.σ[new+j]?=some .dead)(h:(opR F (.newboxo zero os) new).run ⟨env,s.σ⟩=some e)(hc:JR P (.newboxo zero os) o.op=true):bJ P o a s e:=by
 simp only[opR,RM.run]at h;injection h with h;subst h;unfold JR at hc;simp only at hc;split at hc;rename_i t J;simp only[JQ]at hc;obtain⟨B,E⟩:=hc;obtain⟨v,G,L,D⟩:=sH B;obtain⟨r,i1,z,h1,h2⟩:=YR os new hi λj N=>n j (by omega);have hd:(upd (fY os new) s.σ)[new+os.length]?=some .dead:=((h2 _ (.inr (zQ0 _))).1).trans (n _ (by omega))
 let s1:Sn:=⟨upd (fY os new) s.σ,r,s.w⟩
 obtain⟨A,t'⟩:=NB (s0:=s1) i1 hd (blk:=.box (kY os new (zero.map .p))) (c:=v.cells) (e:=t) (fz:=(0,0)) (w':={s.w with heap:=s.w.heap.push (.cells v.cells t)}) rfl rfl rfl
  (λo _ _ h=>by simp at h) (λ_ _ _ h=>by cases h) ⟨by grind [ZM],λi x q=>by
   obtain⟨u,M,K,I⟩:=YQ (s:=s1) (cells:=v.cells) os new (pb G E) h1 (λi x q=>by
    rw[fF]at q;cases hzi:zero[i]? with
    |none=>simp_all
    |some c=>
     simp[hzi]at q;subst q;have H:=Jp hzi;have y:i<v.cells.size:=by omega
     have:=D (w:=s1.w) (C:=s1.g.C) i c v.cells[i] hzi (by simp);exact⟨v.cells[i],by simp,.p _ _ this,this.one⟩) i x q
   simp_all⟩
 have k:upd (fY os new++[(new+os.length,Blk.box (kY os new (zero.map .p)))]) s.σ=(upd (fY os new) s.σ).set (new+os.length) (.box (kY os new (zero.map .p))):=by rw[eF];rfl
 refine gB (e:=⟨.ptr (new+os.length) 0,fY os new++[(new+os.length,.box (kY os new (zero.map .p)))]⟩) (v:=.pointer (some ⟨s.w.heap.size,0,none⟩)) (g':=eO r (new+os.length) (some (s.w.heap.size,0))) ?_
  (by rw[k];exact A) (by rw[k];exact z.trans t') (by rw[k];exact .ptr (new+os.length) 0 _ 0 (if_pos rfl) ⟨_,iT hd⟩)
 simp_all [execOp,Instr.alloc,CG,newVar,newRow];cases hc
theorem JEh(hi:Inv s)(he:bK s a.tmps env)(hn:s.σ[new]?=some .dead){esz x}(h:(opR F (.storen esz x) new).run ⟨env,s.σ⟩=some e)(hc:JR P (.storen esz x) o.op=true):bJ P o a s e:=by
 simp only[opR]at h;obtain⟨u,h1,M⟩:=bind_some h;obtain⟨I,h2,B⟩:=bind_some M;clear h M;simp only[RM.run]at B;injection B with B;subst B;obtain⟨K,R⟩:=NH hi hn esz;unfold JR at hc;simp only at hc;split at hc;rename_i t N ag;simp only[JQ,beq_iff_eq]at hc;obtain⟨hs,hx⟩:=hc;have v:=bF he h1 hx;have O: ∀{r n:Nat} {w':World},a.eval N=.pointer (some ⟨r,n,none⟩)->(storeVar t ⟨r,n,none⟩ (.slice none 0 0)).run P s.w=.ok () w'->(execOp a.eval o).run P s.w=.ok .skip w':=by intro r n w' S a9;have ac:a.eval (.const (.slice none 0 0))=.slice none 0 0:=rfl;simp_all [execOp,Instr.storeAt,Instr.sureAddr]
 unfold gT at h2;split at h2;rename_i b off;simp only[RM.run]at h2;split at h2;rename_i blk H;split at h2;rename_i cs;split at h2;rename_i l hl;split at h2;rename_i a6;split at h2;rename_i cs' D;simp only[RM.run]at h2;injection h2 with h2;subst h2;have H:s.σ[b]?=some (.box cs):=H;have Q:new≠b:=λe=>by simp_all
 let s1:Sn:=⟨s.σ.set new (.arr true esz []),eO s.g new none,s.w⟩
 have C:s1.σ[b]?=some (.box cs):=(qH Q).trans H;have Z:Jz s1 (.slr new 0 0) (.slice none 0 0):=
  .slr new 0 0 _ true esz [] ⟨none,0,rfl,.inl rfl⟩ (iT hn) (zQ0 _) λ_=>.inl ⟨if_pos rfl,rfl,rfl,rfl⟩
 generalize S:a.eval N=z at v;have v:=Jz.mono (s:=s1) hi R v;cases v with
 |ptr _ _ r n m aa=>
  obtain⟨k1,J,Y⟩:=PO hl Z;obtain⟨T,j2,V,j4⟩:=MT D;obtain⟨r1,o1,c,et,fz,A,E,ad,ab,hf⟩:=K.box b cs C;rw[m]at A;injection A with A;injection A with m1 m2;subst m1 m2;have q:=IR (vs:=(Value.slice none 0 0).cells.toList) (o:=n+off) E (by simp;omega);have hlen:(Value.slice none 0 0).cells.toList.length=l.length:=by simp[k1]
  obtain⟨i',t'⟩:=ZT (s0:=s1) K (blk:=.box cs') C q (λk h1 h2=>by
   grind [Wr1]) (.box _ _ T) (λa7 j G=>by
   injection j with j;subst j;obtain⟨c0,e0,af,c',y,U,p3,p4,W,p6⟩:=q.there;rw[E]at y;injection y with y;injection y with q1 q2 q3;subst q1 q2 q3;refine⟨r,n,c',et,fz,m,U,by omega,λi x L=>?_,by simp_all⟩;by_cases ah:off<=i/\i<off+l.length;have I:cs'[off+(i-off)]?=l[i-off]?:=V (i-off) (by omega);rw[show off+(i-off)=i by omega,L]at I;have a8:i-off<(Value.slice none 0 0).cells.size:=by omega
   have e2:=W (i-off) (Value.slice none 0 0).cells[i-off] (by simp);refine⟨(Value.slice none 0 0).cells[i-off],by rw[<-e2];congr 1;omega,G (Y (i-off) x _ I.symm (by simp)),J _ (by simp)⟩;grind)
   (λ_ _ j=>by cases j)
  refine cr (e:=⟨fP,(new,.arr true esz [])::[(b,.box cs')]⟩) (O S (d7 (by simp_all) E (by omega) (λk h1 h2=>hf k (by omega) (by omega)) J)) rfl i' (R.trans t')
 cases h2;cases h2;cases h2;cases h2;cases h2;rename_i b ext i off;have ae:(fz (.slr new 0 0)).run ⟨env,s.σ⟩=none:=(by grind [fz,RM.run]);simp only[RM.run]at h2;split at h2;split at h2;split at h2;split at h2;grind [run_bind];cases h2;cases h2;cases h2;cases h2;cases h2;cases hc
theorem JED(hi:Inv s)(he:bK s a.tmps env){zero parts os}(E: ∀j,j<os.length->s.σ[new+j]?=some .dead)(h:(opR F (.buildo zero parts os) new).run ⟨env,s.σ⟩=some e)
  (hc:JR P (.buildo zero parts os) o.op=true):bJ P o a s e:=by
 simp only[opR]at h;obtain⟨l,h1,q⟩:=bind_some h;clear h;unfold JR at hc;simp only at hc;split at hc;rename_i t ps ab;simp only[JQ]at hc;obtain⟨⟨hz,hn⟩,ht⟩:=hc;obtain⟨z,N,ac,Q⟩:=sH hz;obtain⟨S,i1,O,K,ad⟩:=YR os new hi E;split at q;rename_i cs hcs;split at q;rename_i r h3;simp only[RM.run]at q;injection q with q;subst q
 let s1:Sn:=⟨upd (fY os new) s.σ,S,s.w⟩
 have G: ∀(i:Nat) x,(kY os new (zero.map AV.p))[i]?=some x-> ∃u,z.cells[i]?=some u/\Jz s1 x u/\u.oneCell'=true:=
  YQ (s:=s1) (cells:=z.cells) os new (pb N hn) K (by
   intro i x J;rw[fF]at J;cases hzi:zero[i]? with
   |none=>simp_all
   |some c=>
    simp[hzi]at J;subst J;have L:=Jp hzi;have Z:i<z.cells.size:=by omega
    have:=Q (w:=s1.w) (C:=s1.g.C) i c z.cells[i] hzi (by simp);exact⟨z.cells[i],by simp,.p _ _ this,this.one⟩)
 have fin: ∀{place:Nat->Option (Nat×Nat)},qF place parts ps.toList=true->
   ∃n,Instr.fill place z.cells (ps.toList.map λx=>(x.1,a.eval x.2))=some n/\Jz s1 r (.agg n):=by
  intro place D;obtain⟨V,k2⟩:=dh he h1 D;obtain⟨n,M,f2,f3⟩:=ZD (s:=s1) (cells:=z.cells) hcs V (λk off size cs i v hk H=>by obtain⟨p1,Y,U,W⟩:=k2 k off size cs i v hk H;exact⟨p1,Y,U,λj y u T I=>(W j y u T I).mono hi O⟩) (by grind [ZM]) G;refine⟨n,M,?_⟩;have:=MJ (s:=s1) (vs:=n.toList) h3 (by simpa using f2) (λv H=>by
    obtain⟨i,A⟩:=fH H;have A:n[i]?=some v:=by simpa using A
    have L:=PD A;obtain⟨u,I,_,h1⟩:=f3 i cs[i] (by simp_all);simp_all)
   (λi y v T H=>by
    grind)
  simp_all
 have ae:(ps.map λx=>(x.1,a.eval x.2)).toList=ps.toList.map λx=>(x.1,a.eval x.2):=by simp
 split at ht;rename_i fs I;simp only[JQ]at ht;obtain⟨B,D⟩:=ht;obtain⟨n,M,hr⟩:=fin D;have aa:(λi=>(fs.map λf=>(f.offset,(szT P f.type).getD 0))[i]?)=BX P fs:=by
  funext i
  simp only[BX,Array.getElem?_map];cases hfi:fs[i]? with
  |none=>rfl
  |some f=>have:=RQ.1 B f (Array.mem_of_getElem? hfi);cases hq:szT P f.type<;>simp[hq]at this⊢
 have a3:(fs.mapM λf=>do pure (f.offset,<-sizeOf f.type):Sem (Array (Nat×Nat))).run P s.w=.ok (fs.map λf=>(f.offset,(szT P f.type).getD 0)) s.w:=by
  rw[Array.mapM_eq_mapM_toList];simp only[Sem.run_map,dg (P:=P) (fs:=fs.toList) (λf R=>RQ.1 B f (by simpa using R)),rC]
  congr 1
  grind
 have R:Instr.fill (λi=>(fs.map λf=>(f.offset,(szT P f.type).getD 0))[i]?) z.cells (ps.map λx=>(x.1,a.eval x.2)).toList=some n:=by simp_all
 have hb:(Instr.build t (ps.map λx=>(x.1,a.eval x.2))).run P s.w=.ok (.agg n) s.w:=by simp_all [Instr.build,CG,run_underlying]
 refine gB (e:=⟨r,fY os new⟩) (v:=.agg n) (g':=S) ?_ i1 O hr;simp_all [execOp];cases ht;cases q;cases q;cases hc
end
end Go.Am
end
section
namespace Go.Am
theorem Cc{new:Nat}{env:List (Nat×AV)}{σ:List Blk}: ∀{k new:Nat} {u:Unit},(rL new k).run ⟨env,σ⟩=some u-> ∀j,j<k->σ[new+j]?=some .dead
 |0,_,_,_,j,hj=>by omega
 |k+1,new,u,h,j,hj=>by
  simp only[rL,RM.run]at h;split at h;rename_i x e;cases x with
  |dead=>
   dsimp only at h;cases j with
   |zero=>exact e
   |succ j=>have:=Cc (new:=0) h j (by omega);grind
  |box=>cases h
  |arr=>cases h
  cases h
section
variable {P:Program} {F:Orc} {s:Sn} {a:Act} {env:List (Nat×AV)} {o:Oper} {new:Nat} {e:Eff}
theorem Zy(q:iN P F)(hi:Inv s)(he:bK s a.tmps env){n:AOp}(h:(opD F n new).run ⟨env,s.σ⟩=some e)(hc:JR P n o.op=true):bJ P o a s e:=by
 unfold opD at h;obtain⟨u,hd,h⟩:=bind_some h;have g:=Cc (new:=0) hd;clear hd;have j:kD n=1->s.σ[new]?=some .dead:=λh1=>g 0 (by omega);cases n with
 |mv x=>grind [Zc]
 |mkarr esz x=>exact JFW hi (j rfl) h hc
 |pick=>grind [JI7]
 |newbox=>exact JEE hi (j rfl) h hc
 |box=>exact JJw hi he (j rfl) h hc
 |build=>grind [JFZ]
 |lits=>grind [JIN,kD]
 |load=>grind [JIT]
 |store=>grind [JGD]
 |nilchk=>grind [JDS]
 |bin op t x y=>cases t<;>grind [H6,Fh,E0,JA1,E9,Eo]
 |un=>grind [Zi]
 |conv k x=>
  grind [JCA,kD,JII]
 |mkslice=>grind [JC1,kD]
 |slice=>grind [JFV]
 |faddr=>grind [JG2]
 |field=>grind [JGd]
 |iaddr=>grind [JGP]
 |aaddr=>grind [JHb]
 |sidx=>grind [JIe]
 |aidx=>grind [JIK]
 |extr=>grind [JIP]
 |call=>exact JIE q hi he g h hc
 |callv=>exact JFx q hi he g h hc
 |len=>grind [JJs]
 |alen=>grind [JJc]
 |app=>grind [JJE]
 |appz=>grind [JJ6]
 |appn=>exact JIL hi he (j rfl) h hc
 |appc=>exact JI3 hi he (j rfl) h hc
 |mm=>grind [Z9]
 |mkfn=>grind [JIc]
 |newboxo=>exact JBv hi g h hc
 |buildo=>exact JED hi he g h hc
 |storen=>exact JEh hi he (j rfl) h hc
 |callo=>exact JFC q hi he g h hc
end
def wW(P:Program)(N:Nat)(ops:Array Oper)(i:bQ)(o:Oper):Bool:=
 JR P i.op o.op&&i.dst==o.dst&&(match i.dst with
  |some d=>decide (d<N)
  |none=>true)&&(match i.g,o.guard with
  |none,none=>true
  |some (g,w),some (j,w')=>w==w'&&(ops[j]?).bind (·.dst)==some g
  |_,_=>false)
def Sim(N:Nat)(E:Sn)(st:St)(a:Act)(w:World):Prop:=a.tmps.size=N/\a.defers=[]/\ ∃g,Inv ⟨st.sto,g,w⟩/\bK ⟨st.sto,g,w⟩ a.tmps st.env/\aW E ⟨st.sto,g,w⟩
theorem bK.put{s:Sn}{tmps:Array Value}{env:List (Nat×AV)}(he:bK s tmps env){d:Nat}(hd:d<tmps.size){x:AV}{v:Value}(hv:Jz s x v):
  bK s (tmps.setIfInBounds d v) ((d,x)::env):=by
 intro n y e;simp only[lk]at e;split at e;simp_all;rename_i g;obtain⟨u,h1,h2⟩:=he n y e;grind
theorem Sim.putd{N:Nat}{E:Sn}{st:St}{a:Act}{w w':World}{g g':Gh}{e:Eff}{v:Value}{d:Option Nat}
  (h1:a.tmps.size=N) (h2:a.defers=[]) (hi:Inv ⟨st.sto,g,w⟩) (he:bK ⟨st.sto,g,w⟩ a.tmps st.env) (ht:aW E ⟨st.sto,g,w⟩) (hd: ∀x,d=some x->x<N)
  (j:Inv ⟨upd e.ws st.sto,g',w'⟩) (h:aW ⟨st.sto,g,w⟩ ⟨upd e.ws st.sto,g',w'⟩) (hv:Jz ⟨upd e.ws st.sto,g',w'⟩ e.val v):
  Sim N E (Am.put d e st) (a.put d v) w':=by
 have k:=he.mono hi h;cases d with
 |none=>exact⟨h1,h2,g',j,k,ht.trans h⟩
 |some d=>exact⟨by grind [Act.put],h2,g',j,k.put (by simp_all) hv,ht.trans h⟩
section
variable {P:Program} {F:Orc} {N:Nat} {E:Sn} {st:St} {a:Act} {w:World} {ops:Array Oper} {i:bQ} {o:Oper} {e:Eff} {new k:Nat} {Q:Exit->Act->World->Prop} {K:Act->World->Prop}
theorem JBQ{s:Sn}:Jz s fP undef:=.tup _ _ rfl λi x v h=>by simp at h
theorem Ag(D:iN P F)(hs:Sim N E st a w)(ho:ops[k]?=some o)(hc:wW P N ops i o=true)(h:(bS F i new).run st=some e)
  (next: ∀n w',Sim N E (Am.put i.dst e st) n w'->K n w'):wpOp P ops Q k K a w:=by
 obtain⟨h1,h2,g,hi,y,ht⟩:=hs;simp only[wW,JQ,beq_iff_eq]at hc;obtain⟨⟨⟨hc,hd⟩,J⟩,q⟩:=hc;have z: ∀x,i.dst=some x->x<N:=(by grind);have run: ∀{e:Eff},(opD F i.op new).run st=some e->(∀n w',Sim N E (Am.put i.dst e st) n w'->K n w')->o.wp P a w K Q:=(by intro e h next;refine Zy (s:=⟨st.sto,g,w⟩) (env:=st.env) D hi y h hc K Q λv w' g' H I A=>next _ _ ?_;grind [Sim.putd]);have skip:(∀n w',Sim N E (Am.put i.dst ⟨fP,[]⟩ st) n w'->K n w')->K (a.put o.dst undef) w:=by intro next;refine next _ _ ?_;rw[<-hd];exact Sim.putd (e:=⟨fP,[]⟩) h1 h2 hi y ht z hi (.refl _) JBQ
 unfold wpOp;rw[ho];dsimp only;unfold bS at h;cases hig:i.g with
 |none=>
  grind [Region.wanted]
 |some G=>
  obtain⟨L,C⟩:=G;rw[hig]at h q;cases hog:o.guard with
  |none=>simp_all
  |some x=>
   obtain⟨j,B⟩:=x;rw[hog]at q;simp only[JQ,beq_iff_eq]at q;obtain⟨rfl,S⟩:=q;simp only[RM.run]at h;split at h;rename_i v A;obtain⟨u,R,r⟩:=y _ _ A;split at h;rename_i b;cases r with
   |p _ _ r=>
    cases r with
    |b x=>
     have O:yielded ops a.tmps j=some b:=by grind [yielded]
     grind [Region.wanted,RM.run]
   cases r with
   |tup _ vs M _=>
    grind [yielded,Region.wanted,RM.run]
   cases h;cases h
end
theorem ky{σ:List Blk}{n b:Nat}{x:Blk}(h:(σ++List.replicate n Blk.dead)[b]?=some x)(hx:x≠.dead):σ[b]?=some x:=by
 grind
theorem oa{σ:List Blk}{n b:Nat}{x:Blk}(h:σ[b]?=some x):(σ++List.replicate n Blk.dead)[b]?=some x:=by
 grind
theorem MV{σ:List Blk}{g:Gh}{w:World}{n b r o:Nat}:Wr1 ⟨σ++List.replicate n .dead,g,w⟩ b r o↔Wr1 ⟨σ,g,w⟩ b r o:=by
 grind [Wr1]
theorem dj{σ:List Blk}{g:Gh}{w:World}{n:Nat}:aW ⟨σ,g,w⟩ ⟨σ++List.replicate n .dead,g,w⟩ where
 keep:=.refl _ _
 cmono _ _ h:=h
 cnew _ _ h:=.inl h
 wnew _ _ h:=let⟨b,e⟩:=h;.inl ⟨b,MV.1 e⟩
 len:=by simp
 box b cs h:=⟨⟨cs,oa h,rfl⟩,rfl⟩
 arr b wm esz rows h:=⟨wm,rows,oa h,id,zQ0 _,λ_=>rfl⟩
theorem JHy{σ:List Blk}{g:Gh}{w:World}{n:Nat}(hi:Inv ⟨σ,g,w⟩):Inv ⟨σ++List.replicate n .dead,g,w⟩:=by
 have t:=dj (σ:=σ) (g:=g) (w:=w) (n:=n);refine⟨λb cs h=>?_,λb wm esz rows h=>?_,λb1 b2 r o h1 h2=>hi.apart b1 b2 r o (MV.1 h1) (MV.1 h2),λr o hc=>⟨(hi.const r o hc).1,λb A=>(hi.const r o hc).2 b (MV.1 A)⟩⟩;obtain⟨r,o,c,e,fz,B,E,C,y,q⟩:=hi.box b cs (ky h (by simp));exact⟨r,o,c,e,fz,B,E,C,λi x D=>let⟨v,j,z,k⟩:=y i x D;⟨v,j,z.mono hi t,k⟩,q⟩;exact hi.arr b wm esz rows (ky h (by simp))
theorem Sim.room{N:Nat}{E:Sn}{st:St}{a:Act}{w:World}(h:Sim N E st a w)(n:Nat):Sim N E ⟨st.env,room n st.sto⟩ a w:=by
 unfold Am.room;split;exact h;obtain⟨h1,h2,g,hi,e,ht⟩:=h;exact⟨h1,h2,g,JHy hi,e.mono hi dj,ht.trans dj⟩
theorem Sim.heap{N:Nat}{E:Sn}{st:St}{a:Act}{w w':World}(h:Sim N E st a w)(e:w'.heap=w.heap)(ho:w'.os=w.os)(hp:w'.output=w.output):Sim N E st a w':=by obtain⟨h1,h2,g,hi,k,ht⟩:=h;obtain⟨j,t'⟩:=ct hi e ho hp;exact⟨h1,h2,g,j,k.mono hi t',ht.trans t'⟩
theorem Sim.congr{N:Nat}{E:Sn}{st st':St}{a:Act}{w:World}(h:Sim N E st a w)(he: ∀m,lk m st'.env=lk m st.env)(hs:st'.sto=st.sto):Sim N E st' a w:=by obtain⟨h1,h2,g,hi,e,ht⟩:=h;refine⟨h1,h2,g,?_⟩;rw[hs];exact⟨hi,λn x j=>e n x (by simp_all),ht⟩
end Go.Am
end
section
namespace Go.Am
def dW(P:Program)(N:Nat)(ops:Array Oper):List bQ->List Oper->Bool|[],[]=>true|i::r,o::q=>wW P N ops i o&&dW P N ops r q|_,_=>false
def PG(x y:bQ):Bool:=
 (match x.dst with
 |none=>true
 |some m=>y.dst !=some m&& !(uQ y).contains m)&&(match y.dst with
 |none=>true
 |some m=> !(uQ x).contains m)
def OF(x y:bQ):Bool:=(!wH x.op|| !ER y.op)&&(!wH y.op|| !ER x.op)
def FM:List Nat->List Nat->List Nat|[],acc=>acc|x::r,acc=>match acc.contains x with|true=>FM r acc|false=>FM r (x::acc)
theorem cn{i:Nat}: ∀{l acc:List Nat},i∈FM l acc->i∈l\/i∈acc
 |[],_,h=>.inr h
 |x::r,acc,h=>by
  simp only[FM]at h;split at h;exact(cn h).imp (iW _) id
  ·rcases cn h with h|h
   all_goals grind
def zk(l:List Nat):List Nat:=FM l []
theorem JFl{i:Nat}{l:List Nat}(h:i∈zk l):i∈l:=(cn h).resolve_right (by simp)
def zv(acc:List (List Nat))(o:Oper):List Nat:=zk<|(o.after.toList.filter λe=>Region.binds .any e).flatMap λe=>e.on::(acc[e.on]?).getD []
def je(acc:List (List Nat)):List Oper->List (List Nat)|[]=>acc|o::r=>je (acc++[zv acc o]) r
def XU(e:List (List Nat))(pairs:List (Nat×Nat))(i j:Nat)(x y:bQ):Bool:=
 ((e[j]?).getD []).contains i||(PG x y&&(OF x y||pairs.contains (i,j)))
def HT(e:List (List Nat))(pairs:List (Nat×Nat))(j:Nat)(y:bQ):Nat->List bQ->Bool|_,[]=>true|i,x::r=>(decide (j<=i)||XU e pairs i j x y)&&HT e pairs j y (i+1) r
def MX(g:List (List Nat))(pairs:List (Nat×Nat))(e:List bQ):Nat->List bQ->Bool|_,[]=>true|j,y::r=>HT g pairs j y 0 e&&MX g pairs e (j+1) r
def NZ:Nat->List Oper->Bool|_,[]=>true|j,o::r=>(o.after.all λe=> !Region.binds .any e||decide (e.on<j))&&NZ (j+1) r
def WC(P:Program)(N:Nat)(draw:Bool)(pairs:List (Nat×Nat))(ins:List bQ)(ops:Array Oper):Bool:=
 dW P N ops ins ops.toList&&(!draw||(NZ 0 ops.toList&&MX (je [] ops.toList) pairs ins 0 ins))
section
variable {P:Program} {F:Orc} {N:Nat} {E:Sn} {st st':St} {a:Act} {w:World} {ops:Array Oper} {Q:Exit->Act->World->Prop}
theorem m4: ∀{ins:List bQ} {os:List Oper},dW P N ops ins os=true->ins.length=os.length/\ ∀(k:Nat) i,ins[k]?=some i-> ∃o,os[k]?=some o/\wW P N ops i o=true
 |[],[],_=>⟨rfl,by simp⟩
 |i::r,o::q,h=>by
  simp only[dW,JQ]at h;obtain⟨h1,h2⟩:=m4 h.2;grind
 |[],_::_,h=>by grind [dW]
 |_::_,[],h=>by grind [dW]
theorem ob(v:iN P F): ∀{r:List bQ} {k new:Nat} {st:St} {a:Act} {w:World},(∀(j:Nat) i,r[j]?=some i-> ∃o,ops[k+j]?=some o/\wW P N ops i o=true)->
  fJ F r new st=some st'->Sim N E st a w->(∀n w',Sim N E st' n w'->Q .normal n w')->wpOps P ops Q (List.range' k r.length) a w
 |[],k,new,st,a,w,_,h,q,next=>by simp only[fJ]at h;cases h;exact next a w q
 |i::r,k,new,st,a,w,hc,h,q,next=>by
  simp only[fJ]at h;split at h;rename_i e z;obtain⟨o,x,g⟩:=hc 0 i rfl;rw[zW,List.range'_succ,wpOps_cons];refine Ag v q x g z λn w' hs'=>ob v (λj i y=>?_) h hs' next;obtain⟨o,x,g⟩:=hc (j+1) i (by simpa using y);grind;cases h
theorem Aa: ∀{ins:List bQ} {g:Nat} {st:St},fJ F ins g st=some st'->
  ∃(new:Nat->Nat) (S:Nat->St) (eff:Nat->Eff),Run F ins new S eff/\S 0=st/\S ins.length=st'
 |[],g,st,h=>by
  simp only[fJ]at h;injection h with h;subst h;exact⟨λ_=>0,λ_=>st,λ_=>⟨fP,[]⟩,⟨by simp⟩,rfl,rfl⟩
 |i::r,g,st,h=>by
  simp only[fJ]at h;split at h;rename_i e q;obtain⟨new,S,eff,n,v,j⟩:=Aa h;refine⟨fun|0=>g|k+1=>new k,fun|0=>st|k+1=>S k,fun|0=>e|k+1=>eff k,⟨λk x o=>?_⟩,rfl,j⟩;cases k with
  |zero=>simp_all
  |succ k=>exact n.step k x (by simpa using o)
  cases h
theorem Ae: ∀{ins:List bQ} {g:Nat} {st:St} {l j:Log},iM F ins g st l=some (st',j)->
  ∃(new:Nat->Nat) (S:Nat->St) (eff:Nat->Eff),Run F ins new S eff/\S 0=st/\S ins.length=st'/\
   (∀k,k<l.length->j[k]?=l[k]?)/\ ∀(k:Nat) i,ins[k]?=some i->j[l.length+k]?=some (iO ((bS F i (new k)).reads (S k)),(eff k).ws.map (·.1))
 |[],g,st,l,j,h=>by
  simp only[iM]at h;injection h with h;injection h with h1 h2;subst h1 h2;exact⟨λ_=>0,λ_=>st,λ_=>⟨fP,[]⟩,⟨by simp⟩,rfl,rfl,λ_ _=>rfl,by simp⟩
 |i::r,g,st,l,j,h=>by
  simp only[iM]at h;split at h
  ·rename_i e z;obtain⟨new,S,eff,q,v,o,y,A⟩:=Ae h;refine⟨fun|0=>g|k+1=>new k,fun|0=>st|k+1=>S k,fun|0=>e|k+1=>eff k,⟨λk x n=>?_⟩,rfl,o,λk w=>?_,λk x n=>?_⟩
   cases k with
   |zero=>simp_all
   |succ k=>exact q.step k x (by simpa using n)
   all_goals grind
  cases h
theorem OZ{b:Nat}: ∀{l:List Loc},Loc.blk b∈l->b∈iO l
 | .blk c::r,h=>by
  simp only[iO,bZ]at*;rcases h with h|h;simp_all;exact .inr (OZ h)
 | .slot n::r,h=>by simp only[iO];refine OZ ?_;simpa using h
 |[],h=>by simp at h
theorem ZJ{a b:List Nat}(h:fL a b=true){x:Nat}(hx:x∈a):x∉b:=by
 grind [fL]
theorem o4{l:Log}: ∀{ps:List (Nat×Nat)} {i j:Nat},CF l ps=true->(i,j)∈ps->
  ∃x y,l[i]?=some x/\l[j]?=some y/\fL x.2 y.1=true/\fL x.2 y.2=true/\fL x.1 y.2=true
 |[],i,j,_,h=>by simp at h
 |(p,q)::r,i,j,h,hm=>by
  simp only[CF,JQ]at h;obtain⟨h1,h2⟩:=h;rcases bZ.1 hm with e|e;grind;exact o4 h2 e
def YA(ops:Array Oper)(D:Nat->Bool)(k:Nat):Prop:= ∀o,ops[k]?=some o-> ∀e∈o.after,Region.binds .any e=true->D e.on=true
def zr(ops:Array Oper)(D:Nat->Bool):Prop:= ∀k,D k=true->YA ops D k
def fw(ops:Array Oper)(k i:Nat):Prop:= ∀D,zr ops D->YA ops D k->D i=true
theorem Ax: ∀{os:List Oper} {acc:List (List Nat)},(∀(j:Nat) o,os[j]?=some o->ops[acc.length+j]?=some o)->(∀(k:Nat) l i,acc[k]?=some l->i∈l->fw ops k i)->
  ∀(k:Nat) l i,(je acc os)[k]?=some l->i∈l->fw ops k i
 |[],acc,_,n=>n
 |o::r,acc,y,n=>by
  refine Ax (os:=r) (acc:=acc++[zv acc o]) (λj x A=>?_) λk l i g hi=>?_;have:=y (j+1) x (by simpa using A);grind;rcases HA g with g|⟨B,g⟩;simp_all;have q:k=acc.length:=(by grind);subst q;simp at g;subst g;intro D hD z;replace hi:=JFl hi;simp only[List.mem_flatMap,List.mem_filter]at hi;obtain⟨e,⟨w,v⟩,hi⟩:=hi;have h:=z o (by simpa using y 0 o rfl) e (by simpa using w) v;rcases bZ.1 hi with rfl|hi;exact h;cases hac:acc[e.on]? with
  |none=>simp_all
  |some l=>rw[hac]at hi;exact n _ l i hac hi D hD (hD _ h)
theorem pk{g:List (List Nat)}{pairs:List (Nat×Nat)}{j:Nat}{y:bQ}: ∀{r:List bQ} {e:Nat},HT g pairs j y e r=true-> ∀(k:Nat) x,r[k]?=some x->e+k<j->XU g pairs (e+k) j x y=true
 |[],e,_,k,x,n,_=>by simp at n
 |z::r,e,h,k,x,n,o=>by
  simp only[HT,JQ,vX,decide_eq_true_eq]at h;cases k with
  |zero=>grind
  |succ k=>
   have:=pk h.2 k x (by simpa using n) (by omega);grind
theorem oy{j:List (List Nat)}{pairs:List (Nat×Nat)}{g:List bQ}: ∀{r:List bQ} {e:Nat},MX j pairs g e r=true-> ∀(k:Nat) y,r[k]?=some y->HT j pairs (e+k) y 0 g=true
 |[],e,_,k,y,n=>by simp at n
 |z::r,e,h,k,y,n=>by
  simp only[MX,JQ]at h;cases k with
  |zero=>simp_all
  |succ k=>
   have:=oy h.2 k y (by simpa using n);grind
theorem pj: ∀{r:List Oper} {g:Nat},NZ g r=true-> ∀(k:Nat) o,r[k]?=some o-> ∀e∈o.after,Region.binds .any e=true->e.on<g+k
 |[],g,_,k,o,j=>by simp at j
 |z::r,g,h,k,o,j=>by
  simp only[NZ,JQ]at h;cases k with
  |zero=>
   grind [Array.all_eq_true_iff_forall_mem]
  |succ k=>intro e n q;have:=pj h.2 k o (by simpa using j) e n q;omega
theorem JGr{x y:bQ}(h:PG x y=true):(∀m,x.dst=some m->y.dst≠some m/\m∉uQ y)/\(∀m,y.dst=some m->m∉uQ x):=by
 grind [PG]
variable {ins:List bQ} {new:Nat->Nat} {S:Nat->St} {eff:Nat->Eff}
theorem JHh(hr:Run F ins new S eff){i j:Nat}(hi:i<ins.length)(hj:j<ins.length)(h1:PG ins[i] ins[j]=true)
  (h2:OF ins[i] ins[j]=true\/(fL ((eff i).ws.map (·.1)) (iO ((bS F ins[j] (new j)).reads (S j)))=true/\
   fL ((eff i).ws.map (·.1)) ((eff j).ws.map (·.1))=true/\fL (iO ((bS F ins[i] (new i)).reads (S i))) ((eff j).ws.map (·.1))=true)):KZ F ins new S eff i j:=by
 obtain⟨s1,C⟩:=JGr h1;have q:ins[i]?=some ins[i]:=zQ9 hi;have o:ins[j]?=some ins[j]:=zQ9 hj;obtain⟨z,_⟩:=hr.step i _ q;obtain⟨v,_⟩:=hr.step j _ o;refine⟨λx y m g e r=>?_,λx y m g e r n=>?_,λy b e k=>?_,λx b g k n=>?_⟩;rw[q]at g;cases g;rw[o]at e;cases e;exact⟨(s1 m r).1,λn=>(s1 m r).2 (Ca F _ _ _ _ n)⟩;rw[q]at g;cases g;rw[o]at e;cases e;exact C m r (Ca F _ _ _ _ n);rw[o]at e;cases e;rcases h2 with h2|⟨w,A,B⟩;simp only[OF,JQ,vX,iV]at h2;rcases h2.1 with h|h;rw[XJ F _ _ h _ _ z]at k;simp at k;refine⟨?_,Cq F _ _ h _ _ v b⟩;rw[XJ F _ _ (zo h) _ _ v];simp;exact⟨ZJ A k,λn=>ZJ w k (OZ n)⟩;rw[q]at g;cases g;rcases h2 with h2|⟨w,A,B⟩;simp only[OF,JQ,vX,iV]at h2;rcases h2.2 with h|h;rw[XJ F _ _ h _ _ v]at k;simp at k;exact Cq F _ _ h _ _ z b n;grind [ZJ,OZ]
def Dl(e:Array Bool):Nat->Bool:=λj=>e.getD j false
theorem Az{e:Array Bool}{i:Nat}(hi:i<e.size):Dl (e.setIfInBounds i true)=λj=>if j=i then true else Dl e j:=by
 funext j
 unfold Dl;by_cases h:j=i
 all_goals simp_all [Ne.symm]
theorem oq{l:Array Bool}{i:Nat}(hi:i<l.size)(h:l.getD i false=false):(l.setIfInBounds i true).count false+1=l.count false:=by
 have e:l[i]=false:=by simp_all
 grind [Array.getElem_mem]
theorem ol{l:Array Bool}(h:l.count false=0){i:Nat}(hi:i<l.size):l.getD i false=true:=by
 grind [oq]
theorem za{l:Array Bool}: ∀m,m<=l.size->(∀j,j<m->Dl l j=true)\/ ∃k,k<m/\Dl l k=false/\ ∀j,j<k->Dl l j=true
 |0,_=>.inl λj e=>by omega
 |m+1,h=>by
  rcases za (l:=l) m (by omega)with h1|⟨k,a,b,c⟩
  all_goals grind
theorem JEI{l:Array Bool}{j:Nat}(hj:j<l.size):l.getD j true=l.getD j false:=by simp[hj]
theorem JL8(hF:iN P F)(hr:Run F ins new S eff)(hlen:ins.length=ops.size)(hc: ∀(k:Nat) i,ins[k]?=some i-> ∃o,ops[k]?=some o/\wW P N ops i o=true)
  (G: ∀(k:Nat) o,ops[k]?=some o-> ∀e∈o.after,Region.binds .any e=true->e.on<k)
  (K: ∀i j,i<j->j<ins.length->fw ops j i\/KZ F ins new S eff i j)
  (next: ∀H w',Sim N E (S ins.length) H w'->Q .normal H w'):
  ∀(n:Nat) (g:Array Bool) (st:St) (a:Act) (w:World),g.size=ops.size->Agree ins eff (S 0) (Dl g) st->Sim N E st a w->zr ops (Dl g)->g.count false=n->
   wpAny P .any ops Q n g a w:=by
 intro n
 induction n with
 |zero=>
  intro g st a w L C R r B;refine⟨?_,?_⟩;cases hre:Region.ready .any ops g with
  |nil=>rfl
  |cons j l=>
   exfalso;have h:j∈Region.ready .any ops g:=by rw[hre];simp
   grind [mem_ready,ol]
  ·obtain⟨e1,e2⟩:=JEa hr C λj x=>ol B (by omega);exact next a w (R.congr (λm=>(e1 m).symm) e2.symm)
 |succ n ih=>
  intro g st a w L C R r B;refine⟨λa2=>?_,λk I=>?_⟩;exfalso;rcases za (l:=g) ops.size (by omega)with z|⟨k,I,D,M⟩;have:g.count false=0:=(by rw[Array.count_eq_zero];intro h;obtain⟨i,hi,y⟩:=Array.getElem_of_mem h;have:=z i (by omega);unfold Dl at this;simp[hi,y]at this);omega;have h:k∈Region.ready .any ops g:=(by rw[mem_ready];refine⟨by rw[JEI (by omega)];exact D,ops[k],by simp[I],λe y A=>?_⟩;exact M _ (G k ops[k] (by simp[I]) e y A));simp_all;obtain⟨h1,o,Y,z⟩:=mem_ready.1 I;have a0:k<ops.size:=(ir.1 Y).1;have D:Dl g k=false:=by grind [Dl]
  have T:ins[k]?=some (ins[k]'(by omega)):=zQ9 _;obtain⟨o',W,U⟩:=hc k _ T;have q:YA ops (Dl g) k:=by intro O v e y A;rw[Y]at v;cases v;exact z e y A
  obtain⟨Z,r2⟩:=JGR hr C T D (λj x hDj=>by
   rcases K j k x (by omega)with h|h;have:=h _ r q;simp_all;exact h) (λj x V hDj=>by
   rcases K k j x V with h|h;have:=h _ r (r j hDj);simp_all;exact h)
  refine Ag hF R W U Z λH w' hs'=>ih _ _ H w' (by simp[L]) ?_ hs' ?_ ?_;grind [Az];rw[Az (by omega)];intro j x O v e y A;dsimp only at x⊢;have h:Dl g e.on=true->(if e.on=k then true else Dl g e.on)=true:=by simp_all
  by_cases J:j=k;subst J;exact h (q O v e y A);rw[if_neg J]at x;exact h (r j x O v e y A);grind [oq]
theorem JJU(Z:iN P F)(H:P.follows .mixedOrders=true){id:Nat}{draw:Bool}{pairs:List (Nat×Nat)}{ins:List bQ}(h:region F pairs ins st=some st')
  (hc:WC P N draw pairs ins ops=true) (hs:Sim N E st a w) (next: ∀U w',Sim N E st' U w'->Q .normal U w'):(Code.region id ops draw).wp P Q a w:=by
 simp only[WC,JQ,vX,iV]at hc;obtain⟨K,B⟩:=hc;obtain⟨hlen,G⟩:=m4 K;have hlen:ins.length=ops.size:=by simp_all
 have G: ∀(k:Nat) i,ins[k]?=some i-> ∃o,ops[k]?=some o/\wW P N ops i o=true:=λk i hi=>by simp_all
 have T:=hs.room (news ins);have J: ∃(new:Nat->Nat) (S:Nat->St) (eff:Nat->Eff),Run F ins new S eff/\S 0=⟨st.env,room (news ins) st.sto⟩/\S ins.length=st'/\
   ∀i j,(i,j)∈pairs-> ∃x y,ins[i]?=some x/\ins[j]?=some y/\fL ((eff i).ws.map (·.1)) (iO ((bS F y (new j)).reads (S j)))=true/\
   fL ((eff i).ws.map (·.1)) ((eff j).ws.map (·.1))=true/\fL (iO ((bS F x (new i)).reads (S i))) ((eff j).ws.map (·.1))=true:=by
  unfold region at h;split at h;grind [Aa];split at h;rename_i s' l n;split at h;rename_i M;cases h;obtain⟨new,S,eff,D,C,O,_,q⟩:=Ae n;refine⟨new,S,eff,D,C,O,λi j hm=>?_⟩;obtain⟨x,y,Y,W,d1,d2,d3⟩:=o4 M hm;have R: ∀(k:Nat) z,l[k]?=some z->k<ins.length:=by
   intro k z hk;have:=Jp hk;have a6:l.length=ins.length:=by
    clear q D C O M Y W;have: ∀{r:List bQ} {e:Nat} {s0:St} {A v:Log} {s1:St},iM F r e s0 A=some (s1,v)->v.length=A.length+r.length:=by
     intro r
     induction r with
     |nil=>simp[iM]
     |cons i r ih=>
      grind [iM]
    grind
   omega
  have hi:=R i x Y;have g:=R j y W;have L:ins[i]?=some ins[i]:=zQ9 hi;have I:ins[j]?=some ins[j]:=zQ9 g;have qi:=q i _ L;have qj:=q j _ I;simp only[List.length_nil,mJ]at qi qj;grind;cases h;cases h
 obtain⟨new,S,eff,D,C,O,M⟩:=J;cases draw with
 |false=>
  refine wp_region ?_;rw[List.range_eq_range',<-hlen];have a7: ∃e,fJ F ins e ⟨st.env,room (news ins) st.sto⟩=some st':=by
   unfold region at h;split at h;grind;split at h;rename_i s' l n;split at h;cases h;have: ∀{r:List bQ} {e:Nat} {s0:St} {A v:Log} {s1:St},iM F r e s0 A=some (s1,v)->fJ F r e s0=some s1:=by
    intro r
    induction r with
    |nil=>intro e s0 A v s1 h;simp only[iM]at h;injection h with h;injection h with h1 h2;subst h1;rfl
    |cons i r ih=>
     grind [iM,fJ]
   grind;cases h;cases h
  grind [ob]
 |true=>
  obtain⟨he,hd⟩:=B.resolve_left (by simp);refine wp_region_any H ?_;have V:Sim N E (S 0) a {w with drawn:=w.drawn+1}:=by rw[C];exact T.heap rfl rfl rfl
  refine JL8 Z D hlen G (λk o ho=>?_) (λi j hij g=>?_) (by simp_all) ops.size _ (S 0) a _ (by simp) ?_ V ?_ ?_;have:=pj he k o (by simpa using ho);simp_all;have L:ins[i]?=some (ins[i]'(by omega)):=zQ9 _;have I:ins[j]?=some ins[j]:=zQ9 g;have h1:=oy hd j _ I;rw[mJ]at h1;have h2:=pk h1 i _ L (by omega);rw[mJ]at h2;simp only[XU,vX,JQ]at h2;rcases h2 with h2|⟨h2,h3⟩;grind [Ax];grind [JHh];have:Dl (Array.replicate ops.size false)=λ_=>false:=by
   funext j;unfold Dl;simp[Array.getElem?_replicate];split<;>rfl
  rw[this];exact Fa;intro j g;unfold Dl at g;simp[Array.getElem?_replicate]at g;grind;simp
end
end Go.Am
end
section
namespace Go.Am
def cK(P:Program)(N:Nat):bT->Code->Bool
 | .bad,_=>true
 | .skip,c=>match c with| .skip=>true| .label _=>true|_=>false
 | .reg draw pairs ins,c=>match c with| .region _ ops d=>draw==d&&WC P N draw pairs ins ops|_=>false
 | .seq a b,c=>match c with| .seq x y=>cK P N a x&&cK P N b y|_=>false
 | .cond o a b,c=>match c with| .cond p x y=>bI o p&&cK P N a x&&cK P N b y|_=>false
 | .block id a,c=>match c with| .block e x=>id==e&&cK P N a x|_=>false
 | .loop _ a,c=>match c with| .loop x=>cK P N a x|_=>false
 | .lp _ _ _,_=>false
 | .scope a,c=>match c with| .scope x=>cK P N a x|_=>false
 | .exit id,c=>match c with| .exit e=>id==e|_=>false
 | .ret,c=>match c with| .ret=>true|_=>false
 | .keep _ a,c=>cK P N a c
 | .tidy _ a,c=>cK P N a c
 | .br _ pre o a b rest,c=>match c with| .seq (.seq p (.cond q x y)) z=>cK P N pre p&&bI o q&&cK P N a x&&cK P N b y&&cK P N rest z|_=>false
def pW:AX->Exit| .normal=>.normal| .exit id=>.exit id| .ret=>.ret
def HL(P:Program)(c:bT)(st:St)(r:Out):Prop:=
 match c with
 | .lp n _ b=> ∃k,∀(N:Nat) (e:Code) (E:Sn) (a:Act) (w:World) (Q:Exit->Act->World->Prop),cK P N b e=true->E.σ.length<=n->n<=st.sto.length->Sim N E st a w->
   (∀g w',Sim N E r.2 g w'->Q (pW r.1) g w')->Code.rounds P e Q k a w
 |c=> ∀(N:Nat) (e:Code) (E:Sn) (a:Act) (w:World) (Q:Exit->Act->World->Prop),cK P N c e=true->Sim N E st a w->
  (∀g w',Sim N E r.2 g w'->Q (pW r.1) g w')->e.wp P Q a w
theorem HL.get{P:Program}{c:bT}{st:St}{r:Out}(h:HL P c st r){N:Nat}{e:Code}{E:Sn}{a:Act}{w:World}{Q:Exit->Act->World->Prop}(hc:cK P N c e=true)(hs:Sim N E st a w)
  (next: ∀g w',Sim N E r.2 g w'->Q (pW r.1) g w'):e.wp P Q a w:=by
 cases c<;>first|exact h N e E a w Q hc hs next|grind [cK]
theorem OC{env:List (Nat×AV)}{n:Nat}{x:AV}: ∀{live:List Nat},lk n (restr live env)=some x->lk n env=some x
 |[],h=>by grind [restr,lk]
 |k::r,h=>by
  simp only[restr]at h;split at h;rename_i v e;simp only[lk]at h;split at h;simp_all;exact OC h;exact OC h
theorem Bn{m:Nat}{sto:List Blk}{n:Nat}{y:AV}: ∀{env g:List (Nat×AV)},tK m sto env=some g->lk n g=some y-> ∃x,lk n env=some x/\fin m [] sto x=some y
 |[],g,h,hy=>by grind [tK,lk]
 |(k,x)::r,g,h,hy=>by
  simp only[tK]at h;split at h;rename_i z l q j;injection h with h;subst h;simp only[lk]at hy⊢;split at hy;simp_all;rename_i e;obtain⟨o,h1,h2⟩:=Bn j hy;simp_all;cases h
section
variable {P:Program} {N:Nat} {E:Sn} {st st':St} {a:Act} {w:World}
theorem Sim.restr(h:Sim N E st a w)(live:List Nat):Sim N E ⟨restr live st.env,st.sto⟩ a w:=by obtain⟨h1,h2,g,hi,e,ht⟩:=h;exact⟨h1,h2,g,hi,λn x j=>e n x (OC j),ht⟩
theorem OB{n:Nat}{live:List Nat}(h:Sim N E st a w)(hc:clean n live st=some st')(q:E.σ.length<=n)(hn:n<=st.sto.length):Sim N E st' a w/\st'.sto.length=n:=by
 unfold clean at hc;split at hc;rename_i e;injection hc with hc;subst hc;exact⟨h.restr live,e⟩;split at hc;rename_i ev l o A;injection hc with hc;subst hc;obtain⟨h1,h2,g,hi,C,ht⟩:=h;obtain⟨G,H⟩:=OW A;have hlen:l.length=n:=by simp_all
 have j:jf ⟨st.sto,g,w⟩ n [] l:=(by refine⟨hi,hn,List.nodup_nil,λb r=>by simp at r,by simp[hlen],λk x I=>?_⟩;grind [rV]);refine⟨⟨h1,h2,(iZ ⟨st.sto,g,w⟩ n [] l).g,Cu j,λk y B=>?_,nm j ht q⟩,hlen⟩;obtain⟨x,D,z⟩:=Bn o B;obtain⟨v,F,hrel⟩:=C k x (OC D);exact⟨v,F,XN j hrel z⟩;cases hc
def mW(P:Program):List tL->List ResultVar->Bool|[],[]=>true| .tmp t::r,.tmp t'::q=>t==t'&&mW P r q| .cell t agg size::r,.cell t' ty::q=>t==t'&&agT P ty==some agg&&szT P ty==some size&&mW P r q|_,_=>false
def RN(tmps:Array Value):ResultVar->Sem Value| .tmp t=>pure (tmps.getD t undef)| .cell a t=>do loadVar t (<-asAddr (tmps.getD a undef))
theorem XV{s:Sn}{env:List (Nat×AV)}{tmps:Array Value}(hi:Inv s)(he:bK s tmps env): ∀{A:List tL} {B:List ResultVar} {vs:List AV},mW P A B=true->(mE A).run ⟨env,s.σ⟩=some vs->
  ∃g:List Value,(B.mapM (RN tmps)).run P s.w=.ok g s.w/\vs.length=g.length/\ ∀(i:Nat) x v,vs[i]?=some x->g[i]?=some v->Jz s x v
 |[],[],vs,_,h=>by simp_all [mE,RM.run]
 | .tmp t::r,.tmp t'::q,vs,hc,h=>by
  simp only[mW,JQ,beq_iff_eq]at hc;obtain⟨rfl,hc⟩:=hc;simp only[mE]at h;obtain⟨x,h1,h⟩:=bind_some h;obtain⟨l,h2,h⟩:=bind_some h;simp only[RM.run]at h;injection h with h;subst h;simp only[RM.run]at h1;split at h1;rename_i y n;injection h1 with h1;subst h1;obtain⟨v,L,D⟩:=he _ _ n;obtain⟨g,E,k,F⟩:=XV hi he hc h2;refine⟨v::g,?_,by simp[k],λi x u K I=>?_⟩;simp_all [RN];grind;cases h1
 | .cell t agg size::r,.cell t' ty::q,vs,hc,h=>by
  simp only[mW,JQ,beq_iff_eq]at hc;obtain⟨⟨⟨rfl,M⟩,C⟩,hc⟩:=hc;simp only[mE]at h;obtain⟨x,h1,h⟩:=bind_some h;obtain⟨e,J,h⟩:=bind_some h;obtain⟨l,h2,h⟩:=bind_some h;simp only[RM.run]at h;injection h with h;subst h;simp only[RM.run]at h1;split at h1;rename_i y n;injection h1 with h1;subst h1;obtain⟨v,L,D⟩:=he _ _ n;obtain⟨g,E,k,F⟩:=XV hi he hc h2;obtain⟨G,o,ws,S,N,H,_,O⟩:=nq hi J D;obtain⟨Q,R⟩:=pg (P:=P) M C N H;have j: ∃u,(loadVar ty ⟨G,o,none⟩).run P s.w=.ok u s.w/\Jz s e.val u:=(by grind);obtain⟨u,I,hrel⟩:=j;refine⟨u::g,?_,by simp[k],λi x z K C=>?_⟩;simp_all [RN,asAddr];grind;cases h1
 |[],_::_,_,hc,_=>by grind [mW]
 | .tmp _::_,[],_,hc,_=>by grind [mW]
 | .cell _ _ _::_,[],_,hc,_=>by grind [mW]
 | .tmp _::_,.cell _ _::_,_,hc,_=>by grind [mW]
 | .cell _ _ _::_,.tmp _::_,_,hc,_=>by grind [mW]
theorem OJ{m:Nat}{fresh:Bool}{sto:List Blk}: ∀{es:List Ent},∀b∈iP m fresh sto es,m<=b
 |[],b,h=>by grind [iP]
 | .elem _ _ _::r,b,h=>OJ (es:=r) b (by simpa[iP]using h)
 | .whole c::r,b,h=>by
  simp only[iP]at h;split at h;exact OJ (es:=r) b h;rename_i hc;have e:b∈c::iP m fresh sto r->m<=b:=(by intro h;rcases bZ.1 h with rfl|h;omega;exact OJ (es:=r) b h);grind
theorem B1{s:Sn}{vs:List AV}{e:List Value}(hl:vs.length=e.length)(hr: ∀(i:Nat) x v,vs[i]?=some x->e[i]?=some v->Jz s x v):
  Jz s (one vs) (if h:e.toArray.size=1 then e.toArray[0]else .tuple e.toArray):=by
 by_cases h:e.toArray.size=1;rw[dif_pos h];cases e with
 |nil=>simp at h
 |cons u q=>
  cases vs with
  |nil=>simp at hl
  |cons x p=>
   have j:q=[]:=by simpa using h
   subst j;have g:p=[]:=by simpa using hl
   subst g;exact hr 0 x u rfl rfl
 rw[dif_neg h];have:one vs=.tup vs:=by
  match vs,hl with
  |[],_=>rfl
  |[x],hl=>simp_all
  |_::_::_,_=>rfl
 rw[this];exact .tup _ _ (by simpa using hl) λi x v n k=>hr i x v n (by simpa using k)
theorem ny{e:AFn}{fn:Func}{m:Nat}{r:Res}(hs:Sim N E st a w)(hm:E.σ.length=m)(h:fZ e m st=some r)(hc:mW P e.res fn.results.toList=true):
  a.defers=[]/\ ∃v,(results fn a.tmps).run P w=.ok v w/\ ∃g',Inv ⟨r.2,g',w⟩/\aW E ⟨r.2,g',w⟩/\Jz ⟨r.2,g',w⟩ r.1 v:=by
 obtain⟨h1,h2,g,hi,K,ht⟩:=hs;refine⟨h2,?_⟩;unfold fZ at h;cases hvs:(mE e.res).run st with
 |none=>simp_all
 |some vs=>
  rw[hvs]at h;dsimp only at h;obtain⟨y,R,W,H⟩:=XV (P:=P) (s:=⟨st.sto,g,w⟩) (env:=st.env) hi K hc hvs;have n:(results fn a.tmps).run P w=.ok (if h:y.toArray.size=1 then y.toArray[0]else .tuple y.toArray) w:=by
   have:results fn a.tmps=(do
    let vs<-fn.results.mapM (RN a.tmps)
    pure (if h:vs.size=1 then vs[0]else .tuple vs)):=rfl
   simp_all [Array.mapM_eq_mapM_toList]
  refine⟨_,n,?_⟩;split at h;grind [B1];split at h;rename_i C;have z:=OJ (m:=m) (fresh:=e.fresh) (sto:=st.sto) (es:=pM st.sto (cF.entsOfL vs []) (cF.entsOfL vs []));generalize iP m e.fresh st.sto (pM st.sto (cF.entsOfL vs []) (cF.entsOfL vs []))=ids at*;split at h;rename_i ws l q B J I;split at h;rename_i q' D;injection h with h;subst h;obtain⟨Y,M⟩:=sE B;obtain⟨b1,b2⟩:=OW J;obtain⟨U,V⟩:=o5 I;obtain⟨T,S⟩:=OW D;have F:m<=st.sto.length:=by rw[<-hm];exact ht.len
  have hlen:l.length=m:=by simp_all
  have o:jf ⟨st.sto,g,w⟩ m ids (l++q'):=(by refine⟨hi,F,PC C,z,by simp;omega,λk x A=>?_⟩;rcases HA A with A|⟨O,A⟩;grind [rV];grind [fM]);refine⟨_,Cu o,nm o ht (by omega),B1 (by omega) λi x v G L=>?_⟩;have Q:=Jp G;have j:vs[i]?=some (vs[i]'(by omega)):=zQ9 _;exact XN o (H i _ v j L) (M i _ x j G);cases h;cases h;cases h
def kF(P:Program)(f:FuncId)(e:AFn):Bool:=
 match P.funcs[f]? with
 |none=>false
 |some fn=>match fn.body with
  |none=>false
  |some g=>fn.name != "runtime.NumGoroutine" &&e.nt==e.np+(fn.ntmps-e.np)&&mW P e.res fn.results.toList&&cK P e.nt e.body g
theorem XR: ∀{args:List AV} {k n:Nat} {x:AV},lk n (iC k args)=some x->k<=n/\args[n-k]?=some x
 |[],k,n,x,h=>by grind [iC,lk]
 |y::r,k,n,x,h=>by
  simp only[iC,lk]at h;split at h;simp_all;rename_i e;obtain⟨h1,h2⟩:=XR h;grind
end
section
variable {P:Program} {T:cW}
theorem JG6{f:FuncId}{j:AFn}{args:List AV}{blks:List Blk}{r:Res}(hc:kF P f j=true)(K:args.length=j.np)
  (h: ∀(k:Code) (g:Gh) (w:World) (a:Act) (Q:Exit->Act->World->Prop),cK P j.nt j.body k=true->Sim j.nt ⟨blks,g,w⟩ ⟨iC 0 args,blks⟩ a w->
   (∀e s o w',(e=.normal\/e=.ret)->fZ j blks.length s=some r->Sim j.nt ⟨blks,g,w⟩ s o w'->Q (pW e) o w')->k.wp P Q a w):J4v P f args blks r:=by
 unfold kF at hc;split at hc;cases hc;rename_i fn A;split at hc;cases hc;rename_i k D;simp only[JQ,beq_iff_eq,bne_iff_ne,ne_eq]at hc;obtain⟨⟨⟨F,J⟩,G⟩,z⟩:=hc;refine⟨⟨fn,A,by simp[D],by simp_all⟩,λg w vals hinv hlen hrel=>?_⟩;refine calls_of_wp A D ?_;have C:Sim j.nt ⟨blks,g,w⟩ ⟨iC 0 args,blks⟩ {tmps:=vals++Array.replicate (fn.ntmps-vals.size) undef,defers:=[]} w:=(by refine⟨by simp;omega,rfl,g,hinv,λn x y=>?_,.refl _⟩;obtain⟨_,y⟩:=XR y;rw[rI]at y;have I:=Jp y;refine⟨vals[n]'(by omega),?_,hrel n x _ y (wG _)⟩;grind);have fin: ∀{s},fZ j blks.length s=some r-> ∀o w',Sim j.nt ⟨blks,g,w⟩ s o w'->o.defers=[]/\ ∃v,(results fn o.tmps).run P w'=.ok v w'/\ ∃B g',Ending.returned v=.returned B/\
   Inv ⟨r.2,g',w'⟩/\aW ⟨blks,g,w⟩ ⟨r.2,g',w'⟩/\Jz ⟨r.2,g',w'⟩ r.1 B:=by
  grind [ny]
 refine h k g w _ _ z C λe s o w' H q E=>?_;rcases H with rfl|rfl;exact fin q o w' E;exact fin q o w' E
theorem JHc{R:bT->St->Option Out}(ih: ∀c s r,R c s=some r->HL P c s r){f:FuncId}{k:nO}{args:List AV}{blks:List Blk}{r:Res}(hc:kF P f k.af=true)(K:args.length=k.np)
  (h:AW R k args blks=some r):J4v P f args blks r:=by
 refine JG6 hc K λn g w a Q j z fin=>?_;simp only[nO.af]at j fin z;cases n<;>simp only[cK,dJ]at j;rename_i S O;simp only[JQ]at j;obtain⟨F,q⟩:=j;unfold AW at h;split at h
 rename_i s0 I;split at h;rename_i s1 B;refine wp_seq ((ih _ _ _ I).get F z λa0 w0 x=>?_);split at q;rename_i cp H cx cy T;simp only[JQ]at q;obtain⟨⟨⟨⟨Y,L⟩,hx⟩,hy⟩,W⟩:=q;simp only[pW,Exit.then];refine wp_seq (wp_seq ((ih _ _ _ B).get Y x λE C x=>?_));have Z: ∀{c:bT} {n:Code},cK P k.nt c n=true->vT k.af blks.length (thn (R c s1) λs=>R k.rest s)=some r->
   n.wp P (Exit.then (T.wp P Q) Q) E C:=by
  intro c n hc ht;cases hR:R c s1 with
  |none=>rw[hR]at ht;cases ht
  |some o=>
   obtain⟨e,G⟩:=o;rw[hR]at ht;refine(ih _ _ _ hR).get hc x λy w' hs'=>?_;cases e with
   |normal=>
    simp only[thn]at ht;cases hR2:R k.rest G with
    |none=>rw[hR2]at ht;cases ht
    |some U=>
     obtain⟨V,J⟩:=U;rw[hR2]at ht;simp only[pW,Exit.then];refine(ih _ _ _ hR2).get W hs' λy w' hs'=>?_;cases V with
     |normal=>exact fin .normal J y w' (.inl rfl) ht hs'
     |ret=>exact fin .ret J y w' (.inr rfl) ht hs'
     |exit id=>cases ht
   |exit id=>cases ht
   |ret=>exact fin .ret G y w' (.inr rfl) ht hs'
 have A:=x;obtain⟨_,_,g,hi,M,_⟩:=A;simp only[pW,Exit.then];split at h;rename_i b D;have hrel:=bF (s:=⟨s1.sto,g,C⟩) (env:=s1.env) M D L;generalize N:E.eval H=v at hrel;cases hrel with
 |p _ _ hrel=>cases hrel<;>grind [wp_cond]
 rename_i D;have hrel:=bF (s:=⟨s1.sto,g,C⟩) (env:=s1.env) M D L;generalize N:E.eval H=v at hrel;cases hrel with
 |unk t=>
  refine wp_cond N ?_;unfold GF at h;grind
 cases h;cases q;cases h;cases h
theorem mf{R:bT->St->Option Out}(ih: ∀c s r,R c s=some r->HL P c s r)(F: ∀f j,T f=some (.fn j)->kF P f j=true)
  (L: ∀f g,T f=some (.prim g)-> ∀args blks r,g args blks=some r->J4v P f args blks r) (K: ∀f k,T f=some (.fork k)->kF P f k.af=true):iN P (pP T R):=by
 intro f args blks r h;unfold pP at h;cases hTf:T f with
 |none=>simp_all
 |some en=>
  rw[hTf]at h;cases en with
  |prim g=>simp_all
  |fork k=>
   grind [JHc]
  |fn j=>
   dsimp only at h;split at h;rename_i I;have hc:=F f j hTf;unfold kF at hc;split at hc;cases hc;rename_i fn z;split at hc;cases hc;rename_i E C;simp only[JQ,beq_iff_eq,bne_iff_ne,ne_eq]at hc;obtain⟨⟨⟨D,J⟩,G⟩,o⟩:=hc;refine⟨⟨fn,z,by simp[C],by simp_all⟩,λg w vals hinv hlen hrel=>?_⟩;refine calls_of_wp z C ?_;have y:Sim j.nt ⟨blks,g,w⟩ ⟨iC 0 args,blks⟩ {tmps:=vals++Array.replicate (fn.ntmps-vals.size) undef,defers:=[]} w:=(by refine⟨by simp;omega,rfl,g,hinv,λn x q=>?_,.refl _⟩;obtain⟨_,q⟩:=XR q;rw[rI]at q;have H:=Jp q;refine⟨vals[n]'(by omega),?_,hrel n x _ q (wG _)⟩;grind);have fin: ∀{s},fZ j blks.length s=some r-> ∀e w',Sim j.nt ⟨blks,g,w⟩ s e w'->e.defers=[]/\ ∃v,(results fn e.tmps).run P w'=.ok v w'/\ ∃B g',Ending.returned v=.returned B/\
     Inv ⟨r.2,g',w'⟩/\aW ⟨blks,g,w⟩ ⟨r.2,g',w'⟩/\Jz ⟨r.2,g',w'⟩ r.1 B:=by
    grind [ny]
   split at h;rename_i s hR;exact(ih _ _ _ hR).get o y λe w' A=>fin h e w' A;rename_i s hR;exact(ih _ _ _ hR).get o y λe w' A=>fin h e w' A;cases h;cases h
theorem JIa(a3:P.follows .mixedOrders=true)(hT: ∀f af,T f=some (.fn af)->kF P f af=true)
  (hP: ∀f g,T f=some (.prim g)-> ∀args blks r,g args blks=some r->J4v P f args blks r) (hK: ∀f k,T f=some (.fork k)->kF P f k.af=true): ∀c s r,X T c s=some r->HL P c s r:=by
 refine Y0 T _ ?_;intro R ih c s r h;have hF:iN P (pP T R):=mf ih hT hP hK;cases c with
 |skip=>
  simp only[step]at h;injection h with h;subst h;intro N j E a w Q hc q next;cases j<;>first
   |exact wp_skip (next a w q)
   |exact wp_label (next a w q)
   |grind [cK]
 |bad=>grind [step]
 |reg d pairs ins=>
  simp only[step]at h;split at h;rename_i s' a0;injection h with h;subst h;intro N j E a w Q hc q next;cases j<;>simp only[cK,dJ]at hc;simp only[JQ,beq_iff_eq]at hc;obtain⟨rfl,hc⟩:=hc;exact JJU hF a3 a0 hc q next
  cases h
 |seq x y=>
  simp only[step]at h;intro N j E a w Q hc q next;cases j<;>simp only[cK,dJ]at hc;simp only[JQ]at hc;refine wp_seq ?_;split at h
  rename_i s' C;refine(ih _ _ _ C).get hc.1 q λz w' hs'=>?_;exact(ih _ _ _ h).get hc.2 hs' next;rename_i W;refine(ih _ _ _ h).get hc.1 q λz w' hs'=>?_;obtain⟨e,s'⟩:=r;cases e with
  |normal=>simp_all
  |exit id=>exact next z w' hs'
  |ret=>exact next z w' hs'
 |cond c x y=>
  simp only[step]at h;intro N j E a w Q hc q next;cases j<;>simp only[cK,dJ]at hc;simp only[JQ]at hc;obtain⟨⟨Y,C⟩,hy⟩:=hc;have hs':=q;obtain⟨_,_,g,hi,B,_⟩:=hs';split at h
  rename_i b G;have hrel:=bF (s:=⟨s.sto,g,w⟩) (env:=s.env) B G Y;generalize I:a.eval _=v at hrel;cases hrel with
  |p _ _ hrel=>
   cases hrel with
   |b=>
    refine wp_cond I ?_;cases b with
    |true=>exact(ih _ _ _ (by simpa using h)).get C q next
    |false=>exact(ih _ _ _ (by simpa using h)).get hy q next
  rename_i G;have hrel:=bF (s:=⟨s.sto,g,w⟩) (env:=s.env) B G Y;generalize I:a.eval _=v at hrel;cases hrel with
  |unk t=>
   refine wp_cond I ?_;unfold same at h;split at h;rename_i r1 r2 e1 e2;split at h;rename_i L;injection h with h;subst h;cases t with
   |true=>exact(ih _ _ _ e1).get C q next
   |false=>rw[L]at next;exact(ih _ _ _ e2).get hy q next
   cases h;cases h
  cases h
 |block id x=>
  simp only[step]at h;intro N j E a w Q hc q next;cases j<;>simp only[cK,dJ]at hc;simp only[JQ,beq_iff_eq]at hc;obtain⟨rfl,hc⟩:=hc;refine wp_block ?_;split at h
  rename_i k s' C;refine(ih _ _ _ C).get hc q λz w' hs'=>?_;grind [pW,Exit.inBlock];rename_i W;refine(ih _ _ _ h).get hc q λz w' hs'=>?_;obtain⟨e,s'⟩:=r;cases e with
  |normal=>exact next z w' hs'
  |exit id=>simp_all
  |ret=>exact next z w' hs'
 |loop live x=>
  simp only[step]at h;intro N j E a w Q hc q next;cases j<;>simp only[cK,dJ]at hc;split at h
  rename_i s' A;obtain⟨k,hk⟩:=ih _ _ _ h;have H:E.σ.length<=s.sto.length:=by obtain⟨_,_,g,_,_,ht⟩:=q;exact ht.len
  obtain⟨hs',hl⟩:=OB q A H (zQ0 _);exact wp_loop_rounds k (hk N _ E a w Q hc H (by omega) hs' next);cases h
 |lp n live x=>
  simp only[step]at h;split at h
  ·rename_i s' C;split at h
   ·rename_i au A;obtain⟨k,hk⟩:=ih _ _ _ h;refine⟨k+1,λN j E a w Q hc H hn q next=>?_⟩;rw[rounds_succ];obtain⟨h1,h2,g,hi,B,ht⟩:=q;have D:Sim N ⟨s.sto,g,w⟩ s a w:=⟨h1,h2,g,hi,B,.refl _⟩;refine(ih _ _ _ C).get hc D λz w' hs'=>?_;obtain⟨S,M,g',J,K,F⟩:=hs';have hlen:s.sto.length<=s'.sto.length:=F.len;have a8:Sim N E s' z w':=⟨S,M,g',J,K,ht.trans F⟩;obtain⟨a9,hl⟩:=OB a8 A H (by omega);exact hk N j E z w' Q hc H (by omega) a9 next
   cases h
  ·rename_i W;refine⟨1,λN j E a w Q hc H hn q next=>?_⟩;rw[rounds_succ];refine(ih _ _ _ h).get hc q λz w' hs'=>?_;obtain⟨e,s'⟩:=r;cases e with|normal=>simp_all|exit id=>exact next z w' hs'|ret=>exact next z w' hs'
 |scope x=>simp only[step]at h;intro N j E a w Q hc q next;cases j<;>simp only[cK,dJ]at hc;refine wp_scope_straight ((ih _ _ _ h).get hc q λz w' hs'=>?_);have:=next z w' hs';obtain⟨e,s'⟩:=r;cases e<;>exact this
 |exit id=>
  simp only[step]at h;injection h with h;subst h;intro N j E a w Q hc q next;cases j<;>simp only[cK,dJ]at hc;simp only[beq_iff_eq]at hc;subst hc;exact wp_exit (next a w q)
 |ret=>
  simp only[step]at h;injection h with h;subst h;intro N j E a w Q hc q next;cases j<;>simp only[cK,dJ]at hc;exact wp_ret (next a w q)
 |keep live x=>simp only[step]at h;intro N j E a w Q hc q next;exact(ih _ _ _ h).get (by grind [cK]) (q.restr live) next
 |tidy live x=>
  simp only[step,lH]at h;intro N j E a w Q hc q next;split at h;rename_i e U L;split at h;rename_i s3 A;injection h with h;subst h;obtain⟨h1,h2,g,hi,B,ht⟩:=q;have D:Sim N ⟨s.sto,g,w⟩ s a w:=⟨h1,h2,g,hi,B,.refl _⟩;refine(ih _ _ _ L).get (by grind [cK]) D λz w' hs'=>next z w' ?_;obtain⟨S,M,g',J,K,F⟩:=hs';exact(OB (st:=U) (st':=s3) ⟨S,M,g',J,K,ht.trans F⟩ A ht.len F.len).1;cases h;cases h
 |br live pre o x y rest=>
  simp only[step]at h;intro N j E a w Q hc q next;unfold cK at hc;split at hc;rename_i cp cq cx cy cz;simp only[JQ]at hc;obtain⟨⟨⟨⟨hp,ho⟩,C⟩,hy⟩,hz⟩:=hc;split at h;rename_i s1 a5;refine wp_seq (wp_seq ((ih _ _ _ a5).get hp q λV O Z=>?_));have ac: ∀{c:bT} {j:Code} {r':Out},cK P N c j=true->thn (R c s1) (λs=>R rest s)=some r'->
    ∀{E:Sn} {a:Act} {w:World} {Q:Exit->Act->World->Prop},Sim N E s1 a w->(∀z w',Sim N E r'.2 z w'->Q (pW r'.1) z w')->j.wp P (Exit.then (cz.wp P Q) Q) a w:=by
   intro c j r' hc ht E a w Q q next;cases hR:R c s1 with
   |none=>rw[hR]at ht;cases ht
   |some o=>
    obtain⟨e,U⟩:=o;rw[hR]at ht;refine(ih _ _ _ hR).get hc q λz w' hs'=>?_;cases e with
    |normal=>exact(ih _ _ _ ht).get hz hs' next
    |exit id=>injection ht with ht;subst ht;exact next z w' hs'
    |ret=>injection ht with ht;subst ht;exact next z w' hs'
  have ag: ∀{c:bT} {j:Code},cK P N c j=true->lH s1.sto.length live (thn (R c s1) λs=>R rest s)=some r->j.wp P (Exit.then (cz.wp P Q) Q) V O:=(by intro c j hc ht;unfold lH at ht;split at ht;rename_i e U L;split at ht;rename_i s3 A;injection ht with ht;subst ht;obtain⟨h1,h2,g,hi,B,ht⟩:=Z;have D:Sim N ⟨s1.sto,g,O⟩ s1 V O:=⟨h1,h2,g,hi,B,.refl _⟩;refine ac hc L D λz w' hs'=>next z w' ?_;obtain⟨S,M,g',J,K,F⟩:=hs';exact(OB (st:=U) (st':=s3) ⟨S,M,g',J,K,ht.trans F⟩ A ht.len F.len).1;cases ht;cases ht);have a2:=Z;obtain⟨_,_,g,hi,B,_⟩:=a2;simp only[pW,Exit.then];split at h;rename_i b G;have hrel:=bF (s:=⟨s1.sto,g,O⟩) (env:=s1.env) B G ho;generalize I:V.eval cq=v at hrel;cases hrel with
  |p _ _ hrel=>cases hrel<;>grind [wp_cond]
  rename_i G;have hrel:=bF (s:=⟨s1.sto,g,O⟩) (env:=s1.env) B G ho;generalize I:V.eval cq=v at hrel;cases hrel with
  |unk t=>
   refine wp_cond I ?_;unfold same at h;grind
  cases h;cases h;cases hc
theorem zh(e:P.follows .mixedOrders=true)(j: ∀f o,T f=some (.fn o)->kF P f o=true)
  (h: ∀f g,T f=some (.prim g)-> ∀args blks r,g args blks=some r->J4v P f args blks r) (n: ∀f k,T f=some (.fork k)->kF P f k.af=true):iN P (AF T):=
 mf (JIa e j h n) j h n
end
end Go.Am
end
section
namespace Go.Am
@[congr] theorem JM0{o e:Option Out}{k:St->Option Out}(h:o=e):thn o k=thn e k:=by rw[h]
@[congr] theorem JLb{α β:Type}{o e:RM α}{f:α->RM β}(h:o=e):o.bind f=e.bind f:=by rw[h]
@[congr] theorem JLc{α β:Type}{o e:Option α}{f:α->Option β}(h:o=e):o.bind f=e.bind f:=by rw[h]
@[simp] theorem IB(s k):thn (some (.normal,s)) k=k s:=rfl
@[simp] theorem JGv(i s k):thn (some (.exit i,s)) k=some (.exit i,s):=rfl
@[simp] theorem JI8(s k):thn (some (.ret,s)) k=some (.ret,s):=rfl
@[simp] theorem JFo(k):thn none k=none:=rfl
def EQ(o:Option Out)(k:St->Option Out):Option Out:=
 match o with
 |some (.normal,s)=>k s
 |_=>none
@[congr] theorem JLg{o e:Option Out}{k:St->Option Out}(h:o=e):EQ o k=EQ e k:=by rw[h]
@[simp] theorem D9(s k):EQ (some (.normal,s)) k=k s:=rfl
def blo(id:Nat)(o:Option Out):Option Out:=
 match o with
 |some (.exit k,s)=>if k=id then some (.normal,s)else some (.exit k,s)
 |o=>o
@[simp] theorem JD1(id s):blo id (some (.normal,s))=some (.normal,s):=rfl
@[simp] theorem lx(id i s):blo id (some (.exit i,s))=if i=id then some (.normal,s)else some (.exit i,s):=rfl
@[simp] theorem JIZ(id s):blo id (some (.ret,s))=some (.ret,s):=rfl
@[simp] theorem JG9(id):blo id none=none:=rfl
def nrm(o:Option St):Option Out:=match o with|some s=>some (.normal,s)|none=>none
@[simp] theorem JHv(s):nrm (some s)=some (.normal,s):=rfl
@[simp] theorem JGN:nrm none=none:=rfl
def evv(x:Opd)(env:List (Nat×AV)):Option AV:=match x with| .t n=>lk n env| .c v=>some v
@[simp] theorem JMx(n env):evv (.t n) env=lk n env:=rfl
@[simp] theorem JMy(v env):evv (.c v) env=some v:=rfl
theorem MF(x:Opd)(s:St):(ev x).run s=evv x s.env:=by cases x<;>grind [ev,RM.run,evv]
section
variable (T:cW)
@[simp ↓] theorem JMs(s):X T .skip s=some (.normal,s):=by rw[kZ];rfl
@[simp ↓] theorem zl(a b s):X T (.seq a b) s=thn (X T a s) λs=>X T b s:=by
 rw[kZ];simp only[step];cases X T a s with
 |none=>rfl
 |some o=>obtain⟨e,s'⟩:=o;cases e<;>rfl
theorem zg(d ps ins s):X T (.reg d ps ins) s=nrm (region (AF T) ps ins s):=by rw[kZ];simp only[step];show(match region (AF T) ps ins s with|some s'=>some (AX.normal,s')|none=>none)=_;cases region (AF T) ps ins s<;>rfl
@[simp ↓] theorem JMu(d ins env sto):X T (.reg d [] ins) ⟨env,sto⟩=nrm (fJ (AF T) ins sto.length ⟨env,room (news ins) sto⟩):=by rw[zg];rfl
def cnd(x:Option AV)(a b:Option Out)(c:Unit->Option Out):Option Out:=
 match x with
 |some (.p (.b x))=>if x=true then a else b
 |some .unk=>c ()
 |_=>none
@[congr] theorem JLY{x e:Option AV}{a b:Option Out}{c:Unit->Option Out}(h:x=e):cnd x a b c=cnd e a b c:=by rw[h]
@[simp] theorem zf(x a b c):cnd (some (.p (.b x))) a b c=if x=true then a else b:=rfl
@[simp] theorem JJ4(a b c):cnd (some .unk) a b c=c ():=rfl
@[simp ↓] theorem JJf(x a b s):X T (.cond x a b) s=cnd (evv x s.env) (X T a s) (X T b s) λ_=>same (X T a s) (X T b s):=by
 rw[kZ];simp only[step,MF];cases evv x s.env with
 |none=>rfl
 |some v=>
  cases v with
  |p c=>cases c<;>rfl
  |_=>rfl
@[simp ↓] theorem JHZ(id c s):X T (.block id c) s=blo id (X T c s):=by
 rw[kZ];simp only[step];cases X T c s with
 |none=>rfl
 |some o=>obtain⟨e,s'⟩:=o;cases e<;>rfl
@[simp ↓] theorem JIi(c s):X T (.scope c) s=X T c s:=by rw[kZ];rfl
@[simp ↓] theorem JMr(id s):X T (.exit id) s=some (.exit id,s):=by rw[kZ];rfl
@[simp ↓] theorem Z3(s):X T .ret s=some (.ret,s):=by rw[kZ];rfl
@[simp ↓] theorem zt(live c s):X T (.keep live c) s=X T c ⟨restr live s.env,s.sto⟩:=by rw[kZ];rfl
@[simp ↓] theorem JMA(live pre x a b rest s):X T (.br live pre x a b rest) s=EQ (X T pre s) λs1=>
  cnd (evv x s1.env) (thn (X T a s1) λs=>X T rest s) (thn (X T b s1) λs=>X T rest s) λ_=>
   same (lH s1.sto.length live (thn (X T a s1) λs=>X T rest s)) (lH s1.sto.length live (thn (X T b s1) λs=>X T rest s)):=by
 rw[kZ];simp only[step,MF];cases X T pre s with
 |none=>rfl
 |some o=>
  obtain⟨e,s1⟩:=o;cases e with
  |normal=>
   dsimp only[EQ];cases evv x s1.env with
   |none=>rfl
   |some v=>
    cases v with
    |p c=>cases c<;>rfl
    |_=>rfl
  |exit=>rfl
  |ret=>rfl
@[simp ↓] theorem JKh(live c env sto):X T (.loop live c) ⟨env,sto⟩=X T (.lp sto.length live c) ⟨restr live env,sto⟩:=by
 grind [kZ,step,clean]
theorem gi(n live c s):X T (.lp n live c) s=thn (X T c s) λs=>match clean n live s with
  |some s=>X T (.lp n live c) s
  |none=>none:=by
 rw[kZ];simp only[step];cases X T c s with
 |none=>rfl
 |some o=>obtain⟨e,s'⟩:=o;cases e<;>rfl
def EH(res:List tL)(fresh:Bool)(m:Nat)(o:Option Out):Option Res:=
 match o with
 |some (.normal,s)=>fZ ⟨0,0,.skip,res,fresh⟩ m s
 |some (.ret,s)=>fZ ⟨0,0,.skip,res,fresh⟩ m s
 |_=>none
@[congr] theorem JLG{res:List tL}{fresh:Bool}{m:Nat}{o e:Option Out}(h:o=e):EH res fresh m o=EH res fresh m e:=by rw[h]
@[simp] theorem D0(res fresh m s):EH res fresh m (some (.normal,s))=fZ ⟨0,0,.skip,res,fresh⟩ m s:=rfl
@[simp] theorem JHd(res fresh m s):EH res fresh m (some (.ret,s))=fZ ⟨0,0,.skip,res,fresh⟩ m s:=rfl
@[simp] theorem JLs(o:Option Res):GF o o=o:=by unfold GF;cases o<;>simp
theorem Zt{f:FuncId}{fn:AFn}(h:T f=some (.fn fn))(args blks):AF T f args blks=if args.length=fn.np then
  EH fn.res fn.fresh blks.length (X T fn.body ⟨iC 0 args,blks⟩)
 else none:=by
 unfold AF pP;rw[h];rfl
end
variable {F:Orc} {env:List (Nat×AV)} {sto:List Blk} {new:Nat} {r:List bQ} {d:Nat}
@[simp] theorem JBH(s):fJ F [] new s=some s:=rfl
theorem D3(i s):fJ F (i::r) new s=((bS F i new).run s).bind λe=>fJ F r (new+kD i.op) (put i.dst e s):=by
 grind [fJ]
@[simp] theorem JM7:news []=0:=rfl
@[simp ↓] theorem JLZ(i):news (i::r)=kD i.op+news r:=rfl
@[simp] theorem JMv:room 0 sto=sto:=rfl
@[simp] theorem JLW(n):room (n+1) sto=sto++List.replicate (n+1) .dead:=rfl
@[simp] theorem JMw(n):lk n []=none:=rfl
@[simp] theorem JIz(n m v)(r:List (Nat×AV)):lk n ((m,v)::r)=if n=m then some v else lk n r:=rfl
attribute [simp ↓] D3 bS opD rL kD run_bind MF opR
attribute [simp] put val evs evo jK mZ
 mF vY vS unP iE EB fz fz.fzL fz.fz1 fzs xK fN gT sub spl pV LU FH GR GP lI LF tD oO jH uH uF eS kG hA mmP cellsOf unp oK jF
 mE one iC fP GU lJ
@[simp] theorem JM1(o:Option Out):same o o=o:=by unfold same;cases o<;>simp
@[simp ↓] theorem JT{α:Type}(a:α)(s:St):(RM.ret a).run s=some a:=rfl
@[simp ↓] theorem JMl{α:Type}(s:St):(RM.fail:RM α).run s=none:=rfl
@[simp ↓] theorem uR{α:Type}(n:Nat)(k:AV->RM α)(s:St):(RM.slot n k).run s=(lk n s.env).bind λv=>(k v).run s:=by grind [RM.run]
@[simp ↓] theorem dQ{α:Type}(n:Nat)(k:Blk->RM α)(s:St):(RM.blk n k).run s=(s.sto[n]?).bind λv=>(k v).run s:=by grind [RM.run]
@[simp] theorem JHT:upd [] sto=sto:=rfl
@[simp] theorem JGq(b x ws):upd ((b,x)::ws) sto=upd ws (sto.set b x):=rfl
@[simp] theorem JLX:restr [] env=[]:=rfl
@[simp] theorem JD9(k l):restr (k::l) env=match lk k env with
 |some v=>(k,v)::restr l env
 |none=>restr l env:=rfl
end Go.Am
namespace Go.Am
def oG:AV->Bool| .p _| .data _| .cp _ _| .unk=>true|_=>false
@[simp] theorem JM8(c):oG (.p c)=true:=rfl
@[simp] theorem JLd(c):oG (.data c)=true:=rfl
@[simp] theorem JLV(c o):oG (.cp c o)=true:=rfl
theorem pc: ∀{args:List AV} {l:List Ent},args.all oG=true->cF.entsOfL args l=l|[],l,_=>rfl|x::r,l,h=>by simp only[List.all_cons,JQ]at h;obtain⟨h1,h2⟩:=h;simp only[cF.entsOfL];cases x<;>simp[oG]at h1<;>simp only[cF]<;>exact pc h2
theorem nk{ρ:Ent->Option Nat}: ∀{args:List AV},args.all oG=true->ren.renL ρ args=some args|[],_=>rfl|x::r,h=>by simp only[List.all_cons,JQ]at h;have:=nk (ρ:=ρ) h.2;have h1:=h.1;clear h;cases x<;>simp[oG]at h1<;>simp[ren.renL,ren,this]
theorem JGx{es:List Ent}{new:Nat}{x:AV}(h:oG x=true):bk es new x=some x:=by cases x<;>simp[oG]at h<;>rfl
theorem ZZ{es:List Ent}{new:Nat}: ∀{xs:List AV},xs.all oG=true->bk.bkL es new xs=some xs|[],_=>rfl|x::r,h=>by simp only[List.all_cons,JQ]at h;simp[bk.bkL,JGx h.1,ZZ h.2]
@[simp] theorem JMz(es new c):bk es new (.p c)=some (.p c):=rfl
@[simp] theorem JMq(es new c):bk es new (.data c)=some (.data c):=rfl
@[simp] theorem JMt(es new l):bk es new (.tup l)=(bk.bkL es new l).map .tup:=by grind [bk]
@[simp] theorem JMp(es new):bk.bkL es new []=some []:=rfl
@[simp] theorem JMc(es new x l):bk.bkL es new (x::l)=(bk es new x).bind λy=>(bk.bkL es new l).map λl=>y::l:=by simp only[bk.bkL];cases bk es new x<;>simp;cases bk.bkL es new l<;>rfl
@[simp] theorem JLe(n live):lH n live none=none:=rfl
@[simp] theorem Gk(n live e s):lH n live (some (e,s))=(clean n live s).map λs=>(e,s):=by
 grind [lH]
attribute [simp ↓] JL Option.bind_none IB JGv JI8 JFo D9 JHv JGN zf JJ4 JD1 lx JIZ JG9 D0 JHd JBH JIz JD9 JHT JGq
attribute [simp] clean tK pT fG fin fin.finL fZ iP pM cF cF.entsOfL uG iK tX dV unp
end Go.Am
end
section
namespace Go.Am
inductive Fr where|sq (b:bT)|bl (id:Nat)|td (n:Nat) (live:List Nat)|lo (n:Nat) (live:List Nat) (c:bT)
noncomputable def again(T:cW)(n:Nat)(live:List Nat)(c:bT)(o:Option St):Option Out:=match o with|some s=>X T (.lp n live c) s|none=>none
section
variable (T:cW) (f:AFn) (m:Nat) (k:List Fr)
theorem JJI(live c s):X T (.tidy live c) s=lH s.sto.length live (X T c s):=by rw[kZ];rfl
end
open Classical in
noncomputable def J4{σ ρ:Type}(f:σ->Option (σ⊕ρ))(s:σ):Option ρ:=
 let e:Nat->σ->Option ρ:=λn=>n.rec (λ_=>none) λ_ ih s=>match f s with|some (.inl s')=>ih s'|some (.inr r)=>some r|none=>none
 if h: ∃n r,e n s=some r then e (Classical.choose h) s else none
def cO{σ ρ:Type}(f:σ->Option (σ⊕ρ)):Nat->σ->Option ρ|0,_=>none|n+1,s=>match f s with|some (.inl s')=>cO f n s'|some (.inr r)=>some r|none=>none
section
variable {σ ρ:Type} {f:σ->Option (σ⊕ρ)}
theorem YC(n:Nat): ∀s:σ,(Nat.rec (motive:=λ_=>σ->Option ρ) (λ_=>none) (λ_ ih s=>match f s with
  |some (.inl s')=>ih s'
  |some (.inr r)=>some r
  |none=>none) n) s=cO f n s:=by
 induction n with
 |zero=>intro s;rfl
 |succ n ih=>grind [cO]
theorem cv: ∀{n:Nat} {s:σ} {r:ρ} (m:Nat),cO f n s=some r->cO f (n+m) s=some r
 |0,_,_,_,h=>by cases h
 |n+1,s,r,m,h=>by
  rw[show n+1+m=(n+m)+1 by omega];simp only[cO]at h⊢;split at h;exact cv m h
  all_goals simp_all
theorem JFM{n m:Nat}{s:σ}{r r':ρ}(h:cO f n s=some r)(e:cO f m s=some r'):r=r':=by
 have a:=cv m h;have b:=cv n e;grind
theorem hU{s:σ}{r:ρ}:J4 f s=some r↔ ∃n,cO f n s=some r:=by
 unfold J4;dsimp only;constructor;intro h;split at h;exact⟨_,by rw[<-YC];exact h⟩;cases h;rintro⟨n,h⟩;have e: ∃n r,(Nat.rec (motive:=λ_=>σ->Option ρ) (λ_=>none) (λ_ ih s=>match f s with
  |some (.inl s')=>ih s'
  |some (.inr r)=>some r
  |none=>none) n) s=some r:=⟨n,r,by grind [YC]⟩
 rw[dif_pos e];obtain⟨r',g⟩:=Classical.choose_spec e;rw[g];rw[YC]at g;grind [JFM]
theorem eH{s:σ}{r:ρ}(h:f s=some (.inr r)):J4 f s=some r:=hU.2 ⟨1,by grind [cO]⟩
theorem gV{s s':σ}(h:f s=some (.inl s')):J4 f s=J4 f s':=by
 have g: ∀r,J4 f s=some r↔J4 f s'=some r:=by
  intro r;rw[hU,hU];constructor;rintro⟨n,e⟩;cases n<;>grind [cO]
  rintro⟨n,e⟩;exact⟨n+1,by grind [cO]⟩
 cases hs:J4 f s with
 |some r=>grind
 |none=>cases hs':J4 f s'<;>grind
theorem JCs{s:σ}(h:f s=none):J4 f s=none:=by
 cases hs:J4 f s with
 |none=>rfl
 |some r=>obtain⟨n,e⟩:=hU.1 hs;cases n<;>simp_all [cO]
theorem cm{P:σ->ρ->Prop}(h1: ∀s r,f s=some (.inr r)->P s r)(h2: ∀s s' r,f s=some (.inl s')->P s' r->P s r){s:σ}{r:ρ}(h:J4 f s=some r):P s r:=by
 obtain⟨n,e⟩:=hU.1 h;clear h
 induction n generalizing s with
 |zero=>cases e
 |succ n ih=>
  grind [cO]
end
end Go.Am
end
section
namespace Go.Am
section
variable {α:Type}
def idx(l:List α)(n:Int):Option α:=if 0<=n then l[n.toNat]? else none
def aQ(k:Nat)(n:Int):Option Unit:=if 0<=n/\n<k then some ()else none
def Jy(bytes:Nat)(l e:List α):Option (List α):=if kG (l.length+e.length) bytes=true then some (l++e)else none
def cC(bytes:Nat)(l:List α):Option (List α):=if kG l.length bytes=true then some l else none
def xj(bytes:Nat)(l e:List α):Option (List α):=if 0<e.length/\kG (l.length+e.length) bytes=true then some (l++e)else none
def mkS(bytes:Nat)(n m:Int)(z:α):Option (List α):=if 0<=n/\n<=m/\bytes*m<=281474976710656/\m<=281474976710656 then some (List.replicate n.toNat z)else none
def AA(x:Option Int)(top e:Nat):Option Nat:=match x with|none=>some e|some n=>if 0<=n/\n<=top then some n.toNat else none
def wL(n:Nat)(lo hi:Option Int):Option (Nat×Nat):=match AA hi n n with|none=>none|some h=>match AA lo h 0 with|none=>none|some l=>some (l,h)
def bB(l:List α)(lo hi:Option Int):Option (List α):=match wL l.length lo hi with|some c=>some ((l.drop c.1).take (c.2-c.1))|none=>none
def yg(k:IntKind)(x y:Int):Option Int:=if y=0 then none else some (k.wrap (x.tdiv y))
def tH(x y:Int):Option Int:=if y=0 then none else some (x.tmod y)
def vP(k:IntKind)(x y:Int):Option Int:=if y<0 then none else some (k.wrap (x*2^(min y.toNat k.bits)))
def jZ(k:IntKind)(x y:Int):Option Int:=if y<0 then none else some (x.fdiv (2^(min y.toNat k.bits)))
def pI(k:IntKind)(x y:Int):Int:=k.wrap (BitVec.ofInt k.bits x&&&BitVec.ofInt k.bits y).toNat
def orI(k:IntKind)(x y:Int):Int:=k.wrap (BitVec.ofInt k.bits x|||BitVec.ofInt k.bits y).toNat
def eZ(k:IntKind)(x y:Int):Int:=k.wrap (BitVec.ofInt k.bits x^^^BitVec.ofInt k.bits y).toNat
def SE(k:IntKind)(n:Int):Int:=k.wrap (BitVec.ofInt k.bits (if k.signed then -1 else k.max)^^^BitVec.ofInt k.bits n).toNat
def eC(a b:List UInt8):Option (List UInt8):=if a.length+b.length<=4611686018427387904 then some (a++b)else none
def rG(l:List UInt8)(n:Int):Option Int:=if 0<=n then(match l[n.toNat]? with|some u=>some (u.toNat:Int)|none=>none)else none
def fq{k:Nat}(v:Vector α k)(n:Int):Option α:=if 0<=n/\n<k then v[n.toNat]? else none
def toStr(l:List Int):List UInt8:=l.map λn=>UInt8.ofNat n.toNat
def aP(l:List UInt8):List Int:=l.map λu=>(u.toNat:Int)
def lG(x y:Int):Int:=if y<x then y else x
def dP(x y:Int):Int:=if y>x then y else x
end
@[reducible] def cat(a b:List PV):List PV:=a++b
def r_i(k:IntKind)(n:Int):List PV:=[.i k n]
def r_b(x:Bool):List PV:=[.b x]
def r_s(l:List UInt8):List PV:=[.s l]
def Yu{α:Type}(esz:Nat)(r:α->List PV)(l:List α):List PV:=[.sl esz (l.map r)]
def nW{α:Type}{n:Nat}(r:α->List PV)(v:Vector α n):List PV:=(v.toList.map r).flatten
section
variable {α:Type}
theorem xG(cs:List α)(off size:Nat):sub cs off size=if off+size<=cs.length then some ((cs.drop off).take size)else none:=by
 grind [sub]
theorem CD(cs:List α)(off:Nat)(vs:List α):spl cs off vs=if off+vs.length<=cs.length then some (cs.take off++vs++cs.drop (off+vs.length))else none:=by simp_all
theorem XF{cs:List α}{n:Nat}(h:cs.length=n):sub cs 0 n=some cs:=by simp_all
theorem B4{cs vs:List α}(h:cs.length=vs.length):spl cs 0 vs=some vs:=by simp_all
theorem JFe{a b c:List α}{off size:Nat}(h1:a.length=off)(h2:b.length=size):sub (a++(b++c)) off size=some b:=by
 grind [xG]
theorem JDs{b c:List α}{size:Nat}(h2:b.length=size):sub (b++c) 0 size=some b:=JFe (a:=[]) rfl h2
theorem JEb{a b c v:List α}{off:Nat}(h1:a.length=off)(h2:b.length=v.length):spl (a++(b++c)) off v=some (a++(v++c)):=by
 grind [CD]
theorem JDH{b c v:List α}(h2:b.length=v.length):spl (b++c) 0 v=some (v++c):=JEb (a:=[]) rfl h2
theorem Cp{cs e r:List α}{a m k n:Nat}(h1:sub cs a m=some e)(h2:sub e k n=some r):sub cs (a+k) n=some r:=by
 grind [xG,List.drop_take,List.drop_drop]
theorem Cx{cs g e v cs':List α}{a m k:Nat}(h1:sub cs a m=some g)(h2:spl g k v=some e)(h3:spl cs a e=some cs'):spl cs (a+k) v=some cs':=by
 rw[xG]at h1;rw[CD]at h2 h3⊢;split at h1;rename_i o;injection h1 with h1;subst h1;split at h2;rename_i j;injection h2 with h2;subst h2;simp at j;split at h3;injection h3 with h3;subst h3;rw[if_pos (by omega)]
 congr 1
 simp only[eM,nS,qZ,List.take_take,List.drop_take,AB,mL];have h:cs.take (a+k)=cs.take a++(cs.drop a).take k:=List.take_add ..;rw[h,mL];rw[show min k m=k by omega]
 congr 3
 have n:cs.drop (a+k+v.length)=(cs.drop (a+(k+v.length))).take (m-(k+v.length))++cs.drop (a+m):=(by have:=lB (m-(k+v.length)) (cs.drop (a+(k+v.length)));rw[AB]at this;rw[show a+(k+v.length)+(m-(k+v.length))=a+m by omega]at this;grind);rw[n]
 congr 2
 omega;cases h3;cases h2;cases h1
theorem CI{β:Type}(g:α->β)(cs:List α)(off size:Nat):sub (cs.map g) off size=(sub cs off size).map (List.map g):=by
 grind [xG,List.map_drop,List.map_take]
theorem CH{β:Type}(g:α->β)(cs:List α)(off:Nat)(vs:List α):spl (cs.map g) off (vs.map g)=(spl cs off vs).map (List.map g):=by
 grind [CD,List.map_drop,List.map_take]
theorem GW{n k w:Nat}{r:α->List PV}(hr: ∀x,(r x).length=w){v:Vector α n}{x:α}(h:v[k]?=some x):sub (nW r v) (k*w) w=some (r x):=by
 have g: ∀(l:List α) (k:Nat) (x:α),l[k]?=some x->sub ((l.map r).flatten) (k*w) w=some (r x):=by
  intro l
  induction l with
  |nil=>simp_all
  |cons y l ih=>
   intro k x h;cases k with
   |zero=>
    grind [JDs]
   |succ k=>
    simp at h;have:=ih k x h;rw[bP,pJ];rw[xG]at this⊢;split at this;injection this with this;have e:(k+1)*w=w+k*w:=by grind
    rw[e,if_pos (by grind)];have j:w+k*w=(r y).length+k*w:=by rw[hr]
    rw[j,List.drop_length_add_append,this];cases this
 exact g _ _ _ (by simp_all)
theorem Au{n k w:Nat}{r:α->List PV}(hr: ∀x,(r x).length=w){v:Vector α n}(h:k<n)(y:α):spl (nW r v) (k*w) (r y)=some (nW r (v.setIfInBounds k y)):=by
 have g: ∀(l:List α) (k:Nat),k<l.length->spl ((l.map r).flatten) (k*w) (r y)=some (((l.set k y).map r).flatten):=by
  intro l
  induction l with
  |nil=>simp_all
  |cons z l ih=>
   intro k h;cases k with
   |zero=>
    grind [JDH]
   |succ k=>
    simp at h;have:=ih k h;rw[bP,pJ];rw[CD]at this⊢;split at this;rename_i j;injection this with this;have e:(k+1)*w=(r z).length+k*w:=by grind
    rw[e,if_pos (by grind)];simp only[List.set_cons_succ,bP,pJ];rw[<-this];rw[show(r z).length+k*w+(r y).length=(r z).length+(k*w+(r y).length) by omega];simp[List.take_length_add_append];cases this
 grind [nW]
theorem JKo{n w:Nat}{r:α->List PV}(hr: ∀x,(r x).length=w)(v:Vector α n):(nW r v).length=n*w:=by
 have e: ∀l:List α,((l.map r).flatten).length=l.length*w:=by
  intro l
  induction l with
  |nil=>simp
  |cons x l ih=>grind
 grind [nW]
end
theorem HQ: ∀l:List PV,unp (l.map AV.p)=some l|[]=>rfl|x::l=>by simp[unp,HQ l]
theorem pu(l:List PV):jK true (l.map AV.p)=some (.data l):=by simp[HQ]
theorem UC: ∀l:List PV,(l.map AV.p).all oG=true|[]=>rfl|x::l=>by simp
theorem m7(m:Nat)(ids:List Nat)(sto:List Blk): ∀l:List PV,fin.finL m ids sto (l.map AV.p)=some (l.map AV.p)|[]=>rfl|x::l=>by simp[fin.finL,fin,m7 m ids sto l]
theorem oc(l:List PV)(acc:List Ent):cF.entsOfL (l.map AV.p) acc=acc:=pc (UC l)
theorem JE8{α:Type}{r:α->List PV}{l:List α}{n:Int}{x:α}(h:idx l n=some x):LF (l.map r) n=some (r x):=by simp_all [idx]
theorem Bg{k:Nat}{n:Int}{u:Unit}(h:aQ k n=some u):0<=n/\n<k:=by
 grind [aQ]
theorem JFr{α:Type}{k:Nat}{v:Vector α k}{n:Int}{x:α}(h:fq v n=some x):(0<=n/\n<k)/\v[n.toNat]?=some x:=by
 grind [fq]
theorem JIF{α:Type}{r:α->List PV}{esz bytes b:Nat}{w:Bool}{l e g:List α}{y:AV}{s:St}(h:Jy bytes l g=some e)(hb:s.sto[b]?=some (.arr w esz (l.map r)))(hy:(eS esz y).run s=some (g.map r)):
  (hA esz bytes (.slr b 0 l.length) y).run s=some ⟨.slr b 0 e.length,[(b,.arr w esz (e.map r))]⟩:=by
 grind [Jy,hA,dQ,run_bind,JT]
theorem dl: ∀l:List Int,rX (l.map (r_i .u8))=some (toStr l)|[]=>rfl|x::l=>by simp[rX,r_i,dl l,toStr]
theorem YT(l:List UInt8):l.map lJ=(aP l).map (r_i .u8):=by simp[aP,r_i]
theorem JFm{α:Type}{bytes:Nat}{l e:List α}(h:cC bytes l=some e):kG l.length bytes=true/\e=l:=by
 grind [cC]
theorem JIS{α:Type}{bytes:Nat}{n m:Int}{z:α}{l:List α}(h:mkS bytes n m z=some l):(0<=n/\n<=m/\bytes*m<=281474976710656/\m<=281474976710656)/\l=List.replicate n.toNat z:=by
 grind [mkS]
end Go.Am
end
section
set_option linter.unusedSimpArgs false
set_option linter.unusedVariables false
namespace Go.Am
open Go.RowKit
theorem k0{σ:List Blk}{g:Gh}{w w':World}(hi:Inv ⟨σ,g,w⟩)(hb:Below w.heap.size w w'):
  Inv ⟨σ,g,w'⟩/\aW ⟨σ,g,w⟩ ⟨σ,g,w'⟩:=by
 have j: ∀(r:Nat) x,w.heap[r]?=some x->w'.heap[r]?=some x:=λr x h=>by rw[hb.block r (xY h)];exact h
 have hc: ∀r o v,cellAt w r o=some v->cellAt w' r o=some v:=(by grind [cellAt]);have t:aW ⟨σ,g,w⟩ ⟨σ,g,w'⟩:=by
  refine⟨⟨hb.size,λr c e fz h=>⟨c,j r _ h,rfl,λ_ _=>rfl⟩,λr x h _=>j r x h,hb.os,hb.output⟩,λ_ _ h=>h,λ_ _ h=>.inl h,λr o ⟨b,hb⟩=>.inl ⟨b,hb⟩,zQ0 _,λ_ cs h=>⟨⟨cs,h,rfl⟩,rfl⟩,
   λ_ wm _ rows h=>⟨wm,rows,h,id,zQ0 _,λ_=>rfl⟩⟩
 exact⟨mT hi t (λ_=>False) (λ_ _=>⟨rfl,rfl⟩) (λ_ r o v _ _ h=>hc r o v h) (λ_ _ h=>h.elim) (λ_ _ _ _ h=>h.elim)
  (λ_ _ _ _ h=>h.elim) (λr o h=>Nat.lt_of_lt_of_le (hi.const r o h).1 hb.size) (λ_ _ _ _ h=>h.elim) (λ_ _ _ h k=>(k h).elim),t⟩
def pF:PV->Option Value| .b x=>some (.bool x)| .i k n=>some (.int k n)| .s l=>some (.string ⟨l.toArray⟩)|_=>none
theorem l8{x:PV}{v:Value}(h:pF x=some v)(w:World)(C:Nat->Nat->Prop):J01 w C x v:=by
 cases x<;>simp only[pF,Option.some.injEq,reduceCtorEq]at h<;>subst h
 exact .b _;exact .i _ _;exact .s _
theorem C5{x:PV}{v e:Value}{w:World}{C:Nat->Nat->Prop}(h:J01 w C x v)(hv:pF x=some e):v=e:=by cases x<;>simp only[pF,Option.some.injEq,reduceCtorEq]at hv<;>subst hv<;>cases h<;>rfl
theorem JBm{P:Program}{f:FuncId}{xs:List PV}{vs:List Value}{r:PV}{v:Value}{blks:List Blk}
  (hf: ∃fn,P.funcs[f]?=some fn∧fn.body.isSome=true∧(fn.name== "runtime.NumGoroutine")=false)
  (hx:xs.mapM pF=some vs) (hr:pF r=some v)
  (hc: ∀w,Calls P f vs.toArray w λe w'=>e=.returned v/\Below w.heap.size w w'):
  J4v P f (xs.map .p) blks (.p r,blks):=by
 refine⟨hf,λg w vals hi C E=>?_⟩;have h:vals=vs.toArray:=by
  have n: ∀(xs:List PV) (vs vl:List Value),xs.mapM pF=some vs->xs.length=vl.length->
    (∀(i:Nat) x v,(xs.map AV.p)[i]?=some x->vl[i]?=some v->Jz ⟨blks,g,w⟩ x v)->vl=vs:=by
   intro xs
   induction xs with
   |nil=>grind
   |cons x r ih=>
    intro vs vl h1 h2 q;simp only[List.mapM_cons,Option.pure_def,Option.bind_eq_bind]at h1;obtain⟨F,o,h1⟩:=bG.1 h1;obtain⟨z,k,h1⟩:=bG.1 h1;simp only[Option.some.injEq]at h1;subst h1;cases vl with
    |nil=>simp at h2
    |cons u y=>
     have:=q 0 (.p x) u rfl rfl;cases this with
     |p _ _ B=>rw[C5 B o,ih z y k (by simpa using h2) (λi x v hx D=>q (i+1) x v hx D)]
  apply zL;rw[n xs vs vals.toList hx (by simpa using C) (λi x v h1 h2=>E i x v h1 (by simpa using h2))]
 subst h;refine(hc w).mono ?_;rintro e w' ⟨rfl,A⟩;obtain⟨j,t⟩:=k0 hi A;exact⟨v,g,rfl,j,t,.p _ _ (l8 hr _ _)⟩
theorem XD{T:cW}{f:FuncId}{g:List AV->List Blk->Option Res}(h:T f=some (.prim g))(args blks):AF T f args blks=g args blks:=by simp_all [AF,pP]
def yr(a:Option AFn)(k:Option nO)(g q:Option (List AV->List Blk->Option Res)):Option Entry:=
 match a with
 |some a=>some (.fn a)
 |none=>match k with|some k=>some (.fork k)|none=>match g with|some g=>some (.prim g)|none=>q.map .prim
theorem CN{a:Option AFn}{k:Option nO}{g q:Option (List AV->List Blk->Option Res)}{e:Entry}(h:yr a k g q=some e):
  (∃x,a=some x/\e=.fn x)\/(∃x,k=some x/\e=.fork x)\/(∃x,g=some x/\e=.prim x)\/(∃x,q=some x/\e=.prim x):=by
 cases a with
 |some a=>exact .inl ⟨a,rfl,by injection h with h;exact h.symm⟩
 |none=>
  cases k with
  |some k=>exact .inr (.inl ⟨k,rfl,by injection h with h;exact h.symm⟩)
  |none=>
   cases g with
   |some g=>exact .inr (.inr (.inl ⟨g,rfl,by injection h with h;exact h.symm⟩))
   |none=>
    cases q with
    |some q=>exact .inr (.inr (.inr ⟨q,rfl,by injection h with h;exact h.symm⟩))
    |none=>cases h
def Jar(n:Int)(i:Nat):Int:=IntKind.wrap .u8 ((IntKind.wrap .u64 n).fdiv (2^(8*i)))
def J8R(n:Int)(k:Nat):List UInt8:=toStr ((List.range k).map (Jar n))
def Jkp(l:List UInt8)(n size:Int):Option (List UInt8):=if size<1\/8<size then some l else if l.length+8<=140737488355328 then some (l++J8R n size.toNat)else none
def JBT:List AV->List Blk->Option Res|[.p (.s l),.p (.i .i64 n),.p (.i .i64 k)],blks=>(Jkp l n k).map λr=>(.p (.s r),blks)|_,_=>none
theorem JIR(x:Int):0<=IntKind.wrap .u8 x/\IntKind.wrap .u8 x<256:=by have h:IntKind.wrap .u8 x=x%256:=rfl;rw[h];omega
theorem JDl(n:Int)(i:Nat):((UInt8.ofNat (Jar n i).toNat).toNat:Int)=Jar n i:=by
 have h:0<=Jar n i/\Jar n i<256:=JIR _;grind [UInt8.toNat_ofNat_of_lt']
theorem JEY(n:Int)(k:Nat):J8R n (k+1)=J8R n k++[UInt8.ofNat (Jar n k).toNat]:=by simp[J8R,toStr,List.range_succ]
theorem Jkb(n:Int)(k:Nat):(J8R n k).length=k:=by simp[J8R,toStr]
theorem Zw(x y:Bool):bW [.b] [.b x] [.b y]=some (decide (x=y)):=by
 grind [bW,tI]
theorem Zz(k:IntKind)(x y:Int):bW [.i k] [.i k x] [.i k y]=some (decide (x=y)):=by
 grind [bW,tI]
theorem Z1(x y:List UInt8):bW [.s] [.s x] [.s y]=some (decide (x=y)):=by
 grind [bW,tI]
theorem Cn{p q:Prop} [Decidable p] [Decidable q]: ∀{e g:List KD} {a1 a2 b1 b2:List PV},bW e a1 b1=some (decide p)->bW g a2 b2=some (decide q)->bW (e++g) (cat a1 a2) (cat b1 b2)=some (decide (p/\q)):=by
 have h: ∀(e g:List KD) (a1 a2 b1 b2:List PV) (r s:Bool),bW e a1 b1=some r->bW g a2 b2=some s->bW (e++g) (a1++a2) (b1++b2)=some (r&&s):=by
  intro e
  induction e with
  |nil=>
   grind [bW]
  |cons k ks ih=>
   intro g a1 a2 b1 b2 r s h1 h2;cases a1 with
   |nil=>grind [bW]
   |cons a a1=>
    cases b1 with
    |nil=>grind [bW]
    |cons b b1=>
     simp only[bW]at h1;split at h1;rename_i u c j hc;injection h1 with h1;subst h1;simp only[lE,bW,j,ih _ _ _ _ _ _ _ hc h2,Bool.and_assoc];cases h1
 intro e g a1 a2 b1 b2 h1 h2;rw[h _ _ _ _ _ _ _ _ h1 h2,Bool.decide_and]
theorem JKA{α:Type} [DecidableEq α]{n:Nat}{ks:List KD}{r:α->List PV}(h: ∀x y,bW ks (r x) (r y)=some (decide (x=y)))(v w:Vector α n):
  bW (List.replicate n ks).flatten (nW r v) (nW r w)=some (decide (v=w)):=by
 have g: ∀(l e:List α),l.length=e.length->bW (List.replicate l.length ks).flatten (l.map r).flatten (e.map r).flatten=some (decide (l=e)):=by
  intro l
  induction l with
  |nil=>grind [bW]
  |cons a l ih=>
   intro e h1;cases e with
   |nil=>simp at h1
   |cons b e=>
    have h2:=Cn (h a b) (ih e (by simpa using h1));grind [decide]
 have j:=g v.toList w.toList (by simp);rw[show v.toList.length=n by simp]at j;rw[show decide (v=w)=decide (v.toList=w.toList) by simp[Vector.toList_inj]];exact j
end Go.Am
end
section
namespace Go.Am
def J1(k:IntKind)(a c:Int):Int:=k.wrap (a+c)
def Js(k:IntKind)(a c:Int):Int:=k.wrap (a-c)
def cI(k:IntKind)(a c:Int):Int:=k.wrap (a*c)
def Ys(k:IntKind)(n:Int):Int:=k.wrap (0-n)
def aX(k:IntKind)(n:Int):Int:=k.wrap n
def aI(a c:Int):Bool:=decide (a=c)
def aL(a c:Int):Bool:= !decide (a=c)
def aJ(a c:Int):Bool:=decide (a<c)
def aR(a c:Int):Bool:=decide (a<=c)
def aM(a c:Int):Bool:=decide (a>c)
def aO(a c:Int):Bool:=decide (a>=c)
def eqS(a c:List UInt8):Bool:=decide (a=c)
def neS(a c:List UInt8):Bool:= !decide (a=c)
def ltS(a c:List UInt8):Bool:=Op.bytesLess a c
def leS(a c:List UInt8):Bool:=Op.bytesLess a c||decide (a=c)
def gtS(a c:List UInt8):Bool:= !(Op.bytesLess a c||decide (a=c))
def geS(a c:List UInt8):Bool:= !Op.bytesLess a c
def eqB(a c:Bool):Bool:=decide (a=c)
def Jk(x:Bool):Bool:= !x
def J0{α:Type}(l:List α):Int:=l.length
def Y5{α:Type}(c:Bool)(x y:α):α:=if c=true then x else y
def bA{α:Type}(l:List α)(i:Nat):Option α:=l[i]?
def aS{α:Type}(l:List α)(i:Nat)(x:α):List α:=l.set i x
def vat{α:Type}{n:Nat}(l:Vector α n)(i:Nat):Option α:=l[i]?
def bE{α:Type}{n:Nat}(l:Vector α n)(i:Nat)(x:α):Vector α n:=l.setIfInBounds i x
inductive Ty where
 |b
 |i (k:IntKind)
 |s
 |l (t:Ty)
 |pr (a c:Ty)
 |ar (n:Nat) (t:Ty)
 |u
 |f
 deriving DecidableEq
@[reducible] def Ty.D:Ty->Type
 | .b=>Bool
 | .i _=>Int
 | .s=>List UInt8
 | .l t=>List t.D
 | .pr a c=>a.D×c.D
 | .ar n t=>Vector t.D n
 | .u=>Unit
 | .f=>Unit
def Ty.sz:Ty->Nat| .b=>1| .i _=>1| .s=>1| .l _=>1| .pr a c=>a.sz+c.sz| .ar n t=>n*t.sz| .u=>0| .f=>1
def cel:(t:Ty)->t.D->List PV| .b,x=>[.b x]| .i k,x=>[.i k x]| .s,x=>[.s x]| .l t,x=>[.sl t.sz (x.map (cel t))]| .pr a c,x=>cel a x.1++cel c x.2| .ar _ t,x=>nW (cel t) x| .u,_=>[]| .f,_=>[.nf]
theorem dK: ∀(t:Ty) (x:t.D),(cel t x).length=t.sz| .b,_=>rfl| .i _,_=>rfl| .s,_=>rfl| .l _,_=>rfl| .pr a c,x=>by simp only[cel,eM,dK a,dK c,Ty.sz]| .ar n t,x=>by simp only[cel,Ty.sz];exact JKo (dK t) x| .u,_=>rfl| .f,_=>rfl
def Ty.eqd:(t:Ty)->DecidableEq t.D| .b=>inferInstanceAs (DecidableEq Bool)| .i _=>inferInstanceAs (DecidableEq Int)| .s=>inferInstanceAs (DecidableEq (List UInt8))| .l t=>have:=t.eqd;inferInstanceAs (DecidableEq (List t.D))| .pr a c=>have:=a.eqd;have:=c.eqd;inferInstanceAs (DecidableEq (a.D×c.D))| .ar n t=>have:=t.eqd;inferInstanceAs (DecidableEq (Vector t.D n))| .u=>inferInstanceAs (DecidableEq Unit)| .f=>inferInstanceAs (DecidableEq Unit)
def eqT(t:Ty)(x y:t.D):Bool:=have:=t.eqd;decide (x=y)
theorem cV{t:Ty}{x y:t.D}:eqT t x y=true↔x=y:=by simp[eqT]
def Ty.zero:(t:Ty)->t.D| .b=>false| .i _=>(0:Int)| .s=>[]| .l _=>[]| .pr a c=>(a.zero,c.zero)| .ar n t=>Vector.replicate n t.zero| .u=>()| .f=>()
def Ty.ks:Ty->Option (List KD)
 | .b=>some [.b]
 | .i k=>some [.i k]
 | .s=>some [.s]
 | .l _=>none
 | .pr a c=>match a.ks,c.ks with|some x,some y=>some (x++y)|_,_=>none
 | .ar n t=>match t.ks with|some x=>some (List.replicate n x).flatten|none=>none
 | .u=>some []
 | .f=>none
theorem NJ: ∀(t:Ty) {ks:List KD} (x y:t.D),t.ks=some ks->bW ks (cel t x) (cel t y)=some (eqT t x y)
 | .b,ks,x,y,h=>by injection h with h;subst h;exact Zw x y
 | .i k,ks,x,y,h=>by injection h with h;subst h;exact Zz k x y
 | .s,ks,x,y,h=>by injection h with h;subst h;exact Z1 x y
 | .l _,_,_,_,h=>by cases h
 | .pr a c,ks,x,y,h=>by
  simp only[Ty.ks]at h;split at h;rename_i p q e g;injection h with h;subst h;have h1:=NJ a x.1 y.1 e;have h2:=NJ c x.2 y.2 g;unfold eqT at h1 h2;have j:(have:=a.eqd;decide (x.1=y.1))= @decide _ (a.eqd x.1 y.1):=rfl;have:= @Cn _ _ (a.eqd x.1 y.1) (c.eqd x.2 y.2) _ _ _ _ _ _ h1 h2;simp only[cel];refine this.trans (congrArg some ?_);grind [eqT];cases h
 | .ar n t,ks,x,y,h=>by
  simp only[Ty.ks]at h;split at h;rename_i p e;injection h with h;subst h;have:= @JKA t.D t.eqd n p (cel t) (λx y=>by have:=NJ t x y e;exact this) x y;grind [cel,eqT];cases h
 | .u,ks,x,y,h=>by injection h with h;subst h;rfl
 | .f,_,_,_,h=>by cases h
inductive Sp where
 |f (off:Nat)
 |a (i esz:Nat)
 deriving DecidableEq
def spo:List Sp->Nat|[]=>0| .f o::r=>o+spo r| .a i e::r=>i*e+spo r
def spf:Nat->List Sp->Nat×List Sp|o,.f k::r=>spf (o+k) r|o,r=>(o,r)
theorem KW: ∀(o:Nat) (p:List Sp),(spf o p).1+spo (spf o p).2=o+spo p|o,[]=>rfl|o,.f k::r=>by simp only[spf,KW,spo];omega|o,.a i e::r=>rfl
section
variable {R:Type}
def prt:(t:Ty)->t.D->(off:Nat)->List Sp->(w:Ty)->(w.D->Option R)->Option R
 |t,x,off,p,w,k=>
  if h:t=w/\off=0/\p=[]then k (h.1▸x)
  else match t,x with
   | .pr a c,x=>if off+(if p=[]then w.sz else 1)<=a.sz then prt a x.1 off p w k
    else if a.sz<=off then prt c x.2 (off-a.sz) p w k
    else none
   | .ar _ t,x=>if p=[]then(vat x (off/t.sz)).bind λy=>prt t y (off%t.sz) p w k
    else match off,p with|0,.a i e::r=>if e=t.sz then(vat x i).bind λy=>prt t y (spf 0 r).1 (spf 0 r).2 w k else none|_,_=>none
   |_,_=>none
def pst:(t:Ty)->t.D->(off:Nat)->List Sp->(w:Ty)->w.D->(t.D->Option R)->Option R
 |t,x,off,p,w,v,k=>
  if h:t=w/\off=0/\p=[]then k (h.1.symm▸v)
  else match t,x,k with
   | .pr a c,x,k=>if off+(if p=[]then w.sz else 1)<=a.sz then pst a x.1 off p w v λy=>k (y,x.2)
    else if a.sz<=off then pst c x.2 (off-a.sz) p w v λy=>k (x.1,y)
    else none
   | .ar _ t,x,k=>if p=[]then(vat x (off/t.sz)).bind λy=>pst t y (off%t.sz) p w v λy=>k (bE x (off/t.sz) y)
    else match off,p with|0,.a i e::r=>if e=t.sz then(vat x i).bind λy=>pst t y (spf 0 r).1 (spf 0 r).2 w v λy=>k (bE x i y)else none|_,_=>none
   |_,_,_=>none
end
theorem JGG{α:Type}{a b v:List α}{off n:Nat}(h:sub a off n=some v):sub (a++b) off n=some v:=by
 grind [xG]
theorem JF7{α:Type}{a b v:List α}{off n:Nat}(h0:a.length<=off)(h:sub b (off-a.length) n=some v):sub (a++b) off n=some v:=by
 grind [xG,List.drop_append,List.drop_of_length_le]
theorem JHr{α:Type}{a b v e:List α}{off:Nat}(h:spl a off v=some e):spl (a++b) off v=some (e++b):=by
 grind [CD]
theorem JEl{α:Type}{a b v e:List α}{off:Nat}(h0:a.length<=off)(h:spl b (off-a.length) v=some e):spl (a++b) off v=some (a++e):=by
 rw[CD]at h⊢;split at h;injection h with h;rw[if_pos (by simp;omega),<-h,List.take_append,List.take_of_length_le h0,List.drop_append,List.drop_of_length_le (by omega)];simp;omega;cases h
theorem Be{α:Type}{n i:Nat}{x:Vector α n}{y:α}(h:x[i]?=some y):i<n:=by
 grind
theorem uL{R:Type}{t w:Ty}{x:t.D}{off:Nat}{p:List Sp}{k:w.D->Option R}{r:R}(h0:t=w/\off=0/\p=[])(h:k (h0.1▸x)=some r):
  ∃y,sub (cel t x) (off+spo p) w.sz=some (cel w y)/\k y=some r:=by
 obtain⟨rfl,rfl,rfl⟩:=h0;grind [spo,XF,dK]
theorem uM{R:Type}{t w:Ty}{x:t.D}{off:Nat}{p:List Sp}{v:w.D}{k:t.D->Option R}{r:R}(h0:t=w/\off=0/\p=[])(h:k (h0.1.symm▸v)=some r):
  ∃y,spl (cel t x) (off+spo p) (cel w v)=some (cel t y)/\k y=some r:=by
 obtain⟨rfl,rfl,rfl⟩:=h0;grind [spo,B4,dK]
theorem uK{R:Type}: ∀{t:Ty} {x:t.D} {off:Nat} {p:List Sp} {w:Ty} {k:w.D->Option R} {r:R},prt t x off p w k=some r->
  ∃y,sub (cel t x) (off+spo p) w.sz=some (cel w y)/\k y=some r
 | .pr a c,x,off,p,w,k,r,h=>by
  unfold prt at h;by_cases g:Ty.pr a c=w/\off=0/\p=[];rw[dif_pos g]at h;exact uL g h;rw[dif_neg g]at h;dsimp only at h;by_cases h1:off+(if p=[]then w.sz else 1)<=a.sz;rw[if_pos h1]at h;obtain⟨y,v,o⟩:=uK h;exact⟨y,JGG v,o⟩;rw[if_neg h1]at h;by_cases h2:a.sz<=off;rw[if_pos h2]at h;obtain⟨y,v,o⟩:=uK h;refine⟨y,JF7 (by grind [dK]) ?_,o⟩;grind [dK];simp_all
 | .ar n t,x,off,p,w,k,r,h=>by
  unfold prt at h;by_cases g:Ty.ar n t=w/\off=0/\p=[];rw[dif_pos g]at h;exact uL g h;rw[dif_neg g]at h;dsimp only at h;by_cases A:p=[];rw[if_pos A]at h;obtain⟨z,j,h⟩:=bG.1 h;obtain⟨y,h1,h2⟩:=uK h;refine⟨y,?_,h2⟩;have:=Cp (GW (dK t) j) h1;grind [cel,Nat.div_add_mod];rw[if_neg A]at h;split at h;rename_i _ i e q _;split at h;rename_i B;obtain⟨z,j,h⟩:=bG.1 h;obtain⟨y,h1,h2⟩:=uK h;refine⟨y,?_,h2⟩;have:=Cp (GW (dK t) j) h1;grind [cel,KW,spo];cases h;cases h
 | .b,x,off,p,w,k,r,h=>by
  unfold prt at h;split at h
  next g=>exact uL g h
  next=>cases h
 | .i _,x,off,p,w,k,r,h=>by
  unfold prt at h;split at h
  next g=>exact uL g h
  next=>cases h
 | .s,x,off,p,w,k,r,h=>by
  unfold prt at h;split at h
  next g=>exact uL g h
  next=>cases h
 | .l _,x,off,p,w,k,r,h=>by
  unfold prt at h;split at h
  next g=>exact uL g h
  next=>cases h
 | .u,x,off,p,w,k,r,h=>by
  unfold prt at h;split at h
  next g=>exact uL g h
  next=>cases h
 | .f,x,off,p,w,k,r,h=>by
  unfold prt at h;split at h
  next g=>exact uL g h
  next=>cases h
theorem xC{R:Type}: ∀{t:Ty} {x:t.D} {off:Nat} {p:List Sp} {w:Ty} {v:w.D} {k:t.D->Option R} {r:R},pst t x off p w v k=some r->
  ∃y,spl (cel t x) (off+spo p) (cel w v)=some (cel t y)/\k y=some r
 | .pr a c,x,off,p,w,v,k,r,h=>by
  unfold pst at h;by_cases g:Ty.pr a c=w/\off=0/\p=[];rw[dif_pos g]at h;exact uM g h;rw[dif_neg g]at h;dsimp only at h;by_cases h1:off+(if p=[]then w.sz else 1)<=a.sz;rw[if_pos h1]at h;obtain⟨y,B,A⟩:=xC h;exact⟨(y,x.2),JHr B,A⟩;rw[if_neg h1]at h;by_cases h2:a.sz<=off;rw[if_pos h2]at h;obtain⟨y,B,A⟩:=xC h;refine⟨(x.1,y),JEl (by grind [dK]) ?_,A⟩;grind [dK];simp_all
 | .ar n t,x,off,p,w,v,k,r,h=>by
  unfold pst at h;by_cases g:Ty.ar n t=w/\off=0/\p=[];rw[dif_pos g]at h;exact uM g h;rw[dif_neg g]at h;dsimp only at h;by_cases o:p=[];rw[if_pos o]at h;obtain⟨z,j,h⟩:=bG.1 h;obtain⟨y,h1,h2⟩:=xC h;refine⟨_,?_,h2⟩;have:=Cx (GW (dK t) j) h1 (Au (dK t) (Be j) y);subst o;simp only[spo,rA]at this⊢;rw[RW,Nat.div_add_mod]at this;exact this;rw[if_neg o]at h;split at h;rename_i _ i e q _;split at h;rename_i C;obtain⟨z,j,h⟩:=bG.1 h;obtain⟨y,h1,h2⟩:=xC h;refine⟨_,?_,h2⟩;have:=Cx (GW (dK t) j) h1 (Au (dK t) (Be j) y);have E:=KW 0 q;simp only[spo,C];rw[show i*t.sz+((spf 0 q).1+spo (spf 0 q).2)=0+(i*t.sz+spo q) by omega]at this;exact this;cases h;cases h
 | .b,x,off,p,w,v,k,r,h=>by
  unfold pst at h;split at h
  next g=>exact uM g h
  next=>cases h
 | .i _,x,off,p,w,v,k,r,h=>by
  unfold pst at h;split at h
  next g=>exact uM g h
  next=>cases h
 | .s,x,off,p,w,v,k,r,h=>by
  unfold pst at h;split at h
  next g=>exact uM g h
  next=>cases h
 | .l _,x,off,p,w,v,k,r,h=>by
  unfold pst at h;split at h
  next g=>exact uM g h
  next=>cases h
 | .u,x,off,p,w,v,k,r,h=>by
  unfold pst at h;split at h
  next g=>exact uM g h
  next=>cases h
 | .f,x,off,p,w,v,k,r,h=>by
  unfold pst at h;split at h
  next g=>exact uM g h
  next=>cases h
end Go.Am
end
section
namespace Go.Am
inductive TC where|d (t:Ty) (x:t.D)|sc (t:Ty) (rows:List t.D)|np|nf|un|ptr (b:Nat) (p:List Sp)|cp (t:Ty) (x:t.D) (p:List Sp)|slr (b:Nat)|slo (b n:Nat)|ep (b i:Nat) (p:List Sp)|epo (b e i:Nat) (p:List Sp)|fn (f:FuncId)
inductive TA where|c (x:TC)|dt (t:Ty) (x:t.D)|m (t:Ty) (cs:List TC)|fn (f:FuncId) (first caps:List TC)
inductive TV where|a (x:TA)|tup (vs:List TA)
inductive TB where|dead|box (t:Ty) (x:t.D)|mbox (t:Ty) (cs:List TC)|arr (w:Bool) (t:Ty) (rows:List t.D)
structure TSt where
 env:List (Nat×TV)
 sto:List TB
def hdP:List PV->PV|[c]=>c|_=>.np
def lnB:TB->Nat| .arr _ _ rows=>rows.length|_=>0
def lnO:Option TB->Nat|some x=>lnB x|none=>0
def lns(sto:List TB)(b:Nat):Nat:=lnO sto[b]?
section
variable (L:Nat->Nat)
def aU:TC->AV| .d t x=>.p (hdP (cel t x))| .sc t rows=>.p (.slc t.sz (rows.map (cel t)))| .np=>.p .np| .nf=>.p .nf| .un=>.unk| .ptr b p=>.ptr b (spo p)| .cp t x p=>.cp (cel t x) (spo p)| .slr b=>.slr b 0 (L b)| .slo b n=>.slr b 0 n| .ep b i p=>.ep b (L b) i (spo p)| .epo b e i p=>.ep b e i (spo p)| .fn f=>.fn f [] []
def bM:TA->AV| .c x=>aU L x| .dt t x=>.data (cel t x)| .m _ cs=>.agg (cs.map (aU L))| .fn f a c=>.fn f (a.map (aU L)) (c.map (aU L))
def JY:TV->AV| .a x=>bM L x| .tup vs=>.tup (vs.map (bM L))
def aT:TB->Blk| .dead=>.dead| .box t x=>.box ((cel t x).map .p)| .mbox _ cs=>.box (cs.map (aU L))| .arr w t rows=>.arr w t.sz (rows.map (cel t))
end
def fB(L:Nat->Nat)(env:List (Nat×TV)):List (Nat×AV):=env.map λx=>(x.1,JY L x.2)
def Ju(s:TSt):St:=⟨fB (lns s.sto) s.env,s.sto.map (aT (lns s.sto))⟩
section
variable (L:Nat->Nat)
theorem BJ(t x):aT L (.box t x)=.box ((cel t x).map .p):=rfl
theorem GZ(t cs):aT L (.mbox t cs)=.box (cs.map (aU L)):=rfl
theorem WA(w t rows):aT L (.arr w t rows)=.arr w t.sz (rows.map (cel t)):=rfl
theorem jA(b p):JY L (.a (.c (.ptr b p)))=.ptr b (spo p):=rfl
theorem lD(t x p):JY L (.a (.c (.cp t x p)))=.cp (cel t x) (spo p):=rfl
theorem fX(b):JY L (.a (.c (.slr b)))=.slr b 0 (L b):=rfl
theorem kX(b i p):JY L (.a (.c (.ep b i p)))=.ep b (L b) i (spo p):=rfl
theorem e_i(k x):JY L (.a (.c (.d (.i k) x)))=.p (.i k x):=rfl
theorem e_b(x):JY L (.a (.c (.d .b x)))=.p (.b x):=rfl
theorem e_s(x):JY L (.a (.c (.d .s x)))=.p (.s x):=rfl
theorem e_l(t x):JY L (.a (.c (.d (.l t) x)))=.p (.sl t.sz (x.map (cel t))):=rfl
theorem yj(f):JY L (.a (.c (.fn f)))=.fn f [] []:=rfl
theorem gz(t x):JY L (.a (.dt t x))=.data (cel t x):=rfl
theorem g8(f a c):JY L (.a (.fn f a c))=.fn f (a.map (aU L)) (c.map (aU L)):=rfl
theorem e_m(t cs):JY L (.a (.m t cs))=.agg (cs.map (aU L)):=rfl
end
theorem FA{t:Ty}(h:t.sz=1)(x:t.D):cel t x=[hdP (cel t x)]:=by
 have:=dK t x;rw[h]at this
 match hc:cel t x,this with
 |[c],_=>rfl
def kC(b n:Nat):TC->TC| .slr c=>if c=b then .slo b n else .slr c| .ep c i p=>if c=b then .epo b n i p else .ep c i p|x=>x
def kA(b n:Nat):TA->TA| .c x=>.c (kC b n x)| .dt t x=>.dt t x| .m t cs=>.m t (cs.map (kC b n))| .fn f a c=>.fn f (a.map (kC b n)) (c.map (kC b n))
def kV(b n:Nat):TV->TV| .a x=>.a (kA b n x)| .tup vs=>.tup (vs.map (kA b n))
def kB(b n:Nat):TB->TB| .mbox t cs=>.mbox t (cs.map (kC b n))|x=>x
def wS(b:Nat)(x:TB)(s:TSt):TSt:=⟨s.env,s.sto.set b x⟩
def wN(b:Nat)(x:TB)(s:TSt):TSt:=⟨s.env.map λy=>(y.1,kV b (lns s.sto b) y.2),(s.sto.map (kB b (lns s.sto b))).set b x⟩
def aY(d:Option Nat)(v:TV)(s:TSt):TSt:=
 match d with
 |some d=>⟨(d,v)::s.env,s.sto⟩
 |none=>s
section
variable {L L':Nat->Nat} {b:Nat}
theorem k_C(h: ∀c,c≠b->L' c=L c)(x:TC):aU L' (kC b (L b) x)=aU L x:=by cases x<;>grind [kC,aU]
theorem xk(h: ∀c,c≠b->L' c=L c)(xs:List TC):(xs.map (kC b (L b))).map (aU L')=xs.map (aU L):=by simp_all [k_C]
theorem k_A(h: ∀c,c≠b->L' c=L c)(x:TA):bM L' (kA b (L b) x)=bM L x:=by cases x<;>simp only[kA,bM,k_C h,xk h]
theorem k_V(h: ∀c,c≠b->L' c=L c)(x:TV):JY L' (kV b (L b) x)=JY L x:=by cases x<;>simp only[kV,JY,k_A h,wB,Function.comp_def]
theorem k_B(h: ∀c,c≠b->L' c=L c)(x:TB):aT L' (kB b (L b) x)=aT L x:=by cases x<;>simp only[kB,aT,xk h]
theorem JKT(b n:Nat)(x:TB):lnB (kB b n x)=lnB x:=by cases x<;>rfl
theorem JJH(sto:List TB)(b n c:Nat):lns (sto.map (kB b n)) c=lns sto c:=by
 unfold lns;rw[fF];cases sto[c]? with
 |none=>rfl
 |some x=>exact JKT b n x
theorem Bi(sto:List TB)(b:Nat)(x:TB)(c:Nat)(h:c≠b):lns (sto.set b x) c=lns sto c:=by
 grind [lns]
theorem VZ{sto:List TB}{b:Nat}(h:b<sto.length)(x:TB):lns (sto.set b x) b=lnB x:=by unfold lns;rw[zX h];rfl
theorem zj(b:Nat)(x:TB)(s:TSt):Ju (wN b x s)=⟨(Ju s).env,(Ju s).sto.set b (aT (lns (wN b x s).sto) x)⟩:=by
 have h: ∀c,c≠b->lns (wN b x s).sto c=lns s.sto c:=λc hc=>by
  grind [wN,Bi,JJH]
 unfold Ju
 congr 1
 show fB _ (s.env.map λy=>(y.1,kV b (lns s.sto b) y.2))=fB _ s.env;simp_all [fB,k_V];show((s.sto.map (kB b (lns s.sto b))).set b x).map _=_;grind [List.map_set,List.map_congr_left,k_B]
theorem BR{b:Nat}{x:TB}{s:TSt}(h:lnB x=lns s.sto b):lns (wS b x s).sto=lns s.sto:=by
 grind [wS,VZ,List.set_eq_of_length_le,Bi]
theorem wR{b:Nat}{x:TB}{s:TSt}(h:lnB x=lns s.sto b):Ju (wS b x s)=⟨(Ju s).env,(Ju s).sto.set b (aT (lns s.sto) x)⟩:=by
 grind [Ju,BR,wS,List.map_set]
theorem pX{s s1:TSt}{ws:List (Nat×Blk)}(h:Ju s1=⟨(Ju s).env,upd ws (Ju s).sto⟩)(d:Option Nat)(v:TV):put d ⟨JY (lns s1.sto) v,ws⟩ (Ju s)=Ju (aY d v s1):=by cases d<;>simp_all [aY,Ju,fB]
end
theorem HG{s:TSt}(d:Option Nat)(v:TV):put d ⟨JY (lns s.sto) v,[]⟩ (Ju s)=Ju (aY d v s):=pX rfl d v
def tlk(n:Nat):List (Nat×TV)->Option TV|[]=>none|(m,v)::r=>if n=m then some v else tlk n r
theorem xA(L:Nat->Nat)(n:Nat): ∀env:List (Nat×TV),lk n (fB L env)=(tlk n env).map (JY L)
 |[]=>rfl
 |(m,v)::r=>by
  simp only[fB,bP,lk,tlk];split;rfl;exact xA L n r
theorem dX(s:TSt)(b:Nat):(Ju s).sto[b]?=(s.sto[b]?).map (aT (lns s.sto)):=by simp[Ju]
theorem mY{sto:List TB}{b:Nat}{w:Bool}{t:Ty}{rows:List t.D}(h:sto[b]?=some (.arr w t rows)):lns sto b=rows.length:=by unfold lns;rw[h];rfl
inductive TO where|t (n:Nat)|c (x:TV)
def erO:TO->Opd| .t n=>.t n| .c x=>.c (JY (λ_=>0) x)
def zc:TC->Bool| .d _ _| .sc _ _| .np| .nf| .un| .fn _=>true|_=>false
def KX:TA->Bool| .c x=>zc x| .dt _ _=>true| .m _ _=>false| .fn _ a c=>a.isEmpty&&c.isEmpty
def AO:TV->Bool| .a x=>KX x| .tup vs=>vs.isEmpty
theorem JGI{L L':Nat->Nat}{v:TV}(h:AO v=true):JY L v=JY L' v:=by
 cases v with
 |a x=>
  cases x with
  |c x=>cases x<;>first|rfl|grind [AO,KX,zc]
  |dt t x=>rfl
  |m t cs=>grind [AO,KX]
  |fn f a c=>simp[AO,KX]at h;obtain⟨rfl,rfl⟩:=h;rfl
 |tup vs=>simp[AO]at h;subst h;rfl
def tev:TO->TSt->Option TV| .t n,s=>tlk n s.env| .c x,_=>if AO x=true then some x else none
theorem bN{x:TO}{s:TSt}{v:TV}(h:tev x s=some v):(ev (erO x)).run (Ju s)=some (JY (lns s.sto) v):=by
 cases x with
 |t n=>simp only[erO,ev,uR];show(lk n (fB (lns s.sto) s.env)).bind _=_;rw[xA,show tlk n s.env=some v from h];rfl
 |c x=>
  grind [tev,erO,ev,JT,JGI]
end Go.Am
end
section
namespace Go.Am
@[reducible] def vi(k:IntKind)(n:Int):TV:=.a (.c (.d (.i k) n))
@[reducible] def vb(x:Bool):TV:=.a (.c (.d .b x))
@[reducible] def vs(l:List UInt8):TV:=.a (.c (.d .s l))
@[reducible] def vl(t:Ty)(l:List t.D):TV:=.a (.c (.d (.l t) l))
def uv:TV:=.tup []
def mkv(agg:Bool)(t:Ty)(x:t.D):TV:=if agg=true then .a (.dt t x)else .a (.c (.d t x))
def Ok{R:Type}(m:RM Eff)(d:Option Nat)(s:TSt)(k:TSt->Option R)(r:R):Prop:= ∃e s',m.run (Ju s)=some e/\put d e (Ju s)=Ju s'/\k s'=some r
def asm:(t:Ty)->List TC->Option t.D
 | .pr a c,l=>match asm a (l.take a.sz),asm c (l.drop a.sz)with|some x,some y=>some (x,y)|_,_=>none
 | .ar _ _,_=>none
 | .u,l=>if l.isEmpty=true then some ()else none
 |t,l=>match l with|[.d t' x]=>if h:t'=t then some (h▸x)else none|_=>none
def wA:(t:Ty)->t.D->Option (List TC)
 | .pr a c,x=>match wA a x.1,wA c x.2 with|some l,some q=>some (l++q)|_,_=>none
 | .ar _ _,_=>none
 | .u,_=>some []
 |t,x=>some [.d t x]
theorem GN(L:Nat->Nat): ∀{t:Ty} {l:List TC} {x:t.D},asm t l=some x->l.map (aU L)=(cel t x).map .p
 | .pr a c,l,x,h=>by
  simp only[asm]at h;split at h;rename_i y z g j;injection h with h;subst h;have h1:=GN L g;have h2:=GN L j;grind [cel,List.take_append_drop];cases h
 | .ar _ _,_,_,h=>by cases h
 | .u,l,x,h=>by
  simp only[asm]at h;split at h;rename_i e;rw[List.isEmpty_iff.1 e];rfl;cases h
 | .b,l,x,h=>by
  simp only[asm]at h;split at h;split at h;rename_i e;subst e;injection h with h;subst h;rfl;cases h;cases h
 | .i _,l,x,h=>by
  simp only[asm]at h;split at h;split at h;rename_i e;subst e;injection h with h;subst h;rfl;cases h;cases h
 | .s,l,x,h=>by
  simp only[asm]at h;split at h;split at h;rename_i e;subst e;injection h with h;subst h;rfl;cases h;cases h
 | .l _,l,x,h=>by
  simp only[asm]at h;split at h;split at h;rename_i e;subst e;injection h with h;subst h;rfl;cases h;cases h
 | .f,l,x,h=>by
  simp only[asm]at h;split at h;split at h;rename_i e;subst e;injection h with h;subst h;rfl;cases h;cases h
theorem HM(L:Nat->Nat): ∀{t:Ty} {x:t.D} {l:List TC},wA t x=some l->l.map (aU L)=(cel t x).map .p
 | .pr a c,x,l,h=>by
  simp only[wA]at h;split at h;rename_i y z e g;injection h with h;subst h;have h1:=HM L e;have h2:=HM L g;grind [cel];cases h
 | .ar _ _,_,_,h=>by cases h
 | .u,x,l,h=>by injection h with h;subst h;rfl
 | .b,x,l,h=>by injection h with h;subst h;rfl
 | .i _,x,l,h=>by injection h with h;subst h;rfl
 | .s,x,l,h=>by injection h with h;subst h;rfl
 | .l _,x,l,h=>by injection h with h;subst h;rfl
 | .f,x,l,h=>by injection h with h;subst h;rfl
def zcs:Ty->List TC| .pr a c=>zcs a++zcs c| .ar n t=>(List.replicate n (zcs t)).flatten| .u=>[]|t=>[.d t t.zero]
theorem BP(L:Nat->Nat): ∀t:Ty,(zcs t).map (aU L)=(cel t t.zero).map .p| .pr a c=>by simp only[zcs,zN,BP L a,BP L c,Ty.zero,cel]| .ar n t=>by have ih:=BP L t;simp_all [cel,nW,Ty.zero,zcs]| .u=>rfl| .b=>rfl| .i _=>rfl| .s=>rfl| .l _=>rfl| .f=>rfl
def mkb(t:Ty)(cs:List TC):TB:=match asm t cs with|some x=>.box t x|none=>.mbox t cs
theorem NM(L:Nat->Nat)(t:Ty)(cs:List TC):aT L (mkb t cs)=.box (cs.map (aU L)):=by
 unfold mkb;split;grind [BJ,GN];rfl
theorem NA(t:Ty)(cs:List TC):lnB (mkb t cs)=0:=by unfold mkb;split<;>rfl
def RU:TC->Bool| .ptr _ _| .cp _ _ _| .slr _| .slo _ _| .ep _ _ _| .epo _ _ _ _| .un| .fn _=>true|_=>false
theorem XL(L:Nat->Nat): ∀{cs:List TC},cs.any RU=true->unp (cs.map (aU L))=none
 |[],h=>by simp at h
 |x::r,h=>by
  simp only[List.any_cons,vX]at h;rcases h with h|h;cases x<;>simp[RU]at h<;>rfl
  have:=XL L h;cases x<;>simp[aU,unp,this]
def mka(agg:Bool)(t:Ty)(cs:List TC):Option TV:=
 if agg=true then
  match asm t cs with
  |some x=>some (.a (.dt t x))
  |none=>if cs.any RU=true then some (.a (.m t cs))else none
 else match cs with|[c]=>some (.a (.c c))|_=>none
theorem BL(L:Nat->Nat){agg:Bool}{t:Ty}{cs:List TC}{v:TV}(h:mka agg t cs=some v):jK agg (cs.map (aU L))=some (JY L v):=by
 unfold mka at h;split at h;rename_i e;subst e;split at h;rename_i x j;injection h with h;subst h;rw[GN L j,pu];rfl;split at h;rename_i g;injection h with h;subst h;simp only[jK,XL L g,if_true];rfl;cases h;rename_i e;split at h;injection h with h;subst h;have:agg=false:=by simpa using e
 subst this;rfl;cases h
def tcs:TV->Option (List TC)| .a (.c .un)=>none| .a (.c x)=>some [x]| .a (.dt t x)=>wA t x| .a (.m _ cs)=>some cs| .a (.fn f [] [])=>some [.fn f]|_=>none
theorem GV(L:Nat->Nat){v:TV}{cs:List TC}(h:tcs v=some cs):cellsOf (JY L v)=some (cs.map (aU L)):=by
 cases v with
 |a x=>
  cases x with
  |c x=>cases x<;>cases h<;>rfl
  |dt t x=>simp only[JY,bM,cellsOf];rw[HM L h]
  |m t cs=>injection h with h;subst h;rfl
  |fn f a c=>
   cases a with
   |nil=>cases c with
    |nil=>injection h with h;subst h;rfl
    |cons y c=>cases h
   |cons y a=>cases h
 |tup vs=>cases h
def tdv(t:Ty):TV->Option t.D| .a (.c (.d t' x))=>if h:t'=t then some (h▸x)else none| .a (.dt t' x)=>if h:t'=t then some (h▸x)else none|_=>none
def agv:TV->Bool| .a (.dt _ _)=>true|_=>false
theorem JKV(L:Nat->Nat){t:Ty}{v:TV}{x:t.D}(h:tdv t v=some x):JY L v=if agv v=true then .data (cel t x)else .p (hdP (cel t x)):=by
 unfold tdv at h;split at h;split at h;rename_i e;subst e;injection h with h;subst h;rfl;cases h;split at h;rename_i e;subst e;injection h with h;subst h;rfl;cases h;cases h
def qY:List Sp->Option Nat
 |[]=>some 0
 | .f o::r=>match qY r with|some n=>some (o+n)|none=>none
 | .a _ _::_=>none
theorem BO: ∀{p:List Sp} {n:Nat},qY p=some n->spo p=n
 |[],n,h=>by injection h with h
 | .f o::r,n,h=>by
  simp only[qY]at h;split at h;rename_i m e;injection h with h;simp only[spo,BO e,h];cases h
 | .a _ _::_,_,h=>by cases h
section
variable {R:Type}
def j7(agg:Bool)(t:Ty)(v:TV)(d:Option Nat)(s:TSt)(k:TSt->Option R):Option R:=
 if agg=true\/t.sz=1 then
  match v with
  | .a (.c (.cp e x p))=>prt e x (spf 0 p).1 (spf 0 p).2 t λy=>k (aY d (mkv agg t y) s)
  | .a (.c (.ptr b p))=>match s.sto[b]? with
   |some (.box e x)=>prt e x (spf 0 p).1 (spf 0 p).2 t λy=>k (aY d (mkv agg t y) s)
   |some (.mbox _ cs)=>match qY p with
    |some off=>match sub cs off t.sz with
     |some l=>match mka agg t l with|some v=>k (aY d v s)|none=>none
     |none=>none
    |none=>none
   |_=>none
  | .a (.c (.ep b i p))=>match s.sto[b]? with|some (.arr _ e rows)=>(bA rows i).bind λrow=>prt e row (spf 0 p).1 (spf 0 p).2 t λy=>k (aY d (mkv agg t y) s)|_=>none
  |_=>none
 else none
theorem BN(L:Nat->Nat){agg:Bool}{t:Ty}(h:agg=true\/t.sz=1)(y:t.D):mZ agg (cel t y)=some (JY L (mkv agg t y)):=by
 unfold mkv;split;rename_i e;subst e;rfl;rename_i e;have:agg=false:=by simpa using e
 subst this;have:=h.resolve_left (by simp);rw[FA this];rfl
theorem EK(p:List Sp):(spf 0 p).1+spo (spf 0 p).2=spo p:=by simp[KW]
theorem JHi{agg:Bool}{t:Ty}{v:TV}{d:Option Nat}{s:TSt}{k:TSt->Option R}{r:R}(h:j7 agg t v d s k=some r):Ok (fN agg t.sz (JY (lns s.sto) v)) d s k r:=by
 unfold j7 at h;split at h;rename_i j;split at h;rename_i n x p;obtain⟨y,h1,h2⟩:=uK h;rw[EK]at h1;refine⟨_,_,?_,HG d (mkv agg t y),h2⟩;simp only[jA,lD,kX,fX,fN,h1,BN (lns s.sto) j,val];rfl;rename_i b p;split at h;rename_i n x e;obtain⟨y,h1,h2⟩:=uK h;rw[EK]at h1;refine⟨_,_,?_,HG d (mkv agg t y),h2⟩;have hc:jK agg ((cel t y).map .p)=mZ agg (cel t y):=by
  unfold jK mZ;split;rw[HQ];cases hcel:cel t y with
  |nil=>rfl
  |cons a l=>cases l<;>rfl
 simp only[jA,lD,kX,fX,fN,dQ,dX,e,cL,JL,aT,CI,h1,hc,BN (lns s.sto) j,val];rfl;rename_i cs e;split at h;rename_i off o;split at h;rename_i l q;split at h;rename_i v z;refine⟨_,_,?_,HG d v,h⟩;simp only[jA,lD,kX,fX,fN,dQ,dX,e,cL,JL,aT,CI,BO o,q,BL (lns s.sto) z,val];rfl;cases h;cases h;cases h;cases h;rename_i b i p;split at h;rename_i w n rows e;obtain⟨row,g,h⟩:=bG.1 h;have g:rows[i]?=some row:=g;obtain⟨y,h1,h2⟩:=uK h;rw[EK]at h1;refine⟨_,_,?_,HG d (mkv agg t y),h2⟩;simp only[jA,lD,kX,fX,fN,dQ,dX,e,cL,JL,aT,mY e,eK,if_true,fF,g,h1,BN (lns s.sto) j,val];rfl;cases h;cases h;cases h
end
end Go.Am
end
section
namespace Go.Am
section
variable {R:Type}
def fzC:(t:Ty)->List TC->TSt->(t.D->TSt->Option R)->Option R
 | .pr a c,l,s,k=>fzC a (l.take a.sz) s λx s=>fzC c (l.drop a.sz) s λy s=>k (x,y) s
 | .ar _ _,_,_,_=>none
 | .u,l,s,k=>if l.isEmpty=true then k () s else none
 | .l e,l,s,k=>match l with
  |[.d t' x]=>if h:t'=.l e then k (h▸x) s else none
  |[.slr b]=>match s.sto[b]? with|some (.arr _ e' rows)=>if h:e'=e then k (h▸rows) (wS b (.arr false e' rows) s)else none|_=>none
  |_=>none
 |t,l,s,k=>match l with|[.d t' x]=>if h:t'=t then k (h▸x) s else none|_=>none
def tfz(t:Ty)(v:TV)(s:TSt)(k:t.D->TSt->Option R):Option R:=
 match v with
 | .a (.dt t' x)=>if h:t'=t then k (h▸x) s else none
 | .a (.c x)=>fzC t [x] s k
 | .a (.m _ cs)=>fzC t cs s k
 |_=>none
def Fzd(s s':TSt)(ws:List (Nat×Blk)):Prop:=s'.env=s.env/\lns s'.sto=lns s.sto/\Ju s'=⟨(Ju s).env,upd ws (Ju s).sto⟩/\(∀(b:Nat) (t:Ty) (rows:List t.D) (w:Bool),s'.sto[b]?=some (TB.arr w t rows)-> ∃w',s.sto[b]?=some (TB.arr w' t rows))/\(∀(b:Nat) (t:Ty) (rows:List t.D),s.sto[b]?=some (TB.arr false t rows)->s'.sto[b]?=some (TB.arr false t rows))/\ ∀x∈ws,∃(t:Ty) (rows:List t.D),s'.sto[x.1]?=some (TB.arr false t rows)
theorem Fzd.refl(s:TSt):Fzd s s []:=⟨rfl,rfl,rfl,λb t rows w h=>⟨w,h⟩,λb t rows h=>h,λx h=>by cases h⟩
theorem Fzd.trans{s1 e g:TSt}{a c:List (Nat×Blk)}(h:Fzd s1 e a)(j:Fzd e g c):Fzd s1 g (a++c):=by
 obtain⟨h1,h2,B,z,o,y⟩:=h;obtain⟨n,q,A,v,k,r⟩:=j;refine⟨n.trans h1,q.trans h2,?_,λb t rows w h=>?_,λb t rows h=>k b t rows (o b t rows h),λx C=>?_⟩
 all_goals grind [eF]
theorem XM{s:TSt}{b:Nat}{w:Bool}{t:Ty}{rows:List t.D}(hb:s.sto[b]?=some (.arr w t rows)):Fzd s (wS b (.arr false t rows) s) [(b,.arr false t.sz (rows.map (cel t)))]:=by
 have e:lnB (.arr false t rows)=lns s.sto b:=by rw[mY hb];rfl
 have k:(wS b (.arr false t rows) s).sto[b]?=some (.arr false t rows):=by grind [wS]
 have j: ∀c,c≠b->(wS b (.arr false t rows) s).sto[c]?=s.sto[c]?:=λc hc=>by grind [wS]
 refine⟨rfl,BR e,wR e,λc t' g w' h=>?_,λc t' g h=>?_,λx n=>?_⟩
 all_goals grind
theorem JIv(x y:List AV)(st:St):(fz.fzL (x++y)).run st=((fz.fzL x).run st).bind λa=>((fz.fzL y).run st).map λc=>(a.1++c.1,a.2++c.2):=by
 induction x with
 |nil=>simp_all
 |cons v x ih=>
  simp only[lE,fz.fzL,run_bind,ih];cases(fz.fz1 v).run st with
  |none=>rfl
  |some a=>
   simp only[JL];cases(fz.fzL x).run st with
   |none=>rfl
   |some c=>simp only[JL];cases(fz.fzL y).run st<;>simp_all
theorem GJ{L:Nat->Nat}{t t':Ty}{x:t'.D}(h:t'=t)(h1:t.sz=1)(st:St):(fz.fzL ([TC.d t' x].map (aU L))).run st=some (cel t (h▸x),[]):=by
 grind [FA,aU,fz.fzL,fz.fz1,run_bind,JT]
theorem GX: ∀{t:Ty} {l:List TC} {s0 s:TSt} {w0:List (Nat×Blk)} {k:t.D->TSt->Option R} {r:R},Fzd s0 s w0->fzC t l s k=some r->
  ∃y s' ws,(fz.fzL (l.map (aU (lns s0.sto)))).run (Ju s0)=some (cel t y,ws)/\Fzd s0 s' (w0++ws)/\k y s'=some r
 | .pr a c,l,s0,s,w0,k,r,j,h=>by simp only[fzC]at h;obtain⟨x,s1,z,B,q,h⟩:=GX j h;obtain⟨y,v,C,A,E,h⟩:=GX q h;refine⟨(x,y),v,z++C,?_,by simp_all,h⟩;have:=JIv ((l.take a.sz).map (aU (lns s0.sto))) ((l.drop a.sz).map (aU (lns s0.sto))) (Ju s0);rw[<-zN,lB,B,A]at this;exact this
 | .ar _ _,_,_,_,_,_,_,_,h=>by cases h
 | .u,l,s0,s,w0,k,r,j,h=>by
  simp only[fzC]at h;split at h;rename_i g;refine⟨(),s,[],?_,by simp_all,h⟩;rw[List.isEmpty_iff.1 g];rfl;cases h
 | .l e,l,s0,s,w0,k,r,j,h=>by
  simp only[fzC]at h;split at h;split at h;rename_i g;exact⟨_,s,[],GJ g rfl _,by simp_all,h⟩;cases h;rename_i b;split at h;rename_i w e' rows o;split at h;rename_i g;subst g;obtain⟨w',n⟩:=j.2.2.2.1 b _ rows w o;refine⟨rows,_,[(b,.arr false e'.sz (rows.map (cel e')))],?_,j.trans (XM o),h⟩;simp only[bP,List.map_nil,aU,fz.fzL,fz.fz1,run_bind,dQ,dX,n,cL,JL,aT,mY n,eK,mJ,if_true,zQ,JT];rfl;cases h;cases h;cases h
 | .b,l,s0,s,w0,k,r,j,h=>by
  simp only[fzC]at h;split at h;split at h;rename_i g;exact⟨_,s,[],GJ g rfl _,by simp_all,h⟩;cases h;cases h
 | .i _,l,s0,s,w0,k,r,j,h=>by
  simp only[fzC]at h;split at h;split at h;rename_i g;exact⟨_,s,[],GJ g rfl _,by simp_all,h⟩;cases h;cases h
 | .s,l,s0,s,w0,k,r,j,h=>by
  simp only[fzC]at h;split at h;split at h;rename_i g;exact⟨_,s,[],GJ g rfl _,by simp_all,h⟩;cases h;cases h
 | .f,l,s0,s,w0,k,r,j,h=>by
  simp only[fzC]at h;split at h;split at h;rename_i g;exact⟨_,s,[],GJ g rfl _,by simp_all,h⟩;cases h;cases h
theorem Yx(x:AV)(hx:(∀cs,x≠.data cs)/\ ∀cs,x≠.agg cs)(st:St){y:List PV}{ws:List (Nat×Blk)}(h:(fz.fzL [x]).run st=some (y,ws)):(fz x).run st=some (y,ws):=by simp only[fz.fzL,run_bind,JT]at h;cases x<;>simp_all [bG]
theorem Ao{t:Ty}{v:TV}{s0 s:TSt}{w0:List (Nat×Blk)}{k:t.D->TSt->Option R}{r:R}(g:Fzd s0 s w0)(h:tfz t v s k=some r):
  ∃y s' ws,(fz (JY (lns s0.sto) v)).run (Ju s0)=some (cel t y,ws)/\Fzd s0 s' (w0++ws)/\k y s'=some r:=by
 unfold tfz at h;split at h;split at h;rename_i j;subst j;exact⟨_,s,[],rfl,by simp_all,h⟩;cases h;rename_i x;obtain⟨y,s',ws,h1,h2,e⟩:=GX g h;refine⟨y,s',ws,Yx _ ⟨λcs=>?_,λcs=>?_⟩ _ h1,h2,e⟩<;>cases x<;>simp[aU,JY,bM]
 obtain⟨y,s',ws,h1,h2,e⟩:=GX g h;exact⟨y,s',ws,h1,h2,e⟩;cases h
end
end Go.Am
end
section
namespace Go.Am
section
variable {R:Type}
theorem cl(L:Nat->Nat){t:Ty}{v:TV}{x:t.D}(h:tdv t v=some x)(ha:agv v=true\/t.sz=1):cellsOf (JY L v)=some ((cel t x).map .p):=by
 rw[JKV L h];split;rfl;rename_i e;rw[FA (ha.resolve_left e)];rfl
def WG(t:Ty)(x u:TV)(d:Option Nat)(s:TSt)(k:TSt->Option R):Option R:=
 match x with
 | .a (.c (.ptr b p))=>match s.sto[b]? with
  |some (.box e y)=>match tdv t u with
   |some z=>if agv u=true\/t.sz=1 then pst e y (spf 0 p).1 (spf 0 p).2 t z λh=>k (aY d uv (wS b (.box e h) s))else none
   |none=>match qY p,wA e y,tcs u with
    |some off,some cs,some l=>if l.length=t.sz then
     match spl cs off l with
     |some cs'=>k (aY d uv (wS b (mkb e cs') s))
     |none=>none
     else none
    |some off,none,some l=>if off=0/\l.length=e.sz/\l.length=t.sz then k (aY d uv (wS b (mkb e l) s))else none
    |_,_,_=>none
  |some (.mbox e cs)=>match qY p,tcs u with
   |some off,some l=>if l.length=t.sz then
    match spl cs off l with
    |some cs'=>k (aY d uv (wS b (mkb e cs') s))
    |none=>none
    else none
   |_,_=>none
  |_=>none
 | .a (.c (.ep b i p))=>tfz t u s λz s1=>match s1.sto[b]? with|some (.arr true e rows)=>(bA rows i).bind λrow=>pst e row (spf 0 p).1 (spf 0 p).2 t z λg=>k (aY d uv (wS b (.arr true e (aS rows i g)) s1))|_=>none
 |_=>none
theorem JKX(L:Nat->Nat):JY L uv=fP:=rfl
theorem NK{s:TSt}{b:Nat}{t:Ty}{x:t.D}(h:s.sto[b]?=some (.box t x)):lns s.sto b=0:=by unfold lns;rw[h];rfl
theorem l7{s:TSt}{b:Nat}{t:Ty}{cs:List TC}(h:s.sto[b]?=some (.mbox t cs)):lns s.sto b=0:=by unfold lns;rw[h];rfl
theorem xL{s:TSt}{b:Nat}(h:s.sto[b]?=some .dead):lns s.sto b=0:=by unfold lns;rw[h];rfl
theorem FN{m:RM Eff}{d:Option Nat}{s:TSt}{k:TSt->Option R}{r:R}{b:Nat}{x:TB}{v:TV}(hl:lnB x=lns s.sto b)(hm:m.run (Ju s)=some ⟨JY (lns s.sto) v,[(b,aT (lns s.sto) x)]⟩)
  (h:k (aY d v (wS b x s))=some r):Ok m d s k r:=by
 refine⟨_,_,hm,?_,h⟩;have e:=BR hl;rw[<-e];refine pX ?_ d v;simp_all [wR]
theorem ix{m:RM Eff}{d:Option Nat}{s:TSt}{k:TSt->Option R}{r:R}{b:Nat}{x:TB}{v:TV}(hm:m.run (Ju s)=some ⟨JY (lns (wN b x s).sto) v,[(b,aT (lns (wN b x s).sto) x)]⟩)
  (h:k (aY d v (wN b x s))=some r):Ok m d s k r:=
 ⟨_,_,hm,pX (zj b x s) d v,h⟩
theorem eU{m:RM Eff}{d:Option Nat}{s:TSt}{k:TSt->Option R}{r:R}{v:TV}(hm:m.run (Ju s)=some ⟨JY (lns s.sto) v,[]⟩)(h:k (aY d v s)=some r):Ok m d s k r:=
 ⟨_,_,hm,HG d v,h⟩
theorem VX{m:RM Eff}{d:Option Nat}{s s':TSt}{ws:List (Nat×Blk)}{k:TSt->Option R}{r:R}{v:TV}(f:Fzd s s' ws)(hm:m.run (Ju s)=some ⟨JY (lns s.sto) v,ws⟩)(h:k (aY d v s')=some r):Ok m d s k r:=by refine⟨_,_,hm,?_,h⟩;rw[<-f.2.1];exact pX f.2.2.1 d v
theorem JE0{t:Ty}{x u:TV}{d:Option Nat}{s:TSt}{k:TSt->Option R}{r:R}(h:WG t x u d s k=some r):Ok (gT t.sz (JY (lns s.sto) x) (JY (lns s.sto) u)) d s k r:=by
 unfold WG at h;split at h;rename_i b p;split at h;rename_i g y e;split at h;rename_i z G;split at h;rename_i J;obtain⟨E,h1,h2⟩:=xC h;rw[EK]at h1;refine FN (x:=.box g E) (v:=uv) (NK e).symm ?_ h2;simp only[jA,lD,kX,fX,gT,dQ,dX,e,cL,JL,aT,cl (lns s.sto) G J,eK,dK,if_true,CH,h1,JT];rfl;cases h;split at h;rename_i off cs l q hc n;split at h;rename_i C;split at h;rename_i cs' B;refine FN (x:=mkb g cs') (v:=uv) ((NA _ _).trans (NK e).symm) ?_ h;rw[NM];simp only[jA,lD,kX,fX,gT,dQ,dX,e,cL,JL,aT,GV (lns s.sto) n,eK,C,if_true,BO q,<-HM (lns s.sto) hc,CH,B,JT];rfl;cases h;cases h;rename_i off l q _ n;split at h;rename_i F;obtain⟨rfl,h1,h2⟩:=F;refine FN (x:=mkb g l) (v:=uv) ((NA _ _).trans (NK e).symm) ?_ h;rw[NM];have K:spl ((cel g y).map AV.p) 0 (l.map (aU (lns s.sto)))=some (l.map (aU (lns s.sto))):=B4 (by grind [dK]);simp only[jA,lD,kX,fX,gT,dQ,dX,e,cL,JL,aT,GV (lns s.sto) n,eK,h2,if_true,BO q,K,JT];rfl;cases h;cases h;rename_i g cs e;split at h;rename_i off l q n;split at h;rename_i C;split at h;rename_i cs' B;refine FN (x:=mkb g cs') (v:=uv) ((NA _ _).trans (l7 e).symm) ?_ h;rw[NM];simp only[jA,lD,kX,fX,gT,dQ,dX,e,cL,JL,aT,GV (lns s.sto) n,eK,C,if_true,BO q,CH,B,JT];rfl;cases h;cases h;cases h;cases h;rename_i b i p;obtain⟨z,s1,ws,h1,f,h⟩:=Ao (Fzd.refl s) h;rw[iX]at f;split at h;rename_i g rows e;obtain⟨row,A,h⟩:=bG.1 h;have A:rows[i]?=some row:=A;obtain⟨j,D,L⟩:=xC h;rw[EK]at D;obtain⟨w',o⟩:=f.2.2.2.1 b _ rows true e;have H:w'=true:=by
  cases w' with
  |true=>rfl
  |false=>have:=f.2.2.2.2.1 b _ rows o;simp_all
 subst H;have w:(ws.all λy=>y.1 !=b)=true:=(by rw[EC];intro y I;obtain⟨t',rows',M⟩:=f.2.2.2.2.2 y I;grind);have n:lnB (.arr true g (aS rows i j))=lns s1.sto b:=by grind [mY,lnB,aS]
 refine⟨⟨fP,ws++[(b,.arr true g.sz ((aS rows i j).map (cel g)))]⟩,_,?_,?_,L⟩;simp only[jA,lD,kX,fX,gT,dQ,dX,o,cL,JL,aT,mY o,eK,if_true,fF,A,run_bind,h1,dK,w,and_self,D,JT,List.map_set,aS];rw[<-JKX (lns (wS b (.arr true g (aS rows i j)) s1).sto)];refine pX ?_ d uv;rw[wR n,f.2.2.1,eF];rfl;cases h;cases h
def tpv:List (Nat×Ty×TO)->TSt->Option (List (Nat×(w:Ty)×w.D))
 |[],_=>some []
 |(off,w,o)::r,s=>match tev o s with
  |some v=>match tdv w v with
   |some z=>if agv v=true\/w.sz=1 then
    match tpv r s with
    |some l=>some ((off,⟨w,z⟩)::l)
    |none=>none
    else none
   |none=>none
  |none=>none
def LC(t:Ty):t.D->List (Nat×(w:Ty)×w.D)->(t.D->Option R)->Option R|x,[],k=>k x|x,(off,⟨w,z⟩)::r,k=>pst t x off [] w z λe=>LC t e r k
def tpc:List (Nat×Ty×TO)->TSt->Option (List (Nat×Nat×List TC))
 |[],_=>some []
 |(off,w,o)::r,s=>match tev o s with
  |some v=>match tcs v with
   |some l=>match tpc r s with|some q=>some ((off,w.sz,l)::q)|none=>none
   |none=>none
  |none=>none
def FO:List (Nat×Nat×List TC)->List TC->Option (List TC)
 |[],cs=>some cs
 |(off,n,c)::r,cs=>if c.length=n then
  match spl cs off c with
  |some cs'=>FO r cs'
  |none=>none
  else none
def erP(parts:List (Nat×Ty×TO)):List (Nat×Nat×Opd):=parts.map λx=>(x.1,x.2.1.sz,erO x.2.2)
theorem WF{s:TSt}: ∀{parts:List (Nat×Ty×TO)} {l:List (Nat×Nat×List TC)},tpc parts s=some l->
  (jF (erP parts)).run (Ju s)=some (l.map λx=>(x.1,x.2.1,x.2.2.map (aU (lns s.sto))))
 |[],l,h=>by injection h with h;subst h;rfl
 |(off,w,o)::r,l,h=>by
  simp only[tpc]at h;split at h;rename_i v g;split at h;rename_i c hc;split at h;rename_i q e;injection h with h;subst h;have ih:=WF e;simp only[erP,bP,jF,run_bind,bN g,JL,GV (lns s.sto) hc];simp_all [erP];cases h;cases h;cases h
theorem zy{s:TSt}: ∀{parts:List (Nat×Ty×TO)} {l:List (Nat×(w:Ty)×w.D)},tpv parts s=some l->
  (jF (erP parts)).run (Ju s)=some (l.map λx=>(x.1,x.2.1.sz,(cel x.2.1 x.2.2).map .p))
 |[],l,h=>by injection h with h;subst h;rfl
 |(off,w,o)::r,l,h=>by
  simp only[tpv]at h;split at h;rename_i v g;split at h;rename_i z k;split at h;rename_i j;split at h;rename_i q e;injection h with h;subst h;have ih:=zy e;simp only[erP,bP,jF,run_bind,bN g,JL,cl (lns s.sto) k j];simp_all [erP];cases h;cases h;cases h;cases h
theorem mi{t:Ty}: ∀{l:List (Nat×(w:Ty)×w.D)} {x:t.D} {k:t.D->Option R} {r:R},LC t x l k=some r->
  ∃y,oK (l.map λx=>(x.1,x.2.1.sz,(cel x.2.1 x.2.2).map .p)) ((cel t x).map .p)=some ((cel t y).map .p)/\k y=some r
 |[],x,k,r,h=>⟨x,rfl,h⟩
 |(off,⟨w,z⟩)::q,x,k,r,h=>by
  simp only[LC]at h;obtain⟨e,h1,h2⟩:=xC h;obtain⟨y,j,g⟩:=mi h2;grind [oK,dK,CH,spo]
theorem ZB(L:Nat->Nat): ∀{l:List (Nat×Nat×List TC)} {cs cs':List TC},FO l cs=some cs'->
  oK (l.map λx=>(x.1,x.2.1,x.2.2.map (aU L))) (cs.map (aU L))=some (cs'.map (aU L))
 |[],cs,cs',h=>by injection h with h;subst h;rfl
 |(off,n,c)::q,cs,cs',h=>by
  simp only[FO]at h;split at h;rename_i e;split at h;rename_i j g;simp only[bP,oK,eK,e,if_true,CH,g,cL];exact ZB L h;cases h;cases h
def WI(t:Ty)(parts:List (Nat×Ty×TO))(d:Option Nat)(s:TSt)(k:TSt->Option R):Option R:=
 match tpv parts s with
 |some l=>LC t t.zero l λy=>k (aY d (.a (.dt t y)) s)
 |none=>match tpc parts s with
  |some l=>match FO l (zcs t)with
   |some cs'=>match mka true t cs' with|some v=>k (aY d v s)|none=>none
   |none=>none
  |none=>none
theorem JEF(F:Orc)(new:Nat){t:Ty}{parts:List (Nat×Ty×TO)}{d:Option Nat}{s:TSt}{k:TSt->Option R}{r:R}(h:WI t parts d s k=some r):Ok (opR F (.build (cel t t.zero) (erP parts)) new) d s k r:=by
 unfold WI at h;split at h;rename_i l e;obtain⟨y,h1,h2⟩:=mi h;refine eU (v:=.a (.dt t y)) ?_ h2;simp only[opR,run_bind,zy e,JL,h1,pu,val,JT];rfl;split at h;rename_i l e;split at h;rename_i cs' g;split at h;rename_i v j;refine eU (v:=v) ?_ h;simp only[opR,run_bind,WF e,JL,<-BP (lns s.sto) t,ZB (lns s.sto) g,BL (lns s.sto) j,val,JT];cases h;cases h;cases h
def WJ(agg:Bool)(off:Nat)(t:Ty)(v:TV)(d:Option Nat)(s:TSt)(k:TSt->Option R):Option R:=
 if agg=true\/t.sz=1 then
  match v with
  | .a (.dt e x)=>prt e x off [] t λy=>k (aY d (mkv agg t y) s)
  | .a (.m _ cs)=>match sub cs off t.sz with
   |some l=>match mka agg t l with|some v=>k (aY d v s)|none=>none
   |none=>none
  |_=>none
 else none
theorem JEi{agg:Bool}{off:Nat}{t:Ty}{v:TV}{d:Option Nat}{s:TSt}{k:TSt->Option R}{r:R}(h:WJ agg off t v d s k=some r):Ok (val (pV agg off t.sz (JY (lns s.sto) v))) d s k r:=by
 unfold WJ at h;split at h;rename_i n;split at h;rename_i e x;obtain⟨y,h1,h2⟩:=uK h;refine eU (v:=mkv agg t y) ?_ h2;grind [spo,gz,pV,BN,val,JT];rename_i cs;split at h;rename_i l g;split at h;rename_i v j;refine eU (v:=v) ?_ h;grind [e_m,pV,CI,BL,val,JT];cases h;cases h;cases h;cases h
end
end Go.Am
end
section
namespace Go.Am
section
variable {R:Type}
theorem XX{α:Type} [BEq α] [LawfulBEq α] [DecidableEq α](x y:α):(x==y)=decide (x=y):=by
 grind
def Vl(m:Option AV)(s:TSt)(kk:TV->Option R)(r:R):Prop:= ∃v,m=some (JY (lns s.sto) v)/\kk v=some r
theorem Vl.ok{m:Option AV}{d:Option Nat}{s:TSt}{k:TSt->Option R}{r:R}(h:Vl m s (λv=>k (aY d v s)) r):Ok (val m) d s k r:=by obtain⟨v,h1,h2⟩:=h;refine eU (v:=v) ?_ h2;rw[h1];rfl
def gq(op:BinOp)(k:IntKind)(a c:Int)(kk:TV->Option R):Option R:=
 match op with
 | .add=>kk (vi k (J1 k a c))
 | .sub=>kk (vi k (Js k a c))
 | .mul=>kk (vi k (cI k a c))
 | .quo=>(yg k a c).bind λq=>kk (vi k q)
 | .rem=>(tH a c).bind λq=>kk (vi k q)
 | .and=>kk (vi k (pI k a c))
 | .or=>kk (vi k (orI k a c))
 | .xor=>kk (vi k (eZ k a c))
 | .eql=>kk (vb (aI a c))
 | .neq=>kk (vb (aL a c))
 | .lss=>kk (vb (aJ a c))
 | .leq=>kk (vb (aR a c))
 | .gtr=>kk (vb (aM a c))
 | .geq=>kk (vb (aO a c))
 |_=>none
def ia(op:BinOp)(a c:List UInt8)(kk:TV->Option R):Option R:=
 match op with
 | .add=>(eC a c).bind λq=>kk (vs q)
 | .eql=>kk (vb (eqS a c))
 | .neq=>kk (vb (neS a c))
 | .lss=>kk (vb (ltS a c))
 | .leq=>kk (vb (leS a c))
 | .gtr=>kk (vb (gtS a c))
 | .geq=>kk (vb (geS a c))
 |_=>none
inductive TBT where|plain|bool|flat (t:Ty)|nilp|nilf
def erT:TBT->BT| .plain=>.plain| .bool=>.bool| .flat t=>.flat (t.ks.getD [])| .nilp=>.nilp| .nilf=>.nilf
def mH(op:BinOp)(x:Bool)(kk:TV->Option R):Option R:=
 match op with
 | .eql=>kk (vb x)
 | .neq=>kk (vb (Jk x))
 |_=>none
def g6(op:BinOp)(bt:TBT)(x y:TV)(kk:TV->Option R):Option R:=
 match bt with
 | .plain=>match x,y with
  | .a (.c (.d (.i k) a)),.a (.c (.d (.i j) c))=>match op with| .shl=>(vP k a c).bind λq=>kk (vi k q)| .shr=>(jZ k a c).bind λq=>kk (vi k q)|_=>if k=j then gq op k a c kk else none
  | .a (.c (.d .s a)),.a (.c (.d .s c))=>ia op a c kk
  |_,_=>none
 | .bool=>match x,y with| .a (.c (.d .b a)),.a (.c (.d .b c))=>mH op (eqB a c) kk|_,_=>none
 | .flat t=>match x,y with| .a (.dt g a),.a (.dt e c)=>if h:g=t/\e=t/\t.ks.isSome=true then mH op (eqT t (h.1▸a) (h.2.1▸c)) kk else none|_,_=>none
 | .nilp=>match x with| .a (.c .np)=>mH op true kk| .a (.c (.ptr _ _))=>mH op false kk| .a (.c (.cp _ _ _))=>mH op false kk| .a (.c (.ep _ _ _))=>mH op false kk|_=>none
 | .nilf=>match x with| .a (.c .nf)=>mH op true kk| .a (.fn _ _ _)=>mH op false kk| .a (.c (.fn _))=>mH op false kk| .a (.c (.d .f _))=>mH op true kk|_=>none
theorem MU{op:BinOp}{x:Bool}{s:TSt}{kk:TV->Option R}{r:R}(h:mH op x kk=some r):Vl (iE op (some x)) s kk r:=by
 unfold mH at h;split at h;exact⟨_,rfl,h⟩;exact⟨_,rfl,h⟩;cases h
theorem JHN{op:BinOp}{k:IntKind}{a c:Int}{s:TSt}{kk:TV->Option R}{r:R}(h:gq op k a c kk=some r):Vl ((vY op k a c).map .p) s kk r:=by
 unfold gq at h;split at h<;>first
  |exact⟨_,rfl,h⟩
  |(obtain⟨q,h1,h⟩:=bG.1 h
    refine⟨_,?_,h⟩
    first|unfold yg at h1|unfold tH at h1
    split at h1;cases h1;rename_i e;injection h1 with h1;simp only[vY,if_neg e,h1,cL,e_i])
  |(refine⟨_,?_,h⟩;simp only[vY,XX,cL,e_b,bne,aI,aL,aJ,aR,aM,aO];done)
  |cases h
theorem JJ5{op:BinOp}{a c:List UInt8}{s:TSt}{kk:TV->Option R}{r:R}(h:ia op a c kk=some r):Vl ((vS op a c).map .p) s kk r:=by
 unfold ia at h;split at h<;>first
  |(obtain⟨q,h1,h⟩:=bG.1 h
    refine⟨_,?_,h⟩;unfold eC at h1;split at h1;rename_i e;injection h1 with h1;simp only[vS,if_pos e,h1,cL,e_s];cases h1)
  |(refine⟨_,?_,h⟩;simp only[vS,XX,cL,e_b,eqS,neS,ltS,leS,gtS,geS];done)
  |cases h
theorem JIA{op:BinOp}{bt:TBT}{x y:TV}{s:TSt}{kk:TV->Option R}{r:R}(h:g6 op bt x y kk=some r):Vl (mF op (erT bt) (JY (lns s.sto) x) (JY (lns s.sto) y)) s kk r:=by
 unfold g6 at h;split at h;split at h;rename_i k a g c;simp only[e_i,erT,mF];split at h;obtain⟨q,h1,h⟩:=bG.1 h;unfold vP at h1;split at h1;cases h1;rename_i e;injection h1 with h1;exact⟨_,by simp_all [e_i],h⟩;obtain⟨q,h1,h⟩:=bG.1 h;unfold jZ at h1;split at h1;cases h1;rename_i e;injection h1 with h1;exact⟨_,by simp_all [e_i],h⟩;grind [JHN];exact JJ5 h;cases h;split at h;rename_i a c;simp only[e_b,erT,mF,XX];exact MU h;cases h;grind [Option.isSome_iff_exists,gz,erT,mF,NJ,MU];split at h<;>first|exact MU h|cases h
 split at h<;>first|exact MU h|cases h
def tUn(op:UnOp)(x:TV)(kk:TV->Option R):Option R:=
 match op,x with
 | .neg,.a (.c (.d (.i k) n))=>kk (vi k (Ys k n))
 | .xor,.a (.c (.d (.i k) n))=>kk (vi k (SE k n))
 | .not,.a (.c (.d .b x))=>kk (vb (Jk x))
 |_,_=>none
theorem JKG{op:UnOp}{x:TV}{s:TSt}{kk:TV->Option R}{r:R}(h:tUn op x kk=some r):Vl (unP op (JY (lns s.sto) x)) s kk r:=by unfold tUn at h;split at h<;>first|exact⟨_,rfl,h⟩|cases h
def tMm(mx:Bool)(x y:TV)(kk:TV->Option R):Option R:=
 match x,y with
 | .a (.c (.d (.i k) a)),.a (.c (.d (.i _) c))=>kk (vi k (if mx=true then dP a c else lG a c))
 |_,_=>none
theorem JL5{mx:Bool}{x y:TV}{s:TSt}{kk:TV->Option R}{r:R}(h:tMm mx x y kk=some r):Vl (mmP mx (JY (lns s.sto) x) (JY (lns s.sto) y)) s kk r:=by
 unfold tMm at h;split at h;exact⟨_,by cases mx<;>rfl,h⟩;cases h
def tls(t:Ty)(v:TV)(s:TSt):Option (List t.D):=
 match v with
 | .a (.c (.d (.l t') l))=>if h:t'=t then some (h▸l)else none
 | .a (.c (.d .s l))=>if h:t=.i .u8 then some (h▸(aP l:List (Ty.i .u8).D))else none
 | .a (.c (.slr b))=>match s.sto[b]? with|some (.arr _ t' rows)=>if h:t'=t then some (h▸rows)else none|_=>none
 |_=>none
theorem MN{t:Ty}{v:TV}{s:TSt}{l:List t.D}(h:tls t v s=some l):(eS t.sz (JY (lns s.sto) v)).run (Ju s)=some (l.map (cel t)):=by
 unfold tls at h;split at h;grind [e_l,eS,JT];split at h;rename_i e;subst e;injection h with h;subst h;simp only[e_s,eS,Ty.sz,if_true,JT,YT];rfl;cases h;rename_i b;split at h;rename_i w t' rows g;split at h;rename_i e;subst e;injection h with h;subst h;simp only[fX,eS,dQ,dX,g,cL,JL,aT,mY g,eK,mJ,and_self,if_true,JT,zQ];cases h;cases h;cases h
def jx(k:CK)(x:TV)(d:Option Nat)(new:Nat)(s:TSt)(kk:TSt->Option R):Option R:=
 match k with
 | .int k=>match x with| .a (.c (.d (.i _) n))=>kk (aY d (vi k (aX k n)) s)|_=>none
 | .same=>match x with| .a (.c (.d .s l))=>kk (aY d (vs l) s)|_=>none
 | .toStr=>match tls (.i .u8) x s with|some l=>kk (aY d (vs (toStr l)) s)|none=>none
 | .toBytes own=>match x with| .a (.c (.d .s l))=>if own=true then kk (aY d (.a (.c (.slr new))) (wN new (.arr true (.i .u8) (aP l)) s))else kk (aY d (vl (.i .u8) (aP l)) s)|_=>none
theorem JGf(F:Orc){k:CK}{x:TO}{v:TV}{d:Option Nat}{new:Nat}{s:TSt}{kk:TSt->Option R}{r:R}(hx:tev x s=some v)(hn:k=.toBytes true->new<s.sto.length)(h:jx k v d new s kk=some r):Ok (opR F (.conv k (erO x)) new) d s kk r:=by
 unfold jx at h;split at h;split at h;refine eU (v:=vi _ _) ?_ h;simp only[opR,run_bind,bN hx,JL,e_i,JT,aX];cases h;split at h;refine eU (v:=vs _) ?_ h;grind [opR,run_bind,bN,e_s,JT];cases h;split at h;rename_i l j;refine eU (v:=vs _) ?_ h;have:=MN j;have e:l.map (cel (.i .u8))=l.map (r_i .u8):=rfl;rw[e]at this;simp only[opR,run_bind,bN hx,JL,this,dl,e_s,JT,Ty.sz];rw[show(eS 1 (JY (lns s.sto) v)).run (Ju s)=some (l.map (r_i .u8))from this];simp[dl];cases h;rename_i own;split at h;rename_i l;split at h;rename_i g;subst g;refine ix (x:=.arr true (.i .u8) (aP l)) (v:=.a (.c (.slr new))) ?_ h;simp only[opR,run_bind,bN hx,JL,e_s,if_true,JT,fX,aT,YT];have e:lns (wN new (TB.arr true (Ty.i IntKind.u8) (aP l)) s).sto new=l.length:=(by grind [wN,VZ,lnB,aP]);rw[e];rfl;rename_i g;have:own=false:=by simpa using g
 subst this;refine eU (v:=vl _ _) ?_ h;simp only[opR,run_bind,bN hx,JL,e_s,dJ,if_false,JT,e_l,YT];rfl;cases h
end
end Go.Am
end
section
namespace Go.Am
section
variable {R:Type}
theorem C8(p q:List Sp):spo (p++q)=spo p+spo q:=by
 induction p with
 |nil=>simp[spo]
 |cons x p ih=>cases x<;>simp only[lE,spo,ih]<;>omega
def WU(off:Nat)(x:TV)(kk:TV->Option R):Option R:=
 match x with
 | .a (.c (.ptr b p))=>kk (.a (.c (.ptr b (p++[.f off]))))
 | .a (.c (.cp t x p))=>kk (.a (.c (.cp t x (p++[.f off]))))
 | .a (.c (.ep b i p))=>kk (.a (.c (.ep b i (p++[.f off]))))
 |_=>none
theorem JEv{off:Nat}{x:TV}{s:TSt}{kk:TV->Option R}{r:R}(h:WU off x kk=some r):Vl (GR off (JY (lns s.sto) x)) s kk r:=by
 unfold WU at h;split at h<;>first
  |(refine⟨_,?_,h⟩;simp only[jA,lD,kX,GR,C8,spo,rA];done)
  |cases h
def WR(len esz:Nat)(x i:TV)(kk:TV->Option R):Option R:=
 match i with
 | .a (.c (.d (.i _) n))=>(aQ len n).bind λ_=>match x with| .a (.c (.ptr b p))=>kk (.a (.c (.ptr b (p++[.a n.toNat esz]))))| .a (.c (.cp t x p))=>kk (.a (.c (.cp t x (p++[.a n.toNat esz]))))| .a (.c (.ep b i p))=>kk (.a (.c (.ep b i (p++[.a n.toNat esz]))))|_=>none
 |_=>none
theorem JEK{len esz:Nat}{x i:TV}{s:TSt}{kk:TV->Option R}{r:R}(h:WR len esz x i kk=some r):Vl (GP len esz (JY (lns s.sto) x) (JY (lns s.sto) i)) s kk r:=by
 unfold WR at h;split at h;obtain⟨_,h1,h⟩:=bG.1 h;have e:=Bg h1;split at h<;>first
  |(refine⟨_,?_,h⟩;simp only[jA,lD,kX,e_i,GP,if_pos e,C8,spo,rA];done)
  |cases h
 cases h
def WH(t:Ty)(x i:TV)(s:TSt)(kk:TV->Option R):Option R:=
 match i with
 | .a (.c (.d (.i _) n))=>match x with
  | .a (.c (.d (.l t') l))=>if t'=t then(idx l n).bind λy=>kk (.a (.c (.cp t' y [])))else none
  | .a (.c (.slr b))=>match s.sto[b]? with|some (.arr _ t' rows)=>if t'=t then(aQ rows.length n).bind λ_=>kk (.a (.c (.ep b n.toNat [])))else none|_=>none
  |_=>none
 |_=>none
theorem JEc{t:Ty}{x i:TV}{d:Option Nat}{s:TSt}{k:TSt->Option R}{r:R}(h:WH t x i s (λv=>k (aY d v s))=some r):Ok (lI t.sz (JY (lns s.sto) x) (JY (lns s.sto) i)) d s k r:=by
 unfold WH at h;split at h;split at h;split at h;rename_i e;subst e;obtain⟨y,h1,h⟩:=bG.1 h;refine eU (v:=.a (.c (.cp _ y []))) ?_ h;grind [e_l,e_i,lD,lI,JE8,JT,spo];cases h;rename_i b;split at h;rename_i w t' rows g;split at h;rename_i e;subst e;obtain⟨_,h1,h⟩:=bG.1 h;have e:=Bg h1;refine eU (v:=.a (.c (.ep b _ []))) ?_ h;simp only[fX,e_i,kX,lI,dQ,dX,g,cL,JL,aT,mY g,eK,mJ,true_and];rw[if_pos e];rfl;cases h;cases h;cases h;cases h
def j9(x i:TV)(kk:TV->Option R):Option R:=
 match x,i with
 | .a (.c (.d .s l)),.a (.c (.d (.i _) n))=>(rG l n).bind λu=>kk (vi .u8 u)
 |_,_=>none
theorem JHz(F:Orc){x i:TO}{g e:TV}{d:Option Nat}{new:Nat}{s:TSt}{k:TSt->Option R}{r:R}(hx:tev x s=some g)(hi:tev i s=some e)(h:j9 g e (λv=>k (aY d v s))=some r):Ok (opR F (.sidx (erO x) (erO i)) new) d s k r:=by
 unfold j9 at h;split at h
 ·rename_i l o n;obtain⟨u,h1,h⟩:=bG.1 h;refine eU (v:=vi .u8 u) ?_ h;simp only[opR,run_bind,bN hx,bN hi,JL,e_s,e_i];unfold rG at h1;split at h1
  ·rename_i j;rw[if_pos j];split at h1
   all_goals simp_all
  cases h1
 cases h
def QS(j:Int)(k:Nat->Option R):Nat->Option R|0=>none|m+1=>if aI j m=true then k m else QS j k m
theorem Bx{j:Int}{k:Nat->Option R}{r:R}: ∀{n:Nat},QS j k n=some r-> ∃m,m<n/\j=m/\k m=some r
 |0,h=>by cases h
 |n+1,h=>by
  simp only[QS]at h;split at h;grind [aI];obtain⟨m,h1,h2,e⟩:=Bx h;grind
def iy(agg:Bool)(len:Nat)(t:Ty)(x i:TV)(d:Option Nat)(s:TSt)(k:TSt->Option R):Option R:=
 if agg=true\/t.sz=1 then
  match x,i with
  | .a (.dt (.ar n t') v),.a (.c (.d (.i _) j))=>if h:t'=t/\n=len then(fq v j).bind λy=>k (aY d (mkv agg t (h.1▸y)) s)else none
  | .a (.m _ cs),.a (.c (.d (.i _) j))=>QS j (λm=>match sub cs (m*t.sz) t.sz with
   |some l=>match mka agg t l with|some v=>k (aY d v s)|none=>none
   |none=>none) len
  |_,_=>none
 else none
theorem JGE(F:Orc){agg:Bool}{len:Nat}{t:Ty}{x i:TO}{o g:TV}{d:Option Nat}{new:Nat}{s:TSt}{k:TSt->Option R}{r:R}(hx:tev x s=some o)(hi:tev i s=some g)(h:iy agg len t o g d s k=some r):
  Ok (opR F (.aidx agg len t.sz (erO x) (erO i)) new) d s k r:=by
 unfold iy at h;split at h;rename_i D;split at h;rename_i n t' v w j;split at h;rename_i z;obtain⟨rfl,rfl⟩:=z;obtain⟨y,h1,h⟩:=bG.1 h;obtain⟨h2,e⟩:=JFr h1;refine eU (v:=mkv agg t' y) ?_ h;simp only[opR,run_bind,bN hx,bN hi,JL,gz,e_i,if_pos h2,pV];grind [cel,GW,dK,BN,val,JT];cases h;rename_i C cs w j;obtain⟨m,h1,q,e⟩:=Bx h;clear h;subst q;split at e;rename_i l A;split at e;rename_i v B;refine eU (v:=v) ?_ e;have h2:(0:Int)<=m/\(m:Int)<len:=by omega
 simp only[opR,run_bind,bN hx,bN hi,JL,e_m,e_i,if_pos h2,pV,Int.toNat_natCast,CI,A,cL,BL (lns s.sto) B,val,JT];cases e;cases e;cases h;cases h
def jy(x:TV)(i:Nat)(kk:TV->Option R):Option R:=
 match x with
 | .tup vs=>match vs[i]? with|some v=>kk (.a v)|none=>none
 |_=>none
theorem JHm{x:TV}{i:Nat}{s:TSt}{kk:TV->Option R}{r:R}(h:jy x i kk=some r):Vl (LU i (JY (lns s.sto) x)) s kk r:=by
 unfold jy at h;split at h;split at h;rename_i v e;refine⟨_,?_,h⟩;simp_all [JY];cases h;cases h
def iu(str:Bool)(x:TV)(s:TSt)(kk:TV->Option R):Option R:=
 match str,x with
 |true,.a (.c (.d .s l))=>kk (vi .i64 (J0 l))
 |false,.a (.c (.d (.l _) l))=>kk (vi .i64 (J0 l))
 |false,.a (.c (.slr b))=>match s.sto[b]? with|some (.arr _ _ rows)=>kk (vi .i64 (J0 rows))|_=>none
 |false,.a (.c (.slo _ n))=>kk (vi .i64 n)
 |_,_=>none
theorem JHU{str:Bool}{x:TV}{s:TSt}{kk:TV->Option R}{r:R}(h:iu str x s kk=some r):Vl (FH str (JY (lns s.sto) x)) s kk r:=by
 unfold iu at h;split at h;exact⟨_,rfl,h⟩;exact⟨_,by simp[e_l,e_i,J0],h⟩;split at h;rename_i e;exact⟨_,by grind [fX,FH,mY,e_i,J0],h⟩;cases h;exact⟨_,rfl,h⟩;cases h
theorem XQ{s:TSt}{new:Nat}(hn:new<s.sto.length){w:Bool}{t:Ty}{rows:List t.D}:lns (wN new (TB.arr w t rows) s).sto new=rows.length:=by unfold wN;rw[VZ (by simpa using hn)];rfl
theorem MO{m:RM Eff}{d:Option Nat}{s:TSt}{k:TSt->Option R}{r:R}{new:Nat}{t:Ty}{rows:List t.D}(hn:new<s.sto.length)
  (hm:m.run (Ju s)=some ⟨.slr new 0 rows.length,[(new,.arr true t.sz (rows.map (cel t)))]⟩) (h:k (aY d (.a (.c (.slr new))) (wN new (.arr true t rows) s))=some r):Ok m d s k r:=by
 refine ix (x:=.arr true t rows) (v:=.a (.c (.slr new))) ?_ h;rw[hm,fX,XQ hn];rfl
def YS(own:Bool)(t:Ty)(bytes:Nat)(l c:TV)(d:Option Nat)(new:Nat)(s:TSt)(k:TSt->Option R):Option R:=
 match l,c with
 | .a (.c (.d (.i _) n)),.a (.c (.d (.i _) m))=>(mkS bytes n m t.zero).bind λrows=>
  if own=true then k (aY d (.a (.c (.slr new))) (wN new (.arr true t rows) s))else k (aY d (vl t rows) s)
 |_,_=>none
theorem Fc(F:Orc){own:Bool}{t:Ty}{bytes:Nat}{l c:TO}{e n:TV}{d:Option Nat}{new:Nat}{s:TSt}{k:TSt->Option R}{r:R}(hl:tev l s=some e)(hc:tev c s=some n)(hn:own=true->new<s.sto.length)
  (h:YS own t bytes e n d new s k=some r):Ok (opR F (.mkslice own t.sz bytes (cel t t.zero) (erO l) (erO c)) new) d s k r:=by
 unfold YS at h;split at h;obtain⟨rows,h1,j⟩:=bG.1 h;obtain⟨h2,rfl⟩:=JIS h1;clear h;split at j;rename_i g;subst g;refine MO (hn rfl) ?_ j;simp only[opR,run_bind,bN hl,bN hc,JL,e_i,if_pos h2,if_true,JT,AJ,RV];rename_i g;have:own=false:=by simpa using g
 subst this;refine eU (v:=vl t _) ?_ j;simp only[opR,run_bind,bN hl,bN hc,JL,e_i,if_pos h2,dJ,if_false,JT,e_l,RV];cases h
def QP(t:Ty)(bytes:Nat)(x y:TV)(d:Option Nat)(s:TSt)(k:TSt->Option R):Option R:=
 match x with
 | .a (.c (.slr b))=>match s.sto[b]? with
  |some (.arr w t' rows)=>if h:t'=t then
   match tls t' y s with
   |some l=>(Jy bytes rows l).bind λm=>k (aY d (.a (.c (.slr b))) (wN b (.arr w t' m) s))
   |none=>none
   else none
  |_=>none
 |_=>none
theorem Bc{t:Ty}{bytes:Nat}{x y:TV}{d:Option Nat}{s:TSt}{k:TSt->Option R}{r:R}(h:QP t bytes x y d s k=some r):Ok (hA t.sz bytes (JY (lns s.sto) x) (JY (lns s.sto) y)) d s k r:=by
 unfold QP at h;split at h;rename_i b;split at h;rename_i w t' rows e;split at h;rename_i j;subst j;split at h;rename_i l n;obtain⟨m,h1,h⟩:=bG.1 h;refine ix (x:=.arr w t' m) (v:=.a (.c (.slr b))) ?_ h;have g:(Ju s).sto[b]?=some (.arr w t'.sz (rows.map (cel t'))):=by rw[dX,e];rfl
 have:=JIF h1 g (MN n);rw[fX,mY e,this,fX,XQ (Jp e)];rfl;cases h;cases h;cases h;cases h
def i5(t:Ty)(bytes:Nat)(y:TV)(d:Option Nat)(new:Nat)(s:TSt)(k:TSt->Option R):Option R:=
 match tls t y s with
 |some l=>(cC bytes l).bind λm=>k (aY d (.a (.c (.slr new))) (wN new (.arr true t m) s))
 |none=>none
theorem JFR(F:Orc){t:Ty}{bytes:Nat}{z:List PV}{y:TO}{e:TV}{d:Option Nat}{new:Nat}{s:TSt}{k:TSt->Option R}{r:R}(hy:tev y s=some e)(hn:new<s.sto.length)(h:i5 t bytes e d new s k=some r):Ok (opR F (.appn t.sz bytes z (erO y)) new) d s k r:=by
 unfold i5 at h;split at h;rename_i l g;obtain⟨m,h1,j⟩:=bG.1 h;obtain⟨h2,rfl⟩:=JFm h1;refine MO hn ?_ j;simp only[opR,run_bind,bN hy,JL,MN g,eK,h2,if_true,JT];cases h
def iz(t:Ty)(bytes:Nat)(x y:TV)(d:Option Nat)(s:TSt)(k:TSt->Option R):Option R:=
 match y with
 | .a (.c (.d (.i _) n))=>if 0<=n then QP t bytes x (vl t (List.replicate n.toNat t.zero)) d s k else none
 |_=>none
theorem JGC(F:Orc){t:Ty}{bytes:Nat}{x y:TO}{g j:TV}{d:Option Nat}{new:Nat}{s:TSt}{k:TSt->Option R}{r:R}(hx:tev x s=some g)(hy:tev y s=some j)(h:iz t bytes g j d s k=some r):Ok (opR F (.appz t.sz bytes (cel t t.zero) (erO x) (erO y)) new) d s k r:=by
 unfold iz at h;split at h;rename_i n;split at h;rename_i o;obtain⟨e,s',h1,h2,q⟩:=Bc h;refine⟨e,s',?_,h2,q⟩;simp only[opR,run_bind,bN hx,bN hy,JL,e_i,zrs,if_pos o];simp_all [e_l];cases h;cases h
def jl(t:Ty)(bytes:Nat)(x y:TV)(d:Option Nat)(new:Nat)(s:TSt)(k:TSt->Option R):Option R:=
 match x with
 | .a (.c (.sc t' rows))=>if h:t'=t then
   match tls t' y s with
   |some l=>(xj bytes rows l).bind λm=>k (aY d (.a (.c (.slr new))) (wN new (.arr true t' m) s))
   |none=>none
  else none
 |_=>none
theorem JGs(F:Orc){t:Ty}{bytes:Nat}{z:List PV}{x y:TO}{e g:TV}{d:Option Nat}{new:Nat}{s:TSt}{k:TSt->Option R}{r:R}(hx:tev x s=some e)(hy:tev y s=some g)(hn:new<s.sto.length)(h:jl t bytes e g d new s k=some r):
  Ok (opR F (.appc t.sz bytes z (erO x) (erO y)) new) d s k r:=by
 unfold jl at h;split at h;rename_i t' rows;split at h;rename_i j;subst j;split at h;rename_i l n;obtain⟨m,h1,h⟩:=bG.1 h;unfold xj at h1;split at h1;rename_i h2;injection h1 with h1;subst h1;refine MO hn ?_ h;simp only[opR,run_bind,bN hx,bN hy,JL];show(EM t'.sz bytes (.p (.slc t'.sz (rows.map (cel t')))) _ new).run _=_;grind [EM,run_bind,MN,JT];cases h1;cases h;cases h;cases h
def tbn(x:Option TO)(s:TSt):Option (Option (IntKind×Int)):=
 match x with
 |none=>some none
 |some o=>match tev o s with|some (.a (.c (.d (.i k) n)))=>some (some (k,n))|_=>none
def bv(x:Option (IntKind×Int)):Option AV:=x.map λy=>.p (.i y.1 y.2)
theorem BM{x:Option TO}{s:TSt}{y:Option (IntKind×Int)}(h:tbn x s=some y):(evo (x.map erO)).run (Ju s)=some (bv y):=by
 cases x with
 |none=>injection h with h;subst h;rfl
 |some o=>
  simp only[tbn]at h;split at h;rename_i k n e;injection h with h;subst h;simp only[cL,evo,run_bind,bN e,JL,JT,bv,e_i];cases h
theorem JKz(x:Option (IntKind×Int))(top d:Nat):oO (bv x) top d=AA (x.map (·.2)) top d:=by cases x<;>rfl
theorem Ad(n:Nat)(lo hi:Option (IntKind×Int)):tD n (bv lo) (bv hi)=wL n (lo.map (·.2)) (hi.map (·.2)):=by
 grind [tD,wL,JKz]
inductive TSK where|str|sl (t:Ty)
def erK:TSK->SK| .str=>.str| .sl t=>.sl t.sz
def fr(t:Ty)(x:TV)(s:TSt)(kk:List t.D->TSt->Option R):Option R:=
 match x with
 | .a (.c (.d (.l t') l))=>if h:t'=t then kk (h▸l) s else none
 | .a (.c (.slr b))=>match s.sto[b]? with|some (.arr _ t' rows)=>if h:t'=t then kk (h▸rows) (wS b (.arr false t' rows) s)else none|_=>none
 |_=>none
theorem JIJ{t:Ty}{x:TV}{s:TSt}{kk:List t.D->TSt->Option R}{r:R}(h:fr t x s kk=some r):
  ∃l s' ws,Fzd s s' ws/\kk l s'=some r/\((JY (lns s.sto) x=.p (.sl t.sz (l.map (cel t)))/\ws=[])\/
   ∃b,JY (lns s.sto) x=.slr b 0 l.length/\(fz (.slr b 0 l.length)).run (Ju s)=some ([.sl t.sz (l.map (cel t))],ws)):=by
 unfold fr at h;split at h;grind [Fzd.refl,e_l];rename_i b;split at h;rename_i w t' rows e;split at h;rename_i g;subst g;refine⟨_,_,_,XM e,h,.inr ⟨b,by rw[fX,mY e],?_⟩⟩;simp_all [dX,aT];cases h;cases h;cases h
def VU(e:TSK)(x:TV)(lo hi mx:Option (IntKind×Int))(d:Option Nat)(s:TSt)(k:TSt->Option R):Option R:=
 match e with
 | .str=>match x,mx with| .a (.c (.d .s l)),none=>(bB l (lo.map (·.2)) (hi.map (·.2))).bind λq=>k (aY d (vs q) s)|_,_=>none
 | .sl t=>fr t x s λl s1=>match mx with|none=>(bB l (lo.map (·.2)) (hi.map (·.2))).bind λq=>k (aY d (vl t q) s1)|some (_,n)=>match lo,hi with|none,some (_,h)=>if h=l.length/\n=l.length then k (aY d (.a (.c (.sc t l))) s1)else none|_,_=>none
theorem Dc{α:Type}{l q:List α}{lo hi:Option Int}(h:bB l lo hi=some q): ∃c,wL l.length lo hi=some c/\q=(l.drop c.1).take (c.2-c.1):=by
 grind [bB]
theorem JEw(F:Orc){n:TSK}{x:TO}{j:TV}{lo hi mx:Option TO}{l g m:Option (IntKind×Int)}{d:Option Nat}{new:Nat}{s:TSt}{k:TSt->Option R}{r:R}(hx:tev x s=some j)(hl:tbn lo s=some l)(o:tbn hi s=some g)(hm:tbn mx s=some m)
  (h:VU n j l g m d s k=some r):Ok (opR F (.slice (erK n) (erO x) (lo.map erO) (hi.map erO) (mx.map erO)) new) d s k r:=by
 unfold VU at h;split at h;split at h;rename_i A;obtain⟨q,h1,h⟩:=bG.1 h;obtain⟨c,hc,rfl⟩:=Dc h1;refine eU (v:=vs _) ?_ h;have w:bv none=none:=rfl;simp only[opR,run_bind,bN hx,BM hl,BM o,BM hm,JL,e_s,erK,w,jH,uH,val,Ad,hc,JT];cases h;rename_i t;obtain⟨y,s1,ws,f,h,C⟩:=JIJ h;have e: ∀(res:AV),jH (.sl t.sz) (.p (.sl t.sz (y.map (cel t)))) (bv l) (bv g) (bv m)=some res->
   (opR F (.slice (erK (.sl t)) (erO x) (lo.map erO) (hi.map erO) (mx.map erO)) new).run (Ju s)=some ⟨res,ws⟩:=by
  intro res B;simp only[opR,run_bind,bN hx,BM hl,BM o,BM hm,JL,erK];grind [val,JT,run_bind]
 split at h;obtain⟨q,h2,h⟩:=bG.1 h;obtain⟨c,hc,rfl⟩:=Dc h2;refine VX (v:=vl t _) f (e _ ?_) h;grind [bv,jH,uF,Ad,e_l,List.map_take,List.map_drop];split at h;split at h;rename_i z;refine VX (v:=.a (.c (.sc t y))) f (e _ ?_) h;simp only[bv,Option.map_none,cL,jH,LQ,eK,z,and_self,if_true];rfl;cases h;cases h
end
end Go.Am
end
section
namespace Go.Am
section
variable {R:Type}
def QX(t:Ty):List (Nat×TO)->TSt->TSt->(List (Nat×t.D)->TSt->Option R)->Option R|[],_,s,k=>k [] s|(i,o)::r,s0,s,k=>match tev o s0 with|some v=>tfz t v s λz s'=>QX t r s0 s' λl e=>k ((i,z)::l) e|none=>none
theorem B9{t:Ty}: ∀{parts:List (Nat×TO)} {s0 s:TSt} {w0:List (Nat×Blk)} {k:List (Nat×t.D)->TSt->Option R} {r:R},Fzd s0 s w0->QX t parts s0 s k=some r->
  ∃l s' ws,(fzs (parts.map λx=>erO x.2)).run (Ju s0)=some (l.map λx=>cel t x.2,ws)/\Fzd s0 s' (w0++ws)/\l.map (·.1)=parts.map (·.1)/\k l s'=some r
 |[],s0,s,w0,k,r,f,h=>⟨[],s,[],rfl,by simp_all,rfl,h⟩
 |(i,o)::q,s0,s,w0,k,r,f,h=>by
  simp only[QX]at h;split at h;rename_i v w;obtain⟨z,s1,j,h1,e,h⟩:=Ao f h;obtain⟨l,g,y,h2,A,n,h⟩:=B9 e h;refine⟨(i,z)::l,g,j++y,?_,by simp_all,by simp[n],h⟩;simp only[bP,fzs,run_bind,bN w,JL,h1,h2,JT];cases h
def MG{α:Type}:List (Nat×α)->List α->Option (List α)|[],rows=>some rows|(i,c)::r,rows=>if i<rows.length then MG r (rows.set i c)else none
theorem og{t:Ty}: ∀{l:List (Nat×t.D)} {rows rows':List t.D},MG l rows=some rows'->
  xK t.sz ((l.map (·.1)).zip (l.map λx=>cel t x.2)) (rows.map (cel t))=some (rows'.map (cel t))/\rows'.length=rows.length
 |[],rows,rows',h=>by injection h with h;simp_all
 |(i,c)::q,rows,rows',h=>by
  simp only[MG]at h;split at h;rename_i e;obtain⟨h1,h2⟩:=og h;simp_all [dK];cases h
def jj(own:Bool)(t:Ty)(n:Nat)(parts:List (Nat×TO))(d:Option Nat)(new:Nat)(s:TSt)(k:TSt->Option R):Option R:=
 QX t parts s s λl s1=>match MG l (List.replicate n t.zero)with|some rows=>if own=true then k (aY d (.a (.c (.slr new))) (wN new (.arr true t rows) s1))else k (aY d (vl t rows) s1)|none=>none
theorem JG3(F:Orc){own:Bool}{t:Ty}{n:Nat}{parts:List (Nat×TO)}{d:Option Nat}{new:Nat}{s:TSt}{k:TSt->Option R}{r:R}(hn:own=true->new<s.sto.length)
  (h:jj own t n parts d new s k=some r):Ok (opR F (.lits own t.sz n (cel t t.zero) (parts.map λx=>(x.1,erO x.2))) new) d s k r:=by
 unfold jj at h;obtain⟨l,s1,ws,h1,f,h2,e⟩:=B9 (Fzd.refl s) h;rw[iX]at f;clear h;split at e;rename_i rows o;obtain⟨j,q⟩:=og o;rw[AJ]at q;rw[RV]at j;have z:(parts.map λx=>(x.1,erO x.2)).map (·.2)=parts.map λx=>erO x.2:=by simp
 have y:(parts.map λx=>(x.1,erO x.2)).map (·.1)=l.map (·.1):=by rw[h2];simp
 split at e;rename_i g;subst g;have w:new<s1.sto.length:=(by have:=congrArg (λst=>st.sto.length) f.2.2.1;grind [Ju,xD]);refine⟨⟨JY (lns (wN new (.arr true t rows) s1).sto) (.a (.c (.slr new))),ws++[(new,.arr true t.sz (rows.map (cel t)))]⟩,_,?_,pX ?_ d _,e⟩;grind [fX,XQ,opR,run_bind,JT];rw[zj,f.2.2.1,eF];rfl;rename_i g;have:own=false:=by simpa using g
 subst this;refine VX (v:=vl t rows) f ?_ e;grind [opR,run_bind,JT,e_l];cases e
def mM(s:TSt):Nat->Nat->Bool
 |_,0=>true
 |new,k+1=>(match s.sto[new]? with
  |some .dead=>true
  |_=>false)&&mM s (new+1) k
theorem lq{s:TSt}: ∀{k new:Nat},mM s new k=true->(rL new k).run (Ju s)=some ()
 |0,_,_=>rfl
 |k+1,new,h=>by
  simp only[mM,JQ]at h;obtain⟨h1,h2⟩:=h;split at h1;rename_i hd;simp only[rL,dQ,dX,hd,cL,JL,aT];exact lq h2;cases h1
theorem uP{s:TSt}: ∀{k new:Nat},mM s new k=true-> ∀j,j<k->s.sto[new+j]?=some .dead
 |0,_,_,j,hj=>by omega
 |k+1,new,h,j,hj=>by
  simp only[mM,JQ]at h;obtain⟨h1,h2⟩:=h;cases j with
  |zero=>
   grind
  |succ j=>
   have:=uP h2 j (by omega);grind
theorem XG{m:RM Eff}{d:Option Nat}{s:TSt}{k:TSt->Option R}{r:R}{new:Nat}{x:TB}(hd:s.sto[new]?=some .dead)(h0:lnB x=0)
  (hm:m.run (Ju s)=some ⟨.ptr new 0,[(new,aT (lns s.sto) x)]⟩) (h:k (aY d (.a (.c (.ptr new []))) (wS new x s))=some r):Ok m d s k r:=by
 refine FN (x:=x) (v:=.a (.c (.ptr new []))) (h0.trans (xL hd).symm) ?_ h;rw[hm];rfl
def B7(t:Ty)(d:Option Nat)(new:Nat)(s:TSt)(k:TSt->Option R):Option R:=k (aY d (.a (.c (.ptr new []))) (wS new (.box t t.zero) s))
theorem JBS(F:Orc){t:Ty}{d:Option Nat}{new:Nat}{s:TSt}{k:TSt->Option R}{r:R}(hd:s.sto[new]?=some .dead)(h:B7 t d new s k=some r):Ok (opR F (.newbox (cel t t.zero)) new) d s k r:=
 XG hd (x:=.box t t.zero) rfl rfl h
def gv(t:Ty)(x:TV)(d:Option Nat)(new:Nat)(s:TSt)(k:TSt->Option R):Option R:=
 match tdv t x with
 |some z=>if agv x=true\/t.sz=1 then k (aY d (.a (.c (.ptr new []))) (wS new (.box t z) s))else none
 |none=>match tcs x with|some cs=>if cs.length=t.sz then k (aY d (.a (.c (.ptr new []))) (wS new (.mbox t cs) s))else none|none=>none
theorem JHW(F:Orc){t:Ty}{x:TO}{v:TV}{d:Option Nat}{new:Nat}{s:TSt}{k:TSt->Option R}{r:R}(hd:s.sto[new]?=some .dead)(hx:tev x s=some v)(h:gv t v d new s k=some r):Ok (opR F (.box t.sz (erO x)) new) d s k r:=by
 unfold gv at h;split at h;rename_i z j;split at h;rename_i e;refine XG hd (x:=.box t z) rfl ?_ h;simp only[opR,run_bind,bN hx,JL,cl (lns s.sto) j e,eK,dK,if_true,JT,aT];cases h;split at h;rename_i cs hc;split at h;rename_i g;refine XG hd (x:=.mbox t cs) rfl ?_ h;simp only[opR,run_bind,bN hx,JL,GV (lns s.sto) hc,eK,g,if_true,JT,aT];cases h;cases h
def oC:List (Nat×Ty)->Nat->TSt->TSt|[],_,s=>s|(_,t)::r,n,s=>oC r (n+1) (wS n (.arr true t []) s)
def vZ:List (Nat×Ty)->Nat->List TC->List TC|[],_,cs=>cs|(off,_)::r,n,cs=>vZ r (n+1) (cs.set off (.slr n))
def jW(os:List (Nat×Ty)):List (Nat×Nat):=os.map λx=>(x.1,x.2.sz)
theorem YN: ∀{os:List (Nat×Ty)} {new:Nat} {s:TSt},(∀j,j<os.length->s.sto[new+j]?=some .dead)->
  lns (oC os new s).sto=lns s.sto/\Ju (oC os new s)=⟨(Ju s).env,upd (fY (jW os) new) (Ju s).sto⟩/\(∀b,(∀j,j<os.length->b≠new+j)->(oC os new s).sto[b]?=s.sto[b]?)
 |[],_,s,_=>⟨rfl,rfl,λ_ _=>rfl⟩
 |(off,t)::q,new,s,h=>by
  have hd:s.sto[new]?=some .dead:=h 0 (by simp);have k:lnB (.arr true t [])=lns s.sto new:=(xL hd).symm;have e:=BR k;have g: ∀c,c≠new->(wS new (.arr true t []) s).sto[c]?=s.sto[c]?:=λc hc=>by grind [wS]
  obtain⟨h1,h2,r⟩:=YN (os:=q) (new:=new+1) (s:=wS new (.arr true t []) s) (λj o=>by
   rw[g _ (by omega)];have:=h (j+1) (by simp;omega);grind)
  refine⟨h1.trans e,?_,λb n=>?_⟩;simp only[oC];rw[h2,wR k];simp only[jW,bP,fY];rfl;simp only[oC];rw[r b (λj o=>by have:=n (j+1) (by simp;omega);omega),g b (by have:=n 0 (by simp);omega)]
theorem YH{L:Nat->Nat}: ∀{os:List (Nat×Ty)} {new:Nat} {cs:List TC},(∀j,j<os.length->L (new+j)=0)->(vZ os new cs).map (aU L)=kY (jW os) new (cs.map (aU L))
 |[],_,_,_=>rfl
 |(off,t)::q,new,cs,h=>by
  simp only[vZ,jW,bP,kY];rw[YH (os:=q) (new:=new+1) (λj e=>by have:=h (j+1) (by simp;omega);grind),List.map_set];have:aU L (.slr new)=.slr new 0 0:=by simp only[aU];rw[show L new=0 from h 0 (by simp)]
  rw[this];rfl
def YY(t:Ty)(os:List (Nat×Ty))(d:Option Nat)(new:Nat)(s:TSt)(k:TSt->Option R):Option R:=k (aY d (.a (.c (.ptr (new+os.length) []))) (wS (new+os.length) (.mbox t (vZ os new (zcs t))) (oC os new s)))
theorem Ff(F:Orc){t:Ty}{os:List (Nat×Ty)}{d:Option Nat}{new:Nat}{s:TSt}{k:TSt->Option R}{r:R}(hd:mM s new (os.length+1)=true)(h:YY t os d new s k=some r):
  Ok (opR F (.newboxo (cel t t.zero) (jW os)) new) d s k r:=by
 unfold YY at h;generalize hc:zcs t=cs at h;have g:=uP hd;obtain⟨h1,h2,q⟩:=YN (os:=os) (new:=new) (s:=s) (λj o=>g j (by omega));have n:lnB (.mbox t (vZ os new cs))=lns (oC os new s).sto (new+os.length):=by rw[h1,xL (g os.length (by omega))];rfl
 have e:=BR n;have el:(jW os).length=os.length:=by simp[jW]
 refine⟨⟨JY (lns (wS (new+os.length) (.mbox t (vZ os new cs)) (oC os new s)).sto) (.a (.c (.ptr (new+os.length) []))),fY (jW os) new++[(new+os.length,.box (kY (jW os) new ((cel t t.zero).map .p)))]⟩,_,?_,pX ?_ d _,h⟩;simp only[opR,JT,el];rfl;rw[wR n,h2,eF];simp only[aT];rw[YH (λj o=>by rw[h1];grind [xL]),<-hc,BP];rfl
def YG(t:Ty)(parts:List (Nat×Ty×TO))(os:List (Nat×Ty))(d:Option Nat)(new:Nat)(s:TSt)(k:TSt->Option R):Option R:=
 match tpc parts s with
 |some l=>match FO l (vZ os new (zcs t))with
  |some cs'=>match mka true t cs' with|some v=>k (aY d v (oC os new s))|none=>none
  |none=>none
 |none=>none
theorem JBN(F:Orc){t:Ty}{parts:List (Nat×Ty×TO)}{os:List (Nat×Ty)}{d:Option Nat}{new:Nat}{s:TSt}{k:TSt->Option R}{r:R}(hd:mM s new os.length=true)(h:YG t parts os d new s k=some r):
  Ok (opR F (.buildo (cel t t.zero) (erP parts) (jW os)) new) d s k r:=by
 unfold YG at h;split at h;rename_i l w;have e:=uP hd;obtain⟨h1,h2,x⟩:=YN (os:=os) (new:=new) (s:=s) (λj o=>e j (by omega));split at h;rename_i cs' g;split at h;rename_i v y;refine⟨⟨JY (lns (oC os new s).sto) v,fY (jW os) new⟩,_,?_,pX h2 d _,h⟩;have n:=YH (L:=lns s.sto) (os:=os) (new:=new) (cs:=zcs t) (λj o=>xL (e j (by omega)));rw[BP]at n;have q:=ZB (lns s.sto) g;grind [opR,run_bind,WF,BL,JT];cases h;cases h;cases h
def Al(t:Ty)(d:Option Nat)(new:Nat)(s:TSt)(k:TSt->Option R):Option R:=k (aY d (.a (.c (.slr new))) (wN new (.arr true t []) s))
theorem JDX(F:Orc){t:Ty}{x:Opd}{d:Option Nat}{new:Nat}{s:TSt}{k:TSt->Option R}{r:R}(hn:new<s.sto.length)(h:Al t d new s k=some r):Ok (opR F (.mkarr t.sz x) new) d s k r:=
 MO (rows:=[]) hn rfl h
def tyB:Option TB->Ty|some (.box t _)=>t|some (.mbox t _)=>t|_=>.u
def XZ(t:Ty)(x:TV)(d:Option Nat)(new:Nat)(s:TSt)(k:TSt->Option R):Option R:=
 match x with
 | .a (.c (.ptr b p))=>match qY p,(match s.sto[b]? with
   |some (.box e y)=>wA e y
   |some (.mbox _ cs)=>some cs
   |_=>none)with
  |some off,some cs=>match spl cs off [.slr new]with|some cs'=>k (aY d uv (wS b (.mbox (tyB s.sto[b]?) cs') (wS new (.arr true t []) s)))|none=>none
  |_,_=>none
 |_=>none
theorem JBM(F:Orc){t:Ty}{x:TO}{v:TV}{d:Option Nat}{new:Nat}{s:TSt}{k:TSt->Option R}{r:R}(hd:s.sto[new]?=some .dead)(hx:tev x s=some v)(h:XZ t v d new s k=some r):Ok (opR F (.storen t.sz (erO x)) new) d s k r:=by
 unfold XZ at h;split at h;rename_i b p;split at h;rename_i off cs B hc;split at h;rename_i cs' G;have o:lnB (.arr true t [])=lns s.sto new:=(xL hd).symm;have n:b≠new/\lns s.sto b=0/\(Ju s).sto[b]?=some (.box (cs.map (aU (lns s.sto)))):=(by split at hc;rename_i A y g;refine⟨λe=>?_,NK g,?_⟩;simp_all;rw[dX,g,HM _ hc];rfl;rename_i A E g;injection hc with hc;subst hc;refine⟨λe=>?_,l7 g,?_⟩;simp_all;rw[dX,g];rfl;cases hc);obtain⟨D,w,g⟩:=n;have q:=BR o;have j:lnB (.mbox (tyB s.sto[b]?) cs')=lns (wS new (.arr true t []) s).sto b:=by rw[q,w];rfl
 refine⟨⟨JY (lns (wS b (.mbox (tyB s.sto[b]?) cs') (wS new (.arr true t []) s)).sto) uv,(new,.arr true t.sz [])::[(b,.box (cs'.map (aU (lns s.sto))))]⟩,_,?_,pX ?_ d _,h⟩;have z:aU (lns s.sto) (.slr new)=.slr new 0 0:=by grind [aU,xL]
 have C:spl (cs.map (aU (lns s.sto))) (spo p) [.slr new 0 0]=some (cs'.map (aU (lns s.sto))):=by rw[<-z,BO B];have:=CH (aU (lns s.sto)) cs off [TC.slr new];simp_all
 simp only[opR,run_bind,bN hx,JL,jA,gT,dQ,g,cellsOf,zW,List.length_nil,mJ,if_true,C,JT];rfl;rw[wR j,wR o,q];rfl;cases h;cases h;cases h
def ju(c:Bool)(a b:Option TV)(kk:TV->Option R):Option R:=
 match a,b with
 |some (.a (.c (.d t x))),some (.a (.c (.d t' y)))=>if h:t'=t then kk (.a (.c (.d t (Y5 c x (h▸y)))))else none
 |some x,some y=>if c=true then kk x else kk y
 |some x,none=>if c=true then kk x else none
 |none,some y=>if c=true then none else kk y
 |none,none=>none
theorem JHk(F:Orc){c a b:TO}{x:Bool}{d:Option Nat}{new:Nat}{s:TSt}{k:TSt->Option R}{r:R}(hc:tev c s=some (vb x))(h:ju x (tev a s) (tev b s) (λv=>k (aY d v s))=some r):Ok (opR F (.pick (erO c) (erO a) (erO b)) new) d s k r:=by
 have e: ∃v,(if x=true then tev a s else tev b s)=some v/\k (aY d v s)=some r:=by
  unfold ju at h;split at h;rename_i t y t' z n j;split at h;rename_i g;subst g;refine⟨_,?_,h⟩;rw[n,j];cases x<;>rfl
  cases h
  all_goals grind
 obtain⟨v,h1,h2⟩:=e;refine eU (v:=v) ?_ h2;simp only[opR,run_bind,bN hc,JL,e_b];grind [run_bind,bN,JT]
def tcl:List TO->TSt->Option (List TC)
 |[],_=>some []
 |o::r,s=>match tev o s with
  |some (.a (.c x))=>match tcl r s with|some l=>some (x::l)|none=>none
  |_=>none
theorem Aj{s:TSt}: ∀{xs:List TO} {l:List TC},tcl xs s=some l->(evs (xs.map erO)).run (Ju s)=some (l.map (aU (lns s.sto)))
 |[],l,h=>by injection h with h;subst h;rfl
 |o::q,l,h=>by
  simp only[tcl]at h;split at h;rename_i x g;split at h;rename_i j e;injection h with h;subst h;simp only[bP,evs,run_bind,bN g,JL,Aj e,JT];rfl;cases h;cases h
def gm(x:TV)(kk:TV->Option R):Option R:=
 match x with
 | .a (.c (.ptr b p))=>kk (.a (.c (.ptr b p)))
 | .a (.c (.cp t y p))=>kk (.a (.c (.cp t y p)))
 | .a (.c (.ep b i p))=>kk (.a (.c (.ep b i p)))
 | .a (.fn f a c)=>kk (.a (.fn f a c))
 | .a (.c (.fn f))=>kk (.a (.c (.fn f)))
 |_=>none
theorem JI0(F:Orc){x:TO}{v:TV}{d:Option Nat}{new:Nat}{s:TSt}{k:TSt->Option R}{r:R}(hx:tev x s=some v)(h:gm v (λv=>k (aY d v s))=some r):Ok (opR F (.nilchk (erO x)) new) d s k r:=by
 unfold gm at h;split at h<;>first
  |(refine eU (v:=_) ?_ h
    simp only[opR,run_bind,bN hx,JL,jA,lD,kX,g8,yj,JT];done)
  |cases h
end
end Go.Am
end
section
namespace Go.Am
section
variable {R:Type}
def gu(keep:Bool)(v:TV)(s:TSt)(kk:TA->TSt->Option R):Option R:=
 match v with
 | .a x=>if keep=true then kk x s else
  match x with
  | .c (.slr b)=>match s.sto[b]? with|some (.arr _ t' rows)=>kk (.c (.d (.l t') rows)) (wS b (.arr false t' rows) s)|_=>none
  | .c (.slo _ _)=>none
  | .m t cs=>fzC t cs s λx s'=>kk (.dt t x) s'
  |x=>kk x s
 | .tup _=>none
def FJ:List (TV×Bool)->TSt->(List TA->TSt->Option R)->Option R|[],s,kk=>kk [] s|(v,keep)::r,s,kk=>gu keep v s λx s=>FJ r s λl s=>kk (x::l) s
theorem JID{keep:Bool}{v:TV}{s0 s:TSt}{w0:List (Nat×Blk)}{kk:TA->TSt->Option R}{r:R}(f:Fzd s0 s w0)(h:gu keep v s kk=some r):
  ∃x s' ws,(if keep=true then RM.ret (JY (lns s0.sto) v,[])else hZ (JY (lns s0.sto) v)).run (Ju s0)=some (bM (lns s0.sto) x,ws)/\Fzd s0 s' (w0++ws)/\kk x s'=some r:=by
 unfold gu at h;split at h;rename_i x;split at h;rename_i g;subst g;exact⟨x,s,[],rfl,by simp_all,h⟩;rename_i g;have:keep=false:=by simpa using g
 subst this;simp only[dJ,if_false];split at h;rename_i b;split at h;rename_i w t' rows j;obtain⟨w',e⟩:=f.2.2.2.1 b _ rows w j;refine⟨_,_,[(b,.arr false t'.sz (rows.map (cel t')))],?_,f.trans (XM j),h⟩;simp only[fX,hZ,fz,run_bind,dQ,dX,e,cL,JL,aT,mY e,eK,mJ,if_true,zQ,JT];rfl;cases h;cases h;obtain⟨y,s',ws,h1,h2,k⟩:=GX f h;refine⟨_,s',ws,?_,h2,k⟩;simp only[e_m,hZ,fz,run_bind,h1,JL,JT];rfl;rename_i q z o;refine⟨x,s,[],?_,by simp_all,h⟩;cases x with
 |c x=>
  cases x with
  |slr b=>simp_all
  |slo b n=>simp_all
  |_=>rfl
 |m t cs=>simp_all
 |_=>rfl
 cases h
theorem YP: ∀{vs:List (TV×Bool)} {s0 s:TSt} {w0:List (Nat×Blk)} {kk:List TA->TSt->Option R} {r:R},Fzd s0 s w0->FJ vs s kk=some r->
  ∃xs s' ws,(eQ (vs.map (·.2)) (vs.map λx=>JY (lns s0.sto) x.1)).run (Ju s0)=some (xs.map (bM (lns s0.sto)),ws)/\Fzd s0 s' (w0++ws)/\kk xs s'=some r
 |[],s0,s,w0,kk,r,f,h=>⟨[],s,[],rfl,by simp_all,h⟩
 |(v,keep)::q,s0,s,w0,kk,r,f,h=>by simp only[FJ]at h;obtain⟨x,s1,j,h1,e,h⟩:=JID f h;obtain⟨xs,g,k,h2,n,h⟩:=YP e h;refine⟨x::xs,g,j++k,?_,by simp_all,h⟩;cases keep<;>simp_all [eQ]
theorem PF: ∀(vs:List AV),eQ [] vs=jB vs|[]=>rfl|x::r=>by simp only[eQ,jB,PF r]
theorem IK: ∀(m:List Bool) (vs:List AV),(∀x∈m,x=false)->eQ m vs=jB vs|[],vs,_=>PF vs|b::m,[],_=>rfl|b::m,x::r,h=>by have:b=false:=h b (by simp);subst this;simp only[eQ,jB,IK m r (λx e=>h x (by simp[e]))]
def EZ(b:Nat)(l:List Nat):List Nat:=if l.any (λx=>x==b)=true then l else l++[b]
def LA(x:TC)(l:List Nat):Option (List Nat):=
 match x with
 | .ptr b _=>some (EZ b l)
 | .slr b=>some (EZ b l)
 | .slo b _=>some (EZ b l)
 | .ep _ _ _=>none
 | .epo _ _ _ _=>none
 |_=>some l
def tT:List TC->List Nat->Option (List Nat)|[],l=>some l|x::r,l=>match LA x l with|some l=>tT r l|none=>none
def j8(x:TA)(l:List Nat):Option (List Nat):=
 match x with
 | .c x=>LA x l
 | .dt _ _=>some l
 | .m _ cs=>tT cs l
 | .fn _ a c=>match tT a l with|some l=>tT c l|none=>none
def BK:List TA->List Nat->Option (List Nat)|[],l=>some l|x::r,l=>match j8 x l with|some l=>BK r l|none=>none
def tV(s:TSt):List Nat->List Nat->Option (List Nat)
 |[],acc=>some acc
 |b::r,acc=>match s.sto[b]? with
  |some (.mbox _ cs)=>match tT cs acc with|some acc=>tV s r acc|none=>none
  |some _=>tV s r acc
  |none=>none
theorem F6(b:Nat)(l:List Nat):uG (.whole b) (l.map .whole)=(EZ b l).map .whole:=by
 grind [uG,EZ]
section
variable (L:Nat->Nat)
theorem mj{x:TC}{l g:List Nat}(h:LA x l=some g):cF (aU L x) (l.map .whole)=g.map .whole:=by
 unfold LA at h;split at h<;>first
  |(injection h with h;subst h;simp only[aU,cF,F6];done)
  |(cases h;done)
  |skip
 injection h with h;subst h;rename_i k o q r j;cases x with
 |ptr b p=>simp_all
 |slr b=>simp_all
 |slo b n=>simp_all
 |ep b i p=>simp_all
 |epo b e i p=>grind
 |_=>rfl
theorem HV: ∀{xs:List TC} {l e:List Nat},tT xs l=some e->cF.entsOfL (xs.map (aU L)) (l.map .whole)=e.map .whole
 |[],l,e,h=>by injection h with h;subst h;rfl
 |x::r,l,e,h=>by
  simp only[tT]at h;split at h;rename_i g h1;simp only[bP,cF.entsOfL,mj L h1];exact HV h;cases h
theorem JGL{x:TA}{l e:List Nat}(h:j8 x l=some e):cF (bM L x) (l.map .whole)=e.map .whole:=by
 cases x with
 |c x=>exact mj L h
 |dt t x=>injection h with h;subst h;rfl
 |m t cs=>exact HV L h
 |fn f a c=>
  simp only[j8]at h;split at h
  all_goals simp_all [bM,HV]
theorem OR: ∀{xs:List TA} {l e:List Nat},BK xs l=some e->cF.entsOfL (xs.map (bM L)) (l.map .whole)=e.map .whole
 |[],l,e,h=>by injection h with h;subst h;rfl
 |x::r,l,e,h=>by
  simp only[BK]at h;split at h;rename_i g h1;simp only[bP,cF.entsOfL,JGL L h1];exact OR h;cases h
end
theorem ZN{s0 s1:TSt}{ws:List (Nat×Blk)}(f:Fzd s0 s1 ws){b:Nat}{y:TB}(h:s1.sto[b]?=some y):(pH ws b).run (Ju s0)=some (aT (lns s0.sto) y):=by
 have h1:(Ju s1).sto[b]?=some (aT (lns s0.sto) y):=by rw[dX,h,f.2.1];rfl
 rw[f.2.2.1]at h1;grind [xD,uI,pH,dQ,JT]
theorem xI{s0 s1:TSt}{ws:List (Nat×Blk)}(f:Fzd s0 s1 ws): ∀{r acc l:List Nat},tV s1 r acc=some l->(dH ws (r.map .whole) (acc.map .whole)).run (Ju s0)=some (l.map .whole)
 |[],acc,l,h=>by injection h with h;subst h;rfl
 |b::r,acc,l,h=>by
  simp only[tV]at h;split at h;rename_i cs e;split at h;rename_i g j;simp only[bP,dH,run_bind,ZN f e,JL,aT,HV (lns s0.sto) j];exact xI f h;cases h;rename_i x k e;simp only[bP,dH,run_bind,ZN f e,JL];cases x with
  |mbox t cs=>simp_all
  |box t x=>simp only[aT];rw[oc];exact xI f h
  |_=>exact xI f h
  cases h
end
end Go.Am
end
section
namespace Go.Am
def kCs(K:List Nat)(L:Nat->Nat):TC->TC| .slr c=>if K.any (λx=>x==c)=true then .slo c (L c)else .slr c| .ep c i p=>if K.any (λx=>x==c)=true then .epo c (L c) i p else .ep c i p|x=>x
def kAs(K:List Nat)(L:Nat->Nat):TA->TA| .c x=>.c (kCs K L x)| .dt t x=>.dt t x| .m t cs=>.m t (cs.map (kCs K L))| .fn f a c=>.fn f (a.map (kCs K L)) (c.map (kCs K L))
def kVs(K:List Nat)(L:Nat->Nat):TV->TV| .a x=>.a (kAs K L x)| .tup vs=>.tup (vs.map (kAs K L))
def kBs(K:List Nat)(L:Nat->Nat):TB->TB| .mbox t cs=>.mbox t (cs.map (kCs K L))|x=>x
section
variable {K:List Nat} {L L':Nat->Nat} (h: ∀c,K.any (λx=>x==c)=false->L' c=L c)
include h
theorem xn(x:TC):aU L' (kCs K L x)=aU L x:=by cases x<;>grind [kCs,aU]
theorem ze(xs:List TC):(xs.map (kCs K L)).map (aU L')=xs.map (aU L):=by
 grind [List.map_congr_left,xn]
theorem Y1(x:TA):bM L' (kAs K L x)=bM L x:=by cases x<;>simp only[kAs,bM,xn h,ze h]
theorem Yr(x:TV):JY L' (kVs K L x)=JY L x:=by cases x<;>simp only[kVs,JY,Y1 h,wB,Function.comp_def]
theorem Y3(x:TB):aT L' (kBs K L x)=aT L x:=by cases x<;>simp only[kBs,aT,ze h]
end
theorem JIV(K:List Nat)(L:Nat->Nat)(x:TB):lnB (kBs K L x)=lnB x:=by cases x<;>rfl
theorem JIC(sto:List TB)(K:List Nat)(L:Nat->Nat)(c:Nat):lns (sto.map (kBs K L)) c=lns sto c:=by
 unfold lns;rw[fF];cases sto[c]? with
 |none=>rfl
 |some x=>exact JIV K L x
def tC(ws:List (Nat×Bool×TB))(sto:List TB):List TB:=ws.foldl (λσ x=>σ.set x.1 x.2.2) sto
def mI(ws:List (Nat×Bool×TB))(s:TSt):TSt:=
 match ws with
 |[]=>s
 |ws=>
  let K:=(ws.filter λx=> !x.2.1).map (·.1)
  ⟨s.env.map λy=>(y.1,kVs K (lns s.sto) y.2),tC ws (s.sto.map (kBs K (lns s.sto)))⟩
theorem ZE: ∀{ws:List (Nat×Bool×TB)} {sto:List TB} {c:Nat},c∉ws.map (·.1)->(tC ws sto)[c]?=sto[c]?|[],_,_,_=>rfl|x::ws,sto,c,h=>by simp only[bP,bZ,not_or]at h;show(tC ws (sto.set x.1 x.2.2))[c]?=_;rw[ZE h.2,DZ (λe=>h.1 e.symm)]
theorem Bt: ∀{ws:List (Nat×Bool×TB)} {sto:List TB},(ws.map (·.1)).Nodup-> ∀x∈ws,x.1<sto.length->(tC ws sto)[x.1]?=some x.2.2
 |[],_,_,x,e,_=>by cases e
 |y::ws,sto,g,x,e,h=>by
  simp only[bP,List.nodup_cons]at g;show(tC ws (sto.set y.1 y.2.2))[x.1]?=_;rcases bZ.1 e with rfl|e;grind [ZE];exact Bt g.2 x e (by simpa using h)
theorem ma(f:TB->Blk): ∀(ws:List (Nat×Bool×TB)) (sto:List TB),(tC ws sto).map f=upd (ws.map λx=>(x.1,f x.2.2)) (sto.map f)
 |[],_=>rfl
 |x::ws,sto=>by show(tC ws (sto.set x.1 x.2.2)).map f=upd (ws.map λx=>(x.1,f x.2.2)) ((sto.map f).set x.1 (f x.2.2));rw[ma f ws,List.map_set]
theorem JIY{ws:List (Nat×Bool×TB)}{s:TSt}(hn:(ws.map (·.1)).Nodup)(hl: ∀x∈ws,x.1<s.sto.length)(hf: ∀x∈ws,x.2.1=true->lnB x.2.2=lns s.sto x.1):
  Ju (mI ws s)=⟨(Ju s).env,upd (ws.map λx=>(x.1,aT (lns (mI ws s).sto) x.2.2)) (Ju s).sto⟩/\ ∀x∈ws,lns (mI ws s).sto x.1=lnB x.2.2:=by
 cases ws with
 |nil=>exact⟨rfl,λx g=>by cases g⟩
 |cons x0 j=>
  generalize k:x0::j=ws at*;have e:mI ws s=⟨s.env.map λy=>(y.1,kVs ((ws.filter λx=> !x.2.1).map (·.1)) (lns s.sto) y.2),tC ws (s.sto.map (kBs ((ws.filter λx=> !x.2.1).map (·.1)) (lns s.sto)))⟩:=by subst k;rfl
  have h: ∀x∈ws,lns (mI ws s).sto x.1=lnB x.2.2:=λx g=>by rw[e];unfold lns;rw[Bt hn x g (by grind)];rfl
  have o: ∀c,((ws.filter λx=> !x.2.1).map (·.1)).any (λx=>x==c)=false->lns (mI ws s).sto c=lns s.sto c:=(by intro c hc;by_cases n:c∈ws.map (·.1);obtain⟨x,g,rfl⟩:=iA.1 n;grind;rw[e];have:=JIC s.sto ((ws.filter λx=> !x.2.1).map (·.1)) (lns s.sto) c;grind [lns,ZE]);refine⟨?_,h⟩;generalize hL:lns (mI ws s).sto=L' at*;unfold Ju;rw[hL,e];grind [fB,List.map_congr_left,Yr,ma,Y3]
theorem Bp(b:Nat): ∀(ids:List Nat) (k:Nat),cS (.whole b) (ids.map .whole) k=dV b ids k
 |[],_=>rfl
 |x::r,k=>by
  simp only[bP,cS,dV];by_cases h:x=b;subst h;simp;simp[h,Bp b r (k+1)]
def LG(ids:List Nat):TC->Option TC| .ptr b p=>(dV b ids 0).bind λk=>some (.ptr k p)| .slr b=>(dV b ids 0).bind λk=>some (.slr k)| .slo b n=>(dV b ids 0).bind λk=>some (.slo k n)| .ep _ _ _=>none| .epo _ _ _ _=>none|x=>some x
def wP(ids:List Nat):List TC->Option (List TC)|[]=>some []|x::r=>match LG ids x,wP ids r with|some y,some l=>some (y::l)|_,_=>none
def FT(ids:List Nat):TA->Option TA
 | .c x=>match LG ids x with|some y=>some (.c y)|none=>none
 | .dt t x=>some (.dt t x)
 | .m t cs=>match wP ids cs with|some l=>some (.m t l)|none=>none
 | .fn f a c=>match wP ids a,wP ids c with|some a,some c=>some (.fn f a c)|_,_=>none
def MK(ids:List Nat):List TA->Option (List TA)|[]=>some []|x::r=>match FT ids x,MK ids r with|some y,some l=>some (y::l)|_,_=>none
def WE(ids:List Nat):TB->Option TB
 | .box t x=>some (.box t x)
 | .mbox t cs=>match wP ids cs with|some l=>some (.mbox t l)|none=>none
 | .arr w t rows=>some (.arr w t rows)
 | .dead=>none
def uO(ids:List Nat)(s:TSt):List Nat->Option (List TB)
 |[]=>some []
 |b::r=>match s.sto[b]? with
  |some x=>match WE ids x,uO ids s r with|some y,some l=>some (y::l)|_,_=>none
  |none=>none
section
variable {ids:List Nat} {L L':Nat->Nat} (hL: ∀b k,dV b ids 0=some k->L' k=L b)
include hL
theorem lw{x y:TC}(h:LG ids x=some y):ren (λe=>cS e (ids.map .whole) 0) (aU L x)=some (aU L' y):=by
 cases x<;>simp only[LG]at h<;>first
  |(obtain⟨k,g,h⟩:=bG.1 h
    injection h with h;subst h;simp only[aU,ren,Bp,g,cL]
    try rw[hL _ _ g]
    done)
  |(injection h with h;subst h;rfl)
  |cases h
theorem NX: ∀{xs g:List TC},wP ids xs=some g->ren.renL (λe=>cS e (ids.map .whole) 0) (xs.map (aU L))=some (g.map (aU L'))
 |[],g,h=>by injection h with h;subst h;rfl
 |x::r,g,h=>by
  simp only[wP]at h;split at h;rename_i y l k j;injection h with h;subst h;simp only[bP,ren.renL,lw hL k,NX j];cases h
theorem JGu{x y:TA}(h:FT ids x=some y):ren (λe=>cS e (ids.map .whole) 0) (bM L x)=some (bM L' y):=by
 cases x with
 |c x=>
  simp only[FT]at h;split at h;rename_i y g;injection h with h;subst h;exact lw hL g;cases h
 |dt t x=>injection h with h;subst h;rfl
 |m t cs=>
  grind [FT,bM,ren,NX]
 |fn f a c=>
  grind [FT,bM,ren,NX]
theorem ns: ∀{xs g:List TA},MK ids xs=some g->ren.renL (λe=>cS e (ids.map .whole) 0) (xs.map (bM L))=some (g.map (bM L'))
 |[],g,h=>by injection h with h;subst h;rfl
 |x::r,g,h=>by
  simp only[MK]at h;split at h;rename_i y l k j;injection h with h;subst h;simp only[bP,ren.renL,JGu hL k,ns j];cases h
theorem ou{s0 s1:TSt}{ws:List (Nat×Blk)}(f:Fzd s0 s1 ws)(j:lns s0.sto=L): ∀{k:List Nat} {bl:List TB},uO ids s1 k=some bl->
  (jJ ws (λe=>cS e (ids.map .whole) 0) (k.map .whole)).run (Ju s0)=some (bl.map (aT L'))
 |[],bl,h=>by injection h with h;subst h;rfl
 |b::r,bl,h=>by
  simp only[uO]at h;split at h;rename_i x o;split at h;rename_i y l g q;injection h with h;subst h;have ih:=ou f j q;have n:=ZN f o;rw[j]at n;simp only[bP,jJ,wV,run_bind,n,JL];cases x with
  |dead=>cases g
  |box t x=>injection g with g;grind [nk,UC,aT,JT]
  |mbox t cs=>
   grind [WE,aT,NX,JT]
  |arr w t rows=>injection g with g;grind [aT,JT]
  cases h;cases h
end
theorem po{ids:List Nat}{s:TSt}: ∀{g:List Nat} {bl:List TB},uO ids s g=some bl->bl.length=g.length/\ ∀(k b:Nat),g[k]?=some b->lns bl k=lns s.sto b
 |[],bl,h=>by injection h with h;simp_all
 |b::r,bl,h=>by
  simp only[uO]at h;split at h;rename_i x n;split at h;rename_i y l e o;injection h with h;subst h;obtain⟨h1,h2⟩:=po o;refine⟨by simp[h1],λk c j=>?_⟩;cases k with
  |zero=>
   simp at j;subst j;unfold lns;rw[n];show lnB y=lnB x;cases x with
   |dead=>cases e
   |box t x=>injection e with e;subst e;rfl
   |mbox t cs=>
    simp only[WE]at e;split at e;injection e with e;subst e;rfl;cases e
   |arr w t rows=>injection e with e;subst e;rfl
  |succ k=>
   grind [lns]
  cases h;cases h
def eL(ids:List Nat)(new m k:Nat):Option Nat:=if k<ids.length then ids[k]? else if k<m then some (new+(k-ids.length))else none
def RZ(ids:List Nat)(new m:Nat):TC->Option TC| .ptr k p=>(eL ids new m k).bind λb=>some (.ptr b p)| .slr k=>(eL ids new m k).bind λb=>some (.slr b)| .slo k n=>(eL ids new m k).bind λb=>some (.slo b n)| .ep k i p=>(eL ids new m k).bind λb=>some (.ep b i p)| .epo k e i p=>(eL ids new m k).bind λb=>some (.epo b e i p)|x=>some x
def wJ(ids:List Nat)(new m:Nat):List TC->Option (List TC)|[]=>some []|x::r=>match RZ ids new m x,wJ ids new m r with|some y,some l=>some (y::l)|_,_=>none
def SO(ids:List Nat)(new m:Nat):TA->Option TA
 | .c x=>match RZ ids new m x with|some y=>some (.c y)|none=>none
 | .dt t x=>some (.dt t x)
 | .m t cs=>match wJ ids new m cs with|some l=>some (.m t l)|none=>none
 | .fn f a c=>match wJ ids new m a,wJ ids new m c with|some a,some c=>some (.fn f a c)|_,_=>none
def LP(ids:List Nat)(new m:Nat):List TA->Option (List TA)|[]=>some []|x::r=>match SO ids new m x,LP ids new m r with|some y,some l=>some (y::l)|_,_=>none
def gl(ids:List Nat)(new m:Nat):TV->Option TV
 | .a x=>match SO ids new m x with|some y=>some (.a y)|none=>none
 | .tup vs=>match LP ids new m vs with|some l=>some (.tup l)|none=>none
def wD(ids:List Nat)(new m:Nat):TB->Option TB
 | .box t x=>some (.box t x)
 | .mbox t cs=>match wJ ids new m cs with|some l=>some (.mbox t l)|none=>none
 | .arr w t rows=>some (.arr w t rows)
 | .dead=>none
section
variable {ids:List Nat} {new m:Nat} {L Lp:Nat->Nat} (hL: ∀k b,eL ids new m k=some b->Lp b=L k)
theorem JL3{k b o:Nat}(h:eL ids new m k=some b):bk (ids.map .whole) new (.ptr k o)=some (.ptr b o):=by
 grind [eL,bk]
theorem JKn{k b i n:Nat}(h:eL ids new m k=some b):bk (ids.map .whole) new (.slr k i n)=some (.slr b i n):=by
 grind [eL,bk]
theorem Zo{k b e i o:Nat}(h:eL ids new m k=some b):bk (ids.map .whole) new (.ep k e i o)=some (.ep b e i o):=by
 grind [eL,bk]
include hL
theorem Ct{x y:TC}(h:RZ ids new m x=some y):bk (ids.map .whole) new (aU L x)=some (aU Lp y):=by
 cases x<;>simp only[RZ]at h<;>first
  |(obtain⟨b,e,h⟩:=bG.1 h
    injection h with h;subst h;simp only[aU,JL3 e,JKn e,Zo e,hL _ _ e]
    done)
  |(injection h with h;subst h;rfl)
theorem NC: ∀{xs e:List TC},wJ ids new m xs=some e->bk.bkL (ids.map .whole) new (xs.map (aU L))=some (e.map (aU Lp))
 |[],e,h=>by injection h with h;subst h;rfl
 |x::r,e,h=>by
  simp only[wJ]at h;split at h;rename_i y l j g;injection h with h;subst h;simp only[bP,bk.bkL,Ct hL j,NC g];cases h
theorem Di{x y:TA}(h:SO ids new m x=some y):bk (ids.map .whole) new (bM L x)=some (bM Lp y):=by cases x<;>grind [SO,Ct,bM,bk,NC]
theorem lc: ∀{xs e:List TA},LP ids new m xs=some e->bk.bkL (ids.map .whole) new (xs.map (bM L))=some (e.map (bM Lp))
 |[],e,h=>by injection h with h;subst h;rfl
 |x::r,e,h=>by
  simp only[LP]at h;split at h;rename_i y l j g;injection h with h;subst h;simp only[bP,bk.bkL,Di hL j,lc g];cases h
theorem JHS{x y:TV}(h:gl ids new m x=some y):bk (ids.map .whole) new (JY L x)=some (JY Lp y):=by cases x<;>grind [gl,Di,JY,bk,lc]
end
end Go.Am
end
section
namespace Go.Am
structure TG where
 go: ∀{R:Type},FuncId->List TA->List TB->(TV->List (Bool×TB)->Option R)->Option R
def nJ(out:List (Bool×TB)):Nat->Nat:=lns (out.map (·.2))
structure GOk(F:Orc)(G:TG):Prop where
 ok: ∀{R:Type} {f:FuncId} {xs:List TA} {bl:List TB} {kk:TV->List (Bool×TB)->Option R} {r:R},G.go f xs bl kk=some r->
  ∃v out,F f (xs.map (bM (lns bl))) (bl.map (aT (lns bl)))=some (JY (nJ out) v,out.map λx=>aT (nJ out) x.2)/\
   (∀(k:Nat) x,out[k]?=some (true,x)->k<bl.length->lnB x=lns bl k)/\kk v out=some r
def oA(ids:List Nat)(new m:Nat):Nat->List (Bool×TB)->Option (List (Nat×Bool×TB))|_,[]=>some []|k,(s,x)::r=>match eL ids new m k,wD ids new m x,oA ids new m (k+1) r with|some b,some y,some l=>some ((b,s&&decide (k<ids.length),y)::l)|_,_,_=>none
section
variable {R:Type}
def jc(e:Bool)(a b n:Nat):Bool:=if e=true then decide (a<=b/\b<=a+n)else decide (b=a+n)
theorem JEo{e:Bool}{a b n:Nat}(h:jc e a b n=true):(if e=true then a<=b/\b<=a+n else b=a+n)/\a<=b/\b<=a+n:=by
 grind [jc]
def AZ(G:TG)(f:FuncId)(args:List (TV×Bool))(e:Bool)(n:Nat)(d:Option Nat)(new:Nat)(s:TSt)(kk:TSt->Option R):Option R:=
 FJ args s λxs s1=>
 match BK xs []with
 |none=>none
 |some g=>match tV s1 g g with
  |none=>none
  |some i1=>match tV s1 i1 i1 with
   |none=>none
   |some ids=>if iK ids=true then
    match MK ids xs,uO ids s1 ids with
    |some j,some bl=>G.go f j bl λv out=>
     if jc e ids.length out.length n=true then
      match gl ids new out.length v,oA ids new out.length 0 out with
      |some h,some ws=>if iK (ws.map (·.1))=true then kk (aY d h (mI ws s1))else none
      |_,_=>none
     else none
    |_,_=>none
    else none
theorem kv{ids:List Nat}{new m:Nat}{x y:TB}(h:wD ids new m x=some y):lnB y=lnB x:=by
 cases x with
 |dead=>cases h
 |box t x=>injection h with h;subst h;rfl
 |mbox t cs=>
  simp only[wD]at h;split at h;injection h with h;subst h;rfl;cases h
 |arr w t rows=>injection h with h;subst h;rfl
theorem ml{ids:List Nat}{new m:Nat}: ∀{k:Nat} {out:List (Bool×TB)} {ws:List (Nat×Bool×TB)},oA ids new m k out=some ws->
  ws.length=out.length/\ ∀(j:Nat) s x,out[j]?=some (s,x)-> ∃b y,eL ids new m (k+j)=some b/\wD ids new m x=some y/\ws[j]?=some (b,s&&decide (k+j<ids.length),y)
 |k,[],ws,h=>by injection h with h;simp_all
 |k,(s,x)::r,ws,h=>by
  simp only[oA]at h;split at h;rename_i b y l q o e;injection h with h;subst h;obtain⟨h1,h2⟩:=ml e;refine⟨by simp[h1],λj s' g n=>?_⟩;cases j<;>grind
  cases h
theorem JHj{l:List Nat}(h:iK l=true):l.Nodup:=PC h
theorem Eu{ids:List Nat}(h:iK ids=true):iK ((ids.map Ent.whole).map Ent.id)=true:=by rw[wB,show Ent.id∘Ent.whole=id from rfl,List.map_id];exact h
theorem l5{ids:List Nat}{new m:Nat}{L Lp:Nat->Nat}(hL: ∀k b,eL ids new m k=some b->Lp b=L k){ws0:List (Nat×Blk)}{st:St}: ∀{j:Nat} {es:List Nat} {out:List (Bool×TB)} {ws:List (Nat×Bool×TB)},
  (∀(i:Nat) b,es[i]?=some b->ids[j+i]?=some b)->j+es.length=ids.length->es.length<=out.length->oA ids new m j out=some ws->
  (hQ ws0 (ids.map .whole) new (es.map .whole) (out.map λx=>aT L x.2)).run st=some ((ws.take es.length).map λx=>(x.1,aT Lp x.2.2))
 |j,[],out,ws,_,_,_,h=>by simp[hQ]
 |j,b::es,[],ws,_,_,hl,h=>by simp at hl
 |j,b::es,(s,x)::out,ws,he,hj,hl,h=>by
  simp only[oA]at h;split at h;rename_i e y l r v n;injection h with h;subst h;have ih:=l5 hL (ws0:=ws0) (st:=st) (j:=j+1) (es:=es) (out:=out) (ws:=l) (λi c hc=>by
   have:=he (i+1) c (by simpa using hc);grind) (by grind) (by simpa using hl) n
  have g:e=b:=(by have q:=he 0 b (by simp);grind [eL]);subst g;simp only[bP,hQ,run_bind];have o:(rT ws0 (ids.map .whole) new (.whole e) (aT L x)).run st=some (e,aT Lp y):=by cases x<;>grind [BJ,rT,ZZ,UC,JT,wD,GZ,NC,WA]
  simp_all;cases h
theorem li{ids:List Nat}{new m:Nat}{L Lp:Nat->Nat}(hL: ∀k b,eL ids new m k=some b->Lp b=L k): ∀{j:Nat} {out:List (Bool×TB)} {ws:List (Nat×Bool×TB)},
  oA ids new m (ids.length+j) out=some ws->gE (ids.map .whole) new (new+j) (out.map λx=>aT L x.2)=some (ws.map λx=>(x.1,aT Lp x.2.2))
 |j,[],ws,h=>by injection h with h;subst h;rfl
 |j,(s,x)::out,ws,h=>by
  simp only[oA]at h;split at h;rename_i o y l q e n;injection h with h;subst h;have ih:=li hL (j:=j+1) n;have g:o=new+j:=(by grind [eL]);subst g;cases x with
  |dead=>cases e
  |box t x=>injection e with e;grind [BJ,gE,ZZ,UC]
  |mbox t cs=>
   grind [wD,GZ,gE,NC]
  |arr w t rows=>injection e with e;grind [WA,gE]
  cases h
theorem o9{ids:List Nat}{new m:Nat}: ∀{n k:Nat} {out:List (Bool×TB)} {ws:List (Nat×Bool×TB)},oA ids new m k out=some ws->oA ids new m (k+n) (out.drop n)=some (ws.drop n)
 |0,k,out,ws,h=>h
 |n+1,k,[],ws,h=>by injection h with h;subst h;rfl
 |n+1,k,(s,x)::out,ws,h=>by
  simp only[oA]at h;split at h;rename_i b y l j g e;injection h with h;subst h;have:=o9 (n:=n) e;grind;cases h
theorem PH{F:Orc}{G:TG}(hG:GOk F G){f:FuncId}{args:List (TV×Bool)}{A:Bool}{n:Nat}{d:Option Nat}{new:Nat}{s:TSt}{kk:TSt->Option R}{r:R}
  (hd:mM s new n=true) (h:AZ G f args A n d new s kk=some r):
  ∃xs ws B es z blks v res E fresh,(eQ (args.map (·.2)) (args.map λx=>JY (lns s.sto) x.1)).run (Ju s)=some (xs,ws)/\
   (dH ws (cF.entsOfL xs []) (cF.entsOfL xs [])).run (Ju s)=some B/\(dH ws B B).run (Ju s)=some es/\iK (es.map Ent.id)=true/\
   ren.renL (λe=>cS e es 0) xs=some z/\(jJ ws (λe=>cS e es 0) es).run (Ju s)=some blks/\F f z blks=some res/\
   (if A=true then es.length<=res.2.length/\res.2.length<=es.length+n else res.2.length=es.length+n)/\bk es new res.1=some v/\gE es new new (res.2.drop es.length)=some fresh/\
   (hQ ws es new es res.2).run (Ju s)=some E/\ ∃s',put d ⟨v,ws++E++fresh⟩ (Ju s)=Ju s'/\kk s'=some r:=by
 unfold AZ at h;obtain⟨xs,s1,ws,h1,q,h⟩:=YP (Fzd.refl s) h;rw[iX]at q;split at h;cases h;rename_i i0 V;split at h;cases h;rename_i i1 S;split at h;cases h;rename_i ids M;split at h;rename_i Y;split at h;rename_i ys bl U L;obtain⟨v,out,hF,a1,h⟩:=hG.ok h;split at h;rename_i hlen;split at h;rename_i O g W o;split at h;rename_i N;have e0:cF.entsOfL (xs.map (bM (lns s.sto))) []=i0.map .whole:=OR (lns s.sto) (l:=[]) V;have e1:=xI q S;have e2:=xI q M;obtain⟨ak,Z⟩:=po L;have hL: ∀b k,dV b ids 0=some k->lns bl k=lns s.sto b:=by intro b k P;obtain⟨_,P⟩:=OV P;rw[Z k b (by simpa using P),q.2.1]
 have e3:=ns hL U;have e4:=ou hL q rfl L;obtain⟨b1,b2⟩:=ml o;have a6: ∀(j:Nat),nJ out j=match out[j]? with
   |some x=>lnB x.2
   |none=>0:=by
  intro j;unfold nJ lns;rw[fF];cases out[j]?<;>rfl
 have Q: ∀(k b:Nat),ids[k]?=some b->b<s1.sto.length:=by
  have al: ∀(C:List Nat) (bl:List TB),uO ids s1 C=some bl-> ∀(k b:Nat),C[k]?=some b->b<s1.sto.length:=by
   intro C
   induction C with
   |nil=>simp_all
   |cons c C ih=>
    grind [uO]
  grind
 have a4:s1.sto.length=s.sto.length:=(by have:=congrArg (λst=>st.sto.length) q.2.2.1;grind [Ju,xD]);obtain⟨a3,K,a2⟩:=JEo hlen;have a0:=uP hd;have ab: ∀x∈g,∃(j:Nat) (T:Bool) (y:TB),out[j]?=some (T,y)/\eL ids new out.length j=some x.1/\wD ids new out.length y=some x.2.2/\x.2.1=(T&&decide (j<ids.length)):=by
  intro x hx;obtain⟨j,hj⟩:=fH hx;have w:j<out.length:=by grind
  obtain⟨b,y,q1,q2,I⟩:=b2 j (out[j]'w).1 (out[j]'w).2 (zQ9 w);rw[hj]at I;injection I with I;rw[mJ]at q1 I;exact⟨j,_,_,zQ9 w,by simp_all,by simp_all,by rw[I];rfl⟩
 have H: ∀x∈g,x.1<s1.sto.length:=(by grind [eL,Jp]);have J: ∀x∈g,x.2.1=true->lnB x.2.2=lns s1.sto x.1:=(by grind [kv,eL]);obtain⟨w1,w2⟩:=JIY (JHj N) H J;have D: ∀k b,eL ids new out.length k=some b->lns (mI g s1).sto b=nJ out k:=(by grind [eL,kv]);have e5:=JHS D W;have e6:=l5 D (ws0:=ws) (st:=Ju s) (j:=0) (es:=ids) (out:=out) (ws:=g) (λi b hb=>by grind) (by omega) K o;have e7:=li D (j:=0) (out:=out.drop ids.length) (ws:=g.drop ids.length) (by have:=o9 (n:=ids.length) o;grind);rw[rA]at e7;refine⟨xs.map (bM (lns s.sto)),ws,i1.map .whole,ids.map .whole,_,_,JY (lns (mI g s1).sto) O,_,_,(g.drop ids.length).map (λx=>(x.1,aT (lns (mI g s1).sto) x.2.2)),h1,?_,e2,Eu Y,e3,e4,hF,?_,e5,?_,e6,aY d O (mI g s1),?_,h⟩;grind;grind;grind [List.map_drop];refine pX ?_ d O;rw[w1,q.2.2.1];simp[eF];cases h;cases h;cases h;cases h;cases h
end
end Go.Am
end
section
namespace Go.Am
inductive TOp where
 |mv (x:TO)
 |mkarr (t:Ty) (x:TO)
 |pick (c a b:TO)
 |newbox (t:Ty)
 |box (t:Ty) (x:TO)
 |build (t:Ty) (parts:List (Nat×Ty×TO))
 |lits (own:Bool) (t:Ty) (n:Nat) (parts:List (Nat×TO))
 |load (agg:Bool) (t:Ty) (x:TO)
 |store (t:Ty) (x v:TO)
 |nilchk (x:TO)
 |bin (op:BinOp) (bt:TBT) (x y:TO)
 |un (op:UnOp) (x:TO)
 |conv (k:CK) (x:TO)
 |mkslice (own:Bool) (t:Ty) (bytes:Nat) (l c:TO)
 |slice (k:TSK) (x:TO) (lo hi mx:Option TO)
 |faddr (off:Nat) (x:TO)
 |field (agg:Bool) (off:Nat) (t:Ty) (x:TO)
 |iaddr (t:Ty) (x i:TO)
 |aaddr (len esz:Nat) (x i:TO)
 |sidx (x i:TO)
 |aidx (agg:Bool) (len:Nat) (t:Ty) (x i:TO)
 |extr (x:TO) (i:Nat)
 |call (f:FuncId) (args:List TO) (k:Nat)
 |callo (f:FuncId) (args:List (TO×Bool)) (k:Nat)
 |callv (g:TO) (args:List TO) (k:Nat)
 |len (str:Bool) (x:TO)
 |alen (n:Nat)
 |app (t:Ty) (bytes:Nat) (x y:TO)
 |appn (t:Ty) (bytes:Nat) (y:TO)
 |appz (t:Ty) (bytes:Nat) (x y:TO)
 |appc (t:Ty) (bytes:Nat) (x y:TO)
 |mm (mx:Bool) (x y:TO)
 |mkfn (f:FuncId) (first caps:List TO)
 |newboxo (t:Ty) (os:List (Nat×Ty))
 |buildo (t:Ty) (parts:List (Nat×Ty×TO)) (os:List (Nat×Ty))
 |storen (t:Ty) (x:TO)
def zer(t:Ty):List PV:=cel t t.zero
def erp:TOp->AOp
 | .mv x=>.mv (erO x)
 | .mkarr t x=>.mkarr t.sz (erO x)
 | .pick c a b=>.pick (erO c) (erO a) (erO b)
 | .newbox t=>.newbox (zer t)
 | .box t x=>.box t.sz (erO x)
 | .build t parts=>.build (zer t) (erP parts)
 | .lits own t n parts=>.lits own t.sz n (zer t) (parts.map λx=>(x.1,erO x.2))
 | .load agg t x=>.load agg t.sz (erO x)
 | .store t x v=>.store t.sz (erO x) (erO v)
 | .nilchk x=>.nilchk (erO x)
 | .bin op bt x y=>.bin op (erT bt) (erO x) (erO y)
 | .un op x=>.un op (erO x)
 | .conv k x=>.conv k (erO x)
 | .mkslice own t bytes l c=>.mkslice own t.sz bytes (zer t) (erO l) (erO c)
 | .slice k x lo hi mx=>.slice (erK k) (erO x) (lo.map erO) (hi.map erO) (mx.map erO)
 | .faddr off x=>.faddr off (erO x)
 | .field agg off t x=>.field agg off t.sz (erO x)
 | .iaddr t x i=>.iaddr t.sz (erO x) (erO i)
 | .aaddr len esz x i=>.aaddr len esz (erO x) (erO i)
 | .sidx x i=>.sidx (erO x) (erO i)
 | .aidx agg len t x i=>.aidx agg len t.sz (erO x) (erO i)
 | .extr x i=>.extr (erO x) i
 | .call f args k=>.call f (args.map erO) k
 | .callo f args k=>.callo f (args.map (·.2)) (args.map λx=>erO x.1) k
 | .callv g args k=>.callv (erO g) (args.map erO) k
 | .len str x=>.len str (erO x)
 | .alen n=>.alen n
 | .app t bytes x y=>.app t.sz bytes (zer t) (erO x) (erO y)
 | .appn t bytes y=>.appn t.sz bytes (zer t) (erO y)
 | .appz t bytes x y=>.appz t.sz bytes (zer t) (erO x) (erO y)
 | .appc t bytes x y=>.appc t.sz bytes (zer t) (erO x) (erO y)
 | .mm mx x y=>.mm mx (erO x) (erO y)
 | .mkfn f first caps=>.mkfn f (first.map erO) (caps.map erO)
 | .newboxo t os=>.newboxo (zer t) (jW os)
 | .buildo t parts os=>.buildo (zer t) (erP parts) (jW os)
 | .storen t x=>.storen t.sz (erO x)
def bV:TOp->Nat| .newbox _| .box _ _| .mkarr _ _| .appn _ _ _| .appc _ _ _ _=>1| .lits own _ _ _=>if own=true then 1 else 0| .mkslice own _ _ _ _=>if own=true then 1 else 0| .conv (.toBytes own) _=>if own=true then 1 else 0| .call _ _ k| .callv _ _ k| .callo _ _ k=>k| .newboxo _ os=>os.length+1| .buildo _ _ os=>os.length| .storen _ _=>1|_=>0
theorem HK(op:TOp):kD (erp op)=bV op:=by
 cases op<;>try rfl
 rename_i k x;cases k<;>rfl
 all_goals simp[erp,bV,jW]
def tG:List (TO×Bool)->TSt->Option (List (TV×Bool))|[],_=>some []|(o,x)::r,s=>match tev o s,tG r s with|some v,some l=>some ((v,x)::l)|_,_=>none
theorem xE{s:TSt}: ∀{xs:List (TO×Bool)} {l:List (TV×Bool)},tG xs s=some l->
  (evs (xs.map λx=>erO x.1)).run (Ju s)=some (l.map λx=>JY (lns s.sto) x.1)/\l.map (·.2)=xs.map (·.2)
 |[],l,h=>by injection h with h;simp_all
 |(o,x)::q,l,h=>by
  simp only[tG]at h;split at h;rename_i v j e g;injection h with h;subst h;obtain⟨h1,h2⟩:=xE g;exact⟨by simp only[bP,evs,run_bind,bN e,JL,h1,JT],by simp[h2]⟩;cases h
section
variable {R:Type}
def top(G:TG)(op:TOp)(d:Option Nat)(new:Nat)(s:TSt)(k:TSt->Option R):Option R:=
 match op with
 | .mv x=>match tev x s with|some v=>k (aY d v s)|none=>none
 | .mkarr t _=>Al t d new s k
 | .pick c a b=>match tev c s with|some (.a (.c (.d .b x)))=>ju x (tev a s) (tev b s) λv=>k (aY d v s)|_=>none
 | .newbox t=>B7 t d new s k
 | .box t x=>match tev x s with|some v=>gv t v d new s k|none=>none
 | .build t parts=>WI t parts d s k
 | .lits own t n parts=>jj own t n parts d new s k
 | .load agg t x=>match tev x s with|some v=>j7 agg t v d s k|none=>none
 | .store t x y=>match tev x s,tev y s with|some v,some u=>WG t v u d s k|_,_=>none
 | .nilchk x=>match tev x s with|some v=>gm v λv=>k (aY d v s)|none=>none
 | .bin op bt x y=>match tev x s,tev y s with|some v,some u=>g6 op bt v u λv=>k (aY d v s)|_,_=>none
 | .un op x=>match tev x s with|some v=>tUn op v λv=>k (aY d v s)|none=>none
 | .conv c x=>match tev x s with|some v=>jx c v d new s k|none=>none
 | .mkslice own t bytes l c=>match tev l s,tev c s with|some v,some u=>YS own t bytes v u d new s k|_,_=>none
 | .slice e x lo hi mx=>match tev x s,tbn lo s,tbn hi s,tbn mx s with|some v,some a,some b,some c=>VU e v a b c d s k|_,_,_,_=>none
 | .faddr off x=>match tev x s with|some v=>WU off v λv=>k (aY d v s)|none=>none
 | .field agg off t x=>match tev x s with|some v=>WJ agg off t v d s k|none=>none
 | .iaddr t x i=>match tev x s,tev i s with|some v,some u=>WH t v u s λv=>k (aY d v s)|_,_=>none
 | .aaddr len esz x i=>match tev x s,tev i s with|some v,some u=>WR len esz v u λv=>k (aY d v s)|_,_=>none
 | .sidx x i=>match tev x s,tev i s with|some v,some u=>j9 v u λv=>k (aY d v s)|_,_=>none
 | .aidx agg len t x i=>match tev x s,tev i s with|some v,some u=>iy agg len t v u d s k|_,_=>none
 | .extr x i=>match tev x s with|some v=>jy v i λv=>k (aY d v s)|none=>none
 | .call f args n=>match tG (args.map λx=>(x,false)) s with|some l=>AZ G f l false n d new s k|none=>none
 | .callo f args n=>match tG args s with|some l=>AZ G f l true n d new s k|none=>none
 | .callv g args n=>match tev g s,tG (args.map λx=>(x,false)) s with|some (.a (.fn f a c)),some l=>AZ G f (a.map (λx=>(.a (.c x),false))++l++c.map (λx=>(.a (.c x),false))) false n d new s k|some (.a (.c (.fn f))),some l=>AZ G f l false n d new s k|_,_=>none
 | .len str x=>match tev x s with|some v=>iu str v s λv=>k (aY d v s)|none=>none
 | .alen n=>k (aY d (vi .i64 n) s)
 | .app t bytes x y=>match tev x s,tev y s with|some v,some u=>QP t bytes v u d s k|_,_=>none
 | .appn t bytes y=>match tev y s with|some u=>i5 t bytes u d new s k|none=>none
 | .appz t bytes x y=>match tev x s,tev y s with|some v,some u=>iz t bytes v u d s k|_,_=>none
 | .appc t bytes x y=>match tev x s,tev y s with|some v,some u=>jl t bytes v u d new s k|_,_=>none
 | .mm mx x y=>match tev x s,tev y s with|some v,some u=>tMm mx v u λv=>k (aY d v s)|_,_=>none
 | .mkfn f first caps=>match tcl first s,tcl caps s with|some a,some c=>k (aY d (.a (.fn f a c)) s)|_,_=>none
 | .newboxo t os=>YY t os d new s k
 | .buildo t parts os=>YG t parts os d new s k
 | .storen t x=>match tev x s with|some v=>XZ t v d new s k|none=>none
theorem YW{F:Orc}{f:FuncId}{vs xs g:List AV}{ws:List (Nat×Blk)}{h es:List Ent}{blks:List Blk}{v:AV}{res:Res}{j fresh:List (Nat×Blk)}{n new:Nat}{st:St}
  (h1:(jB vs).run st=some (xs,ws)) (h2:(dH ws (cF.entsOfL xs []) (cF.entsOfL xs [])).run st=some h) (h3:(dH ws h h).run st=some es) (h4:iK (es.map Ent.id)=true)
  (h5:ren.renL (λe=>cS e es 0) xs=some g) (r:(jJ ws (λe=>cS e es 0) es).run st=some blks) (o:F f g blks=some res) (q:res.2.length=es.length+n)
  (w:bk es new res.1=some v) (h10:gE es new new (res.2.drop es.length)=some fresh) (k:(hQ ws es new es res.2).run st=some j):
  (gP F f vs n new).run st=some ⟨v,ws++j++fresh⟩:=by
 simp_all [gP]
theorem JFk{F:Orc}{f:FuncId}{xs g:List AV}{ws:List (Nat×Blk)}{h es:List Ent}{blks:List Blk}{v:AV}{res:Res}{j fresh:List (Nat×Blk)}{n new:Nat}{st:St}
  (h2:(dH ws (cF.entsOfL xs []) (cF.entsOfL xs [])).run st=some h) (h3:(dH ws h h).run st=some es) (h4:iK (es.map Ent.id)=true)
  (h5:ren.renL (λe=>cS e es 0) xs=some g) (r:(jJ ws (λe=>cS e es 0) es).run st=some blks) (o:F f g blks=some res) (q:es.length<=res.2.length/\res.2.length<=es.length+n)
  (w:bk es new res.1=some v) (h10:gE es new new (res.2.drop es.length)=some fresh) (k:(hQ ws es new es res.2).run st=some j):
  (fC F f (xs,ws) n new).run st=some ⟨v,ws++j++fresh⟩:=by
 simp_all [fC]
theorem NR(args:List TO):(args.map λx=>(x,false)).map (λx:TO×Bool=>erO x.1)=args.map erO:=by simp_all
theorem JKe{F:Orc}{G:TG}(L:GOk F G){op:TOp}{d:Option Nat}{new:Nat}{s:TSt}{k:TSt->Option R}{r:R}(hd:mM s new (bV op)=true)(h:top G op d new s k=some r):Ok (opR F (erp op) new) d s k r:=by
 have a3: ∀j,j<bV op->new+j<s.sto.length:=λj hj=>Jp (uP hd j hj);unfold top at h;split at h;split at h;rename_i x _ v o;refine eU (v:=v) ?_ h;simp only[erp,opR,run_bind,bN o,JL,JT];cases h;exact JDX F (by simp_all [bV]) h;split at h;rename_i hc;exact JHk F hc h;cases h;exact JBS F (by have:=uP hd 0 (by simp[bV]);simp_all) h;split at h;rename_i o;exact JHW F (by have:=uP hd 0 (by simp[bV]);simp_all) o h;cases h;exact JEF F new h;rename_i own t n parts;exact JG3 F (λZ=>by simp_all [bV]) h;split at h;rename_i o;obtain⟨e,s',h1,h2,q⟩:=JHi h;exact⟨e,s',by grind [erp,opR,run_bind,bN],h2,q⟩;cases h;split at h;rename_i o w;obtain⟨e,s',h1,h2,q⟩:=JE0 h;exact⟨e,s',by grind [erp,opR,run_bind,bN],h2,q⟩;cases h;split at h;rename_i o;exact JI0 F o h;cases h;split at h;rename_i o w;obtain⟨e,s',h1,h2,q⟩:=(JIA h).ok;exact⟨e,s',by grind [erp,opR,run_bind,bN],h2,q⟩;cases h;split at h;rename_i o;obtain⟨e,s',h1,h2,q⟩:=(JKG h).ok;exact⟨e,s',by grind [erp,opR,run_bind,bN],h2,q⟩;cases h;split at h;rename_i o;exact JGf F o (λZ=>by simp_all [bV]) h;cases h;split at h;rename_i o w;exact Fc F o w (λZ=>by simp_all [bV]) h;cases h;split at h;rename_i h1 h2 q h4;exact JEw F h1 h2 q h4 h;cases h;split at h;rename_i o;obtain⟨e,s',h1,h2,q⟩:=(JEv h).ok;exact⟨e,s',by grind [erp,opR,run_bind,bN],h2,q⟩;cases h;split at h;rename_i o;obtain⟨e,s',h1,h2,q⟩:=JEi h;exact⟨e,s',by grind [erp,opR,run_bind,bN],h2,q⟩;cases h;split at h;rename_i o w;obtain⟨e,s',h1,h2,q⟩:=JEc h;exact⟨e,s',by grind [erp,opR,run_bind,bN],h2,q⟩;cases h;split at h;rename_i o w;obtain⟨e,s',h1,h2,q⟩:=(JEK h).ok;exact⟨e,s',by grind [erp,opR,run_bind,bN],h2,q⟩;cases h;split at h;rename_i o w;exact JHz F o w h;cases h;split at h;rename_i o w;exact JGE F o w h;cases h;split at h;rename_i o;obtain⟨e,s',h1,h2,q⟩:=(JHm h).ok;exact⟨e,s',by grind [erp,opR,run_bind,bN],h2,q⟩;cases h;rename_i f args n;split at h;rename_i l H;obtain⟨C,M⟩:=xE H;rw[NR]at C;obtain⟨xs,ws,I,es,B,blks,v,res,D,fresh,E,W,V,T,S,Q,O,U,N,K,J,s',A,y⟩:=PH L hd h;rw[IK _ _ (λx hx=>by simp_all)]at E;refine⟨_,s',?_,A,y⟩;grind [erp,opR,run_bind,YW,bV];cases h;rename_i f args n;split at h;rename_i l H;obtain⟨C,M⟩:=xE H;obtain⟨xs,ws,I,es,B,blks,v,res,D,fresh,E,W,V,T,S,Q,O,U,N,K,J,s',A,y⟩:=PH L hd h;rw[M]at E;refine⟨_,s',?_,A,y⟩;simp_all [erp,JFk,bV];cases h;rename_i g args n;split at h;rename_i f a c l P H;obtain⟨C,M⟩:=xE H;rw[NR]at C;obtain⟨xs,ws,I,es,B,blks,v,res,D,fresh,E,W,V,T,S,Q,O,U,N,K,J,s',A,y⟩:=PH L hd h;have Y: ∀z:List TC,(z.map (λx=>((TV.a (.c x),false):TV×Bool))).map (λx=>JY (lns s.sto) x.1)=z.map (aU (lns s.sto)):=λz=>by rw[wB];rfl
 rw[IK _ _ (λx hx=>by
  grind),zN,zN,Y,Y]at E
 refine⟨_,s',?_,A,y⟩;simp only[erp,opR,run_bind,bN P,JL,g8,C];grind [YW,bV];rename_i f l P H;obtain⟨C,M⟩:=xE H;rw[NR]at C;obtain⟨xs,ws,I,es,B,blks,v,res,D,fresh,E,W,V,T,S,Q,O,U,N,K,J,s',A,y⟩:=PH L hd h;rw[IK _ _ (λx hx=>by simp_all)]at E;refine⟨_,s',?_,A,y⟩;simp only[erp,opR,run_bind,bN P,JL,yj,C,iX,jX];grind [YW,bV];cases h;split at h;rename_i o;obtain⟨e,s',h1,h2,q⟩:=(JHU h).ok;exact⟨e,s',by grind [erp,opR,run_bind,bN],h2,q⟩;cases h;rename_i n;exact eU (v:=vi .i64 n) rfl h;split at h;rename_i o w;obtain⟨e,s',h1,h2,q⟩:=Bc h;exact⟨e,s',by grind [erp,opR,run_bind,bN],h2,q⟩;cases h;split at h;rename_i w;exact JFR F w (by simp_all [bV]) h;cases h;split at h;rename_i o w;exact JGC F o w h;cases h;split at h;rename_i o w;exact JGs F o w (by simp_all [bV]) h;cases h;split at h;rename_i o w;obtain⟨e,s',h1,h2,q⟩:=(JL5 h).ok;exact⟨e,s',by grind [erp,opR,run_bind,bN],h2,q⟩;cases h;rename_i f first caps
 split at h;rename_i a c ha hc;refine eU (v:=.a (.fn f a c)) ?_ h;simp_all [erp,Aj,g8];cases h;exact Ff F hd h;exact JBN F hd h;split at h;rename_i o;exact JBM F (by have:=uP hd 0 (by simp[bV]);simp_all) o h;cases h
structure iB where
 op:TOp
 dst:Option Nat
 g:Option (Nat×Bool)
def eri(i:iB):bQ:=⟨erp i.op,i.dst,i.g⟩
def rbE(g:Nat)(v:TV):List (Nat×TV)->List (Nat×TV)|[]=>[]|(m,u)::r=>if m=g then(m,v)::r else(m,u)::rbE g v r
def rb(g:Nat)(v:TV)(s:TSt):TSt:=⟨rbE g v s.env,s.sto⟩
theorem WO{g:Nat}{v:TV}{s:TSt}(h:tlk g s.env=some v):rb g v s=s:=by
 have e: ∀env:List (Nat×TV),tlk g env=some v->rbE g v env=env:=by
  intro env
  induction env with
  |nil=>intro h;cases h
  |cons x r ih=>
   grind [tlk,rbE]
 simp_all [rb]
def RX(G:TG)(i:iB)(new:Nat)(s:TSt)(k:TSt->Option R):Option R:=
 match i.g with
 |none=>if mM s new (bV i.op)=true then top G i.op i.dst new s k else none
 |some (g,e)=>match tlk g s.env with
  |some (.a (.c (.d .b x)))=>if x=e then
   (if mM s new (bV i.op)=true then top G i.op i.dst new (rb g (vb e) s) k else none)
   else k (aY i.dst uv (rb g (vb !e) s))
  |some (.tup [])=>k (aY i.dst uv s)
  |_=>none
theorem Cd{F:Orc}{G:TG}(B:GOk F G){i:iB}{new:Nat}{s:TSt}{k:TSt->Option R}{r:R}(h:RX G i new s k=some r):Ok (bS F (eri i) new) i.dst s k r:=by
 have A: ∀{s:TSt},mM s new (bV i.op)=true->top G i.op i.dst new s k=some r->Ok (opD F (erp i.op) new) i.dst s k r:=(by intro s hd h;obtain⟨e,s',h1,h2,w⟩:=JKe B hd h;refine⟨e,s',?_,h2,w⟩;grind [opD,run_bind,HK,lq]);unfold RX at h;split at h;grind [bS,eri];rename_i g n z;split at h;rename_i x j;have o:lk g (Ju s).env=some (.p (.b x)):=by show lk g (fB _ s.env)=_;rw[xA,j];rfl
 split at h;rename_i q;subst q;rw[WO j]at h;split at h;rename_i hd;obtain⟨e,s',h1,h2,w⟩:=A hd h;refine⟨e,s',?_,h2,w⟩;grind [bS,eri,uR];cases h;rename_i q;have y:x= !n:=by clear o j h;cases x<;>cases n<;>first|rfl|grind
 subst y;rw[WO j]at h;refine eU (v:=uv) ?_ h;simp only[bS,eri,z,uR,o,JL];rw[if_neg q];rfl;rename_i j;have o:lk g (Ju s).env=some (.tup []):=by show lk g (fB _ s.env)=_;rw[xA,j];rfl
 refine eU (v:=uv) ?_ h;simp only[bS,eri,z,uR,o,JL,JT];rfl;cases h
def SF(G:TG):List iB->Nat->TSt->(TSt->Option R)->Option R|[],_,s,k=>k s|i::r,new,s,k=>RX G i new s λs=>SF G r (new+bV i.op) s k
theorem Da{F:Orc}{G:TG}(g:GOk F G): ∀{ins:List iB} {new:Nat} {s:TSt} {k:TSt->Option R} {r:R},SF G ins new s k=some r-> ∃s',fJ F (ins.map eri) new (Ju s)=some (Ju s')/\k s'=some r
 |[],new,s,k,r,h=>⟨s,rfl,h⟩
 |i::q,new,s,k,r,h=>by
  simp only[SF]at h;obtain⟨e,s1,h1,h2,h⟩:=Cd g h;obtain⟨j,o,n⟩:=Da g h;grind [fJ,eri,HK]
def FW:List iB->Nat|[]=>0|i::r=>bV i.op+FW r
theorem ZA: ∀ins:List iB,news (ins.map eri)=FW ins
 |[]=>rfl
 |i::r=>by
  simp only[bP,news,FW,ZA r];grind [eri,HK]
def LJ(n:Nat)(s:TSt):TSt:=if n=0 then s else⟨s.env,s.sto++List.replicate n .dead⟩
theorem H4(sto:List TB)(n:Nat):lns (sto++List.replicate n .dead)=lns sto:=by
 funext c
 unfold lns;rcases zQ3 c sto.length with h|h;grind;rw[dE h,nX h,List.getElem?_replicate];split<;>rfl
theorem l9(n:Nat)(s:TSt):Ju (LJ n s)=⟨(Ju s).env,room n (Ju s).sto⟩:=by
 unfold LJ room;split;rfl;unfold Ju;rw[H4];simp only[zN,RV];rfl
end
end Go.Am
end
section
namespace Go.Am
def Rb{α:Type}(S:Nat->Prop)(m:RM α)(st:St):Prop:= ∀b,Loc.blk b∈m.reads st->S b
section
variable {α β:Type} {S:Nat->Prop} {st:St}
theorem bL(a:α):Rb S (.ret a) st:=λb h=>by simp[RM.reads]at h
theorem JS:Rb S (.fail:RM α) st:=λb h=>by simp[RM.reads]at h
theorem bO{m:RM α}{f:α->RM β}(h:Rb S m st)(hf: ∀a,m.run st=some a->Rb S (f a) st):Rb S (m.bind f) st:=by
 intro b e;rw[uU]at e;rcases cH.1 e with e|e;exact h b e;cases hm:m.run st with
 |none=>rw[hm]at e;simp at e
 |some a=>rw[hm]at e;exact hf a hm b (by simpa using e)
theorem oF{b:Nat}{k:Blk->RM α}(hb:S b)(h: ∀v,st.sto[b]?=some v->Rb S (k v) st):Rb S (.blk b k) st:=by
 intro c hc;simp only[RM.reads,bZ]at hc;rcases hc with hc|hc;injection hc with hc;subst hc;exact hb;cases hv:st.sto[b]? with
 |none=>rw[hv]at hc;simp at hc
 |some v=>rw[hv]at hc;exact h v hv c hc
theorem Ck{n:Nat}{k:AV->RM α}(h: ∀v,lk n st.env=some v->Rb S (k v) st):Rb S (.slot n k) st:=by
 intro c hc;simp only[RM.reads,bZ]at hc;rcases hc with hc|hc;cases hc;cases hv:lk n st.env with
 |none=>rw[hv]at hc;simp at hc
 |some v=>rw[hv]at hc;exact h v hv c hc
theorem MS(x:Option AV):Rb S (val x) st:=by cases x<;>first|exact JS|exact bL _
theorem jC(x:Opd):Rb S (ev x) st:=by cases x<;>first|exact bL _|exact Ck λv _=>bL v
theorem WY: ∀xs:List Opd,Rb S (evs xs) st|[]=>bL _|x::r=>bO (jC x) λv _=>bO (WY r) λvs _=>bL _
theorem WD(x:Option Opd):Rb S (evo x) st:=by
 cases x with
 |none=>exact bL _
 |some x=>exact bO (jC x) λv _=>bL _
end
def eY:AV->List Nat| .ptr b _=>[b]| .slr b _ _=>[b]| .ep b _ _ _=>[b]|_=>[]
def avR:AV->List Nat| .agg cs=>cs.flatMap eY|x=>eY x
section
variable {S:Nat->Prop} {st:St}
theorem JJe{x:AV}(h: ∀b∈eY x,S b):Rb S (fz.fz1 x) st:=by
 cases x with
 |slr b i n=>
  refine oF (h b (by simp[eY])) λv _=>?_;cases v with
  |arr w esz rows=>dsimp only;split<;>first|exact bL _|exact JS
  |_=>exact JS
 |p c=>exact bL _
 |_=>exact JS
theorem zm: ∀{xs:List AV},(∀b∈xs.flatMap eY,S b)->Rb S (fz.fzL xs) st|[],_=>bL _|x::r,h=>bO (JJe λb e=>h b (by simp[e])) λa _=>bO (zm λb e=>h b (by simp only[List.flatMap_cons,cH];exact .inr e)) λc _=>bL _
theorem FR{x:AV}(h: ∀b∈avR x,S b):Rb S (fz x) st:=by
 cases x with
 |slr b i n=>
  refine oF (h b (by simp[avR,eY])) λv _=>?_;cases v with
  |arr w esz rows=>dsimp only;split<;>first|exact bL _|exact JS
  |_=>exact JS
 |p c=>exact bL _
 |data cs=>exact bL _
 |agg cs=>exact zm h
 |_=>exact JS
theorem JKJ{x:AV}{a:List PV×List (Nat×Blk)}(h:(fz.fz1 x).run st=some a): ∀y∈a.2,y.1∈eY x:=by
 cases x with
 |slr b i n=>
  simp only[fz.fz1,dQ]at h;obtain⟨v,_,h⟩:=bG.1 h;cases v with
  |arr w esz rows=>
   dsimp only at h;split at h;injection h with h;subst h;simp[eY];cases h
  |_=>cases h
 |p c=>injection h with h;subst h;simp
 |_=>cases h
theorem A5: ∀{xs:List AV} {a:List PV×List (Nat×Blk)},(fz.fzL xs).run st=some a-> ∀y∈a.2,y.1∈xs.flatMap eY
 |[],a,h,y,g=>by injection h with h;subst h;simp at g
 |x::r,a,h,y,g=>by
  simp only[fz.fzL]at h;obtain⟨c,h1,h⟩:=bind_some h;obtain⟨e,h2,h⟩:=bind_some h;injection h with h;subst h;simp only[cH]at g;simp only[List.flatMap_cons,cH];rcases g with g|g;exact .inl (JKJ h1 y g);exact .inr (A5 h2 y g)
theorem FK{x:AV}{a:List PV×List (Nat×Blk)}(h:(fz x).run st=some a): ∀y∈a.2,y.1∈avR x:=by
 cases x with
 |slr b i n=>
  simp only[fz,dQ]at h;obtain⟨v,_,h⟩:=bG.1 h;cases v with
  |arr w esz rows=>
   dsimp only at h;split at h;injection h with h;subst h;simp[avR,eY];cases h
  |_=>cases h
 |p c=>injection h with h;subst h;simp
 |data cs=>injection h with h;subst h;simp
 |agg cs=>exact A5 h
 |_=>cases h
theorem XP{esz:Nat}{x:AV}(h: ∀b∈avR x,S b):Rb S (eS esz x) st:=by
 unfold eS;split;split<;>first|exact bL _|exact JS
 split<;>first|exact bL _|exact JS
 refine oF (h _ (by simp[avR,eY])) λv _=>?_;split;split<;>first|exact bL _|exact JS
 exact JS;exact JS
theorem JIp{agg:Bool}{size:Nat}{x:AV}(h: ∀b∈avR x,S b):Rb S (fN agg size x) st:=by
 unfold fN;split;split<;>first|exact MS _|exact JS
 refine oF (h _ (by simp[avR,eY])) λv _=>?_;split;split<;>first|exact MS _|exact JS
 exact JS;refine oF (h _ (by simp[avR,eY])) λv _=>?_;split;split;split;split<;>first|exact MS _|exact JS
 exact JS;exact JS;exact JS;exact JS
theorem MP{x:Option AV}{e:Eff}(h:(val x).run st=some e):e.ws=[]:=by
 cases x with
 |none=>cases h
 |some v=>injection h with h;subst h;rfl
theorem JIf{agg:Bool}{size:Nat}{x:AV}{e:Eff}(h:(fN agg size x).run st=some e):e.ws=[]:=by
 unfold fN at h;split at h;split at h<;>first|exact MP h|cases h
 simp only[dQ]at h;obtain⟨v,_,h⟩:=bG.1 h;split at h;split at h<;>first|exact MP h|cases h
 cases h;simp only[dQ]at h;obtain⟨v,_,h⟩:=bG.1 h;split at h;split at h;split at h;split at h<;>first|exact MP h|cases h
 cases h;cases h;cases h;cases h
theorem JGZ{size:Nat}{x v:AV}(h: ∀b∈avR x,S b)(hv: ∀b∈avR v,S b):Rb S (gT size x v) st:=by
 unfold gT;split;refine oF (h _ (by simp[avR,eY])) λy _=>?_;split;split;split;split<;>first|exact bL _|exact JS
 exact JS;exact JS;exact JS;refine oF (h _ (by simp[avR,eY])) λy _=>?_;split;split;split;refine bO (FR hv) λa _=>?_;split;split<;>first|exact bL _|exact JS
 exact JS;exact JS;exact JS;exact JS;exact JS
theorem JHu{size:Nat}{x v:AV}{e:Eff}(h:(gT size x v).run st=some e): ∀y∈e.ws,y.1∈avR x++avR v:=by
 unfold gT at h;split at h;simp only[dQ]at h;obtain⟨w,_,h⟩:=bG.1 h;split at h;split at h;split at h;split at h;injection h with h;subst h;simp[avR,eY];cases h;cases h;cases h;cases h;simp only[dQ]at h;obtain⟨w,_,h⟩:=bG.1 h;split at h;split at h;split at h;obtain⟨a,h1,h⟩:=bind_some h;split at h;split at h;injection h with h;subst h;intro y g;simp only[cH,lC]at g⊢;rcases g with g|rfl;exact .inr (FK h1 y g);exact .inl (by simp[avR,eY]);cases h;cases h;cases h;cases h;cases h;cases h
theorem JFn{esz:Nat}{x i:AV}(h: ∀b∈avR x,S b):Rb S (lI esz x i) st:=by
 unfold lI;split;split;split<;>first|exact bL _|exact JS
 exact JS;refine oF (h _ (by simp[avR,eY])) λv _=>?_;split;split<;>first|exact bL _|exact JS
 exact JS;exact JS
theorem JHp{esz:Nat}{x i:AV}{e:Eff}(h:(lI esz x i).run st=some e):e.ws=[]:=by
 unfold lI at h;split at h;split at h;split at h;injection h with h;subst h;rfl;cases h;cases h;simp only[dQ]at h;obtain⟨v,_,h⟩:=bG.1 h;split at h;split at h;injection h with h;subst h;rfl;cases h;cases h;cases h
theorem JKM{esz bytes:Nat}{x y:AV}(h: ∀b∈avR x,S b)(hy: ∀b∈avR y,S b):Rb S (hA esz bytes x y) st:=by
 unfold hA;split;refine oF (h _ (by simp[avR,eY])) λv _=>?_;split;refine bO (XP hy) λnew _=>?_;split<;>first|exact bL _|exact JS
 exact JS;exact JS
theorem JJQ{esz bytes:Nat}{x y:AV}{e:Eff}(h:(hA esz bytes x y).run st=some e): ∀z∈e.ws,z.1∈avR x:=by
 unfold hA at h;split at h;simp only[dQ]at h;obtain⟨v,_,h⟩:=bG.1 h;split at h;obtain⟨new,_,h⟩:=bind_some h;split at h;injection h with h;subst h;simp[avR,eY];cases h;cases h;cases h
theorem Ch: ∀{k new:Nat},(∀j,j<k->S (new+j))->Rb S (rL new k) st
 |0,_,_=>bL _
 |k+1,new,h=>oF (h 0 (by omega)) λv _=>by
  cases v with
  |dead=>exact Ch λj e=>by have:=h (j+1) (by omega);rwa[Nat.add_comm j 1,<-DY]at this
  |_=>exact JS
theorem Aw: ∀{xs:List Opd},(∀x∈xs,∀v,(ev x).run st=some v-> ∀b∈avR v,S b)->Rb S (fzs xs) st|[],_=>bL _|x::r,h=>bO (jC x) λv e=>bO (FR (h x (by simp) v e)) λa _=>bO (Aw λy g=>h y (by simp[g])) λc _=>bL _
theorem WV: ∀{xs:List Opd} {a:List (List PV)×List (Nat×Blk)},(∀x∈xs,∀v,(ev x).run st=some v-> ∀b∈avR v,S b)->(fzs xs).run st=some a-> ∀y∈a.2,S y.1
 |[],a,_,h,y,g=>by injection h with h;subst h;simp at g
 |x::r,a,j,h,y,g=>by
  simp only[fzs]at h;obtain⟨v,k,h⟩:=bind_some h;obtain⟨c,h1,h⟩:=bind_some h;obtain⟨e,h2,h⟩:=bind_some h;injection h with h;subst h;simp only[cH]at g;rcases g with g|g;exact j x (by simp) v k _ (FK h1 y g);exact WV (λz n=>j z (by simp[n])) h2 y g
theorem Bw{x:AV}(h: ∀b∈avR x,S b):Rb S (hZ x) st:=by
 cases x with
 |slr b i n=>refine bO (FR h) λa _=>?_;split<;>first|exact bL _|exact JS
 |agg cs=>exact bO (FR h) λa _=>bL _
 |tup cs=>exact JS
 |_=>exact bL _
theorem Dd{x:AV}{a:AV×List (Nat×Blk)}(h:(hZ x).run st=some a): ∀y∈a.2,y.1∈avR x:=by
 cases x with
 |slr b i n=>
  simp only[hZ]at h;obtain⟨c,h1,h⟩:=bind_some h;split at h;injection h with h;subst h;exact FK h1;cases h
 |agg cs=>simp only[hZ]at h;obtain⟨c,h1,h⟩:=bind_some h;injection h with h;subst h;exact FK h1
 |tup cs=>cases h
 |_=>injection h with h;subst h;simp
theorem HR: ∀{m:List Bool} {xs:List AV},(∀x∈xs,∀b∈avR x,S b)->Rb S (eQ m xs) st|_,[],_=>by unfold eQ;exact bL _|[],x::r,h=>bO (Bw (h x (by simp))) λa _=>bO (HR λy e=>h y (by simp[e])) λc _=>bL _|true::m,x::r,h=>bO (HR λy e=>h y (by simp[e])) λc _=>bL _|false::m,x::r,h=>bO (Bw (h x (by simp))) λa _=>bO (HR λy e=>h y (by simp[e])) λc _=>bL _
theorem HU: ∀{m:List Bool} {xs:List AV} {a:List AV×List (Nat×Blk)},(∀x∈xs,∀b∈avR x,S b)->(eQ m xs).run st=some a-> ∀y∈a.2,S y.1
 |m,[],a,_,h,y,g=>by unfold eQ at h;injection h with h;subst h;simp at g
 |[],x::r,a,j,h,y,g=>by
  simp only[eQ]at h;obtain⟨c,h1,h⟩:=bind_some h;obtain⟨e,h2,h⟩:=bind_some h;injection h with h;subst h;simp only[cH]at g;rcases g with g|g;exact j x (by simp) _ (Dd h1 y g);exact HU (λz k=>j z (by simp[k])) h2 y g
 |true::m,x::r,a,j,h,y,g=>by simp only[eQ]at h;obtain⟨e,h2,h⟩:=bind_some h;injection h with h;subst h;exact HU (λz k=>j z (by simp[k])) h2 y g
 |false::m,x::r,a,j,h,y,g=>by
  simp only[eQ]at h;obtain⟨c,h1,h⟩:=bind_some h;obtain⟨e,h2,h⟩:=bind_some h;injection h with h;subst h;simp only[cH]at g;rcases g with g|g;exact j x (by simp) _ (Dd h1 y g);exact HU (λz k=>j z (by simp[k])) h2 y g
theorem Bq{ws:List (Nat×Blk)}{b:Nat}(h:S b):Rb S (pH ws b) st:=oF h λv _=>by split<;>exact bL _
theorem YF{ws:List (Nat×Blk)}: ∀{r:List Nat} {acc:List Ent},(∀b∈r,S b)->Rb S (dH ws (r.map .whole) acc) st|[],acc,_=>bL _|b::r,acc,h=>by simp only[bP,dH];refine bO (Bq (h b (by simp))) λx _=>?_;cases x<;>exact YF λc hc=>h c (by simp[hc])
theorem od{ws:List (Nat×Blk)}{ρ:Ent->Option Nat}: ∀{r:List Nat},(∀b∈r,S b)->Rb S (jJ ws ρ (r.map .whole)) st
 |[],_=>bL _
 |b::r,h=>by
  simp only[bP,jJ,wV];refine bO (bO (Bq (h b (by simp))) λx _=>?_) λx _=>bO (od λc hc=>h c (by simp[hc])) λl _=>bL _;cases x with
  |box cs=>dsimp only;split<;>first|exact bL _|exact JS
  |arr w e rows=>exact bL _
  |dead=>exact JS
theorem ox{ws:List (Nat×Blk)}{es:List Ent}{new:Nat}: ∀{r:List Nat} {l:List Blk},Rb S (hQ ws es new (r.map .whole) l) st
 |[],l=>by cases l<;>exact bL _
 |b::r,[]=>JS
 |b::r,x::l=>by
  simp only[bP,hQ];refine bO ?_ λy _=>bO ox λg _=>bL _;cases x with
  |box cs=>simp only[rT];split<;>first|exact bL _|exact JS
  |arr w e rows=>exact bL _
  |dead=>exact JS
theorem oz{ws:List (Nat×Blk)}{es:List Ent}{new:Nat}: ∀{r:List Nat} {l:List Blk} {g:List (Nat×Blk)},(hQ ws es new (r.map .whole) l).run st=some g-> ∀y∈g,y.1∈r
 |[],l,g,h,y,j=>by
  have:g=[]:=by cases l<;>(injection h with h;exact h.symm)
  subst this;simp at j
 |b::r,[],g,h,_,_=>by cases h
 |b::r,x::l,g,h,y,j=>by
  simp only[bP,hQ]at h;obtain⟨z,h1,h⟩:=bind_some h;obtain⟨k,h2,h⟩:=bind_some h;injection h with h;subst h;rcases bZ.1 j with rfl|j;cases x with
  |box cs=>
   simp only[rT]at h1;split at h1;injection h1 with h1;subst h1;simp;cases h1
  |arr w e rows=>injection h1 with h1;subst h1;simp
  |dead=>cases h1
  exact iW _ (oz h2 y j)
theorem di{es:List Ent}{new:Nat}: ∀{l:List Blk} {k:Nat} {n:List (Nat×Blk)},gE es new k l=some n-> ∀y∈n,∃j,j<l.length/\y.1=k+j
 |[],k,n,h,y,g=>by injection h with h;subst h;simp at g
 | .dead::l,k,n,h,_,_=>by cases h
 | .box cs::l,k,n,h,y,g=>by
  simp only[gE]at h;split at h;rename_i c q _ o;injection h with h;subst h;rcases bZ.1 g with rfl|g;exact⟨0,by simp,rfl⟩;obtain⟨j,r,e⟩:=di o y g;exact⟨j+1,by simp;omega,by omega⟩;cases h
 | .arr w e rows::l,k,n,h,y,g=>by
  simp only[gE]at h;split at h;rename_i q o;injection h with h;subst h;rcases bZ.1 g with rfl|g;exact⟨0,by simp,rfl⟩;obtain⟨j,r,e⟩:=di o y g;exact⟨j+1,by simp;omega,by omega⟩;cases h
theorem ZF(e x:Ent)(l:List Ent)(h:e∈l):e∈uG x l:=by unfold uG;split<;>simp[h]
mutual
theorem JHe: ∀(x:AV) (l:List Ent) (e:Ent),e∈l->e∈cF x l| .ptr b off,l,e,h=>ZF e _ l h| .slr b i n,l,e,h=>ZF e _ l h| .ep b g i off,l,e,h=>ZF e _ l h| .fn f a c,l,e,h=>entsL_sub c _ e (entsL_sub a l e h)| .agg cs,l,e,h=>entsL_sub cs l e h| .tup cs,l,e,h=>entsL_sub cs l e h| .p _,l,e,h=>h| .data _,l,e,h=>h| .cp _ _,l,e,h=>h| .unk,l,e,h=>h
theorem entsL_sub: ∀(xs:List AV) (l:List Ent) (e:Ent),e∈l->e∈cF.entsOfL xs l|[],l,e,h=>h|x::r,l,e,h=>entsL_sub r _ e (JHe x l e h)
end
theorem ly{ws:List (Nat×Blk)}: ∀{r acc l:List Ent},(dH ws r acc).run st=some l-> ∀e∈acc,e∈l:=by
 intro r
 induction r with
 |nil=>intro acc l h e g;injection h with h;subst h;exact g
 |cons x r ih=>
  intro acc l h e g;cases x with
  |whole b=>
   simp only[dH]at h;obtain⟨y,_,h⟩:=bind_some h;cases y with
   |box cs=>exact ih h e (entsL_sub cs acc e g)
   |_=>exact ih h e g
  |elem b j i=>exact ih h e g
theorem n5{F:Orc}{f:FuncId}{xs:List AV}{ws:List (Nat×Blk)}{r o ids:List Nat}{n new:Nat}(w: ∀b∈ids,S b)(hw: ∀y∈ws,S y.1)(hn: ∀j,j<n->S (new+j))
  (h0:cF.entsOfL xs []=r.map .whole) (h1:(dH ws (r.map .whole) (r.map .whole)).run st=some (o.map .whole)) (h2:(dH ws (o.map .whole) (o.map .whole)).run st=some (ids.map .whole)):
  Rb S (fC F f (xs,ws) n new) st/\(∀e,(fC F f (xs,ws) n new).run st=some e-> ∀y∈e.ws,S y.1):=by
 have s1: ∀b∈o,S b:=λb q=>by have:=ly h2 (.whole b) (iA.2 ⟨b,q,rfl⟩);obtain⟨c,hc,e⟩:=iA.1 this;injection e with e;subst e;exact w c hc
 have s0: ∀b∈r,S b:=λb q=>by have:=ly h1 (.whole b) (iA.2 ⟨b,q,rfl⟩);obtain⟨c,hc,e⟩:=iA.1 this;injection e with e;subst e;exact s1 c hc
 constructor;unfold fC;simp only[h0];refine bO (YF s0) λa g=>?_;rw[h1]at g;injection g with g;subst g;refine bO (YF s1) λa g=>?_;rw[h2]at g;injection g with g;subst g;split;split;exact JS;refine bO (od w) λbl _=>?_;split;exact JS;split;split;exact bO ox λ_ _=>bL _;exact JS;exact JS;exact JS;intro e h y k;unfold fC at h;simp only[h0]at h;obtain⟨a,g,h⟩:=bind_some h;rw[h1]at g;injection g with g;subst g;obtain⟨a,g,h⟩:=bind_some h;rw[h2]at g;injection g with g;subst g;split at h;split at h;cases h;obtain⟨bl,_,h⟩:=bind_some h;split at h;cases h;split at h;rename_i hlen;split at h;rename_i v fresh _ z;obtain⟨x,q,h⟩:=bind_some h;injection h with h;subst h;simp only[cH]at k;rcases k with(k|k)|k;exact hw y k;exact w _ (oz q y k);obtain⟨j,A,e⟩:=di z y k;rw[e];exact hn j (by simp only[qZ,eK]at A hlen;omega);cases h;cases h;cases h
end
def tcR:TC->List Nat| .ptr b _=>[b]| .slr b=>[b]| .slo b _=>[b]| .ep b _ _=>[b]| .epo b _ _ _=>[b]|_=>[]
def tvR:TV->List Nat| .a (.c x)=>tcR x| .a (.m _ cs)=>cs.flatMap tcR|_=>[]
theorem JKm(L:Nat->Nat)(x:TC):eY (aU L x)=tcR x:=by cases x<;>rfl
theorem iL(L:Nat->Nat)(v:TV):avR (JY L v)=tvR v:=by
 cases v with
 |a x=>
  cases x with
  |c x=>cases x<;>rfl
  |dt t x=>rfl
  |m t cs=>
   show(cs.map (aU L)).flatMap eY=cs.flatMap tcR;rw[List.flatMap_map]
   congr 1
   funext x;exact JKm L x
  |fn f a c=>rfl
 |tup vs=>rfl
def rng(new:Nat):Nat->List Nat|0=>[]|k+1=>new::rng (new+1) k
theorem qA: ∀{k new j:Nat},j<k->new+j∈rng new k
 |0,_,_,h=>by omega
 |k+1,new,j,h=>by
  cases j with
  |zero=>simp[rng]
  |succ j=>simp only[rng,bZ];right;rw[show new+(j+1)=new+1+j by omega];exact qA (by omega)
def gM{α β:Type}(m:Option α)(f:α->Option β):Option β:=match m with|some x=>f x|none=>none
theorem gX{α β:Type}{m:Option α}{f:α->Option β}{b:β}(h:gM m f=some b): ∃a,m=some a/\f a=some b:=by
 cases m with
 |none=>cases h
 |some a=>exact⟨a,rfl,h⟩
def im(l:List (TV×Bool))(s:TSt):Option (List Nat):=FJ l s λxs s1=>gM (BK xs []) λe=>gM (tV s1 e e) λi1=>tV s1 i1 i1
def tcU(l:List (TV×Bool))(n new:Nat)(s:TSt):Option (List Nat×List Nat):=gM (im l s) λids=>some (rng new n++(l.flatMap λx=>tvR x.1)++ids,rng new n++(l.flatMap λx=>tvR x.1)++ids)
def tpR(s:TSt):List (Nat×TO)->Option (List Nat)|[]=>some []|(_,o)::r=>gM (tev o s) λv=>gM (tpR s r) λl=>some (tvR v++l)
def uw(op:TOp)(new:Nat)(s:TSt):Option (List Nat×List Nat):=
 match op with
 | .load _ _ x=>gM (tev x s) λv=>some (tvR v,[])
 | .newbox _=>some ([new],[new])
 | .store _ x y=>gM (tev x s) λv=>gM (tev y s) λu=>some (tvR v++tvR u,tvR v++tvR u)
 | .iaddr _ x _=>gM (tev x s) λv=>some (tvR v,[])
 | .lits own t n ps=>gM (tpR s ps) λl=>some (rng new (bV (.lits own t n ps))++l,rng new (bV (.lits own t n ps))++l)
 | .appn _ _ y=>gM (tev y s) λv=>some (new::tvR v,[new])
 | .app _ _ x y=>gM (tev x s) λv=>gM (tev y s) λu=>some (tvR v++tvR u,tvR v)
 | .slice _ x _ _ _=>gM (tev x s) λv=>some (tvR v,tvR v)
 | .call _ args n=>gM (tG (args.map λx=>(x,false)) s) λl=>tcU l n new s
 | .callo _ args n=>gM (tG args s) λl=>tcU l n new s
 | .mkslice own t bytes l c=>some (rng new (bV (.mkslice own t bytes l c)),rng new (bV (.mkslice own t bytes l c)))
 | .conv k x=>gM (tev x s) λv=>some (rng new (bV (.conv k x))++tvR v,rng new (bV (.conv k x)))
 |_=>none
theorem mS{F:Orc}{op:TOp}{new:Nat}{st:St}{S:Nat->Prop}(hd: ∀j,j<bV op->S (new+j))(h:Rb S (opR F (erp op) new) st):Rb S (opD F (erp op) new) st:=by unfold opD;rw[HK];exact bO (Ch hd) λ_ _=>h
theorem mX{F:Orc}{op:AOp}{new:Nat}{st:St}{e:Eff}(h:(opD F op new).run st=some e):(opR F op new).run st=some e:=by unfold opD at h;obtain⟨_,_,h⟩:=bind_some h;exact h
def UW(F:Orc)(op:AOp)(new:Nat)(st:St)(U W:List Nat):Prop:=Rb (· ∈U) (opD F op new) st/\ ∀e,(opD F op new).run st=some e-> ∀y∈e.ws,y.1∈W
theorem kI{x:TO}{s:TSt}{v:TV}(h:tev x s=some v){a:AV}(ha:(ev (erO x)).run (Ju s)=some a):a=JY (lns s.sto) v:=by rw[bN h]at ha;injection ha with ha;exact ha.symm
theorem Bk{l:List (TV×Bool)}{s:TSt}{ids:List Nat}(h:im l s=some ids): ∃(xs:List AV) (ws:List (Nat×Blk)) (e i1:List Nat),(eQ (l.map (·.2)) (l.map λx=>JY (lns s.sto) x.1)).run (Ju s)=some (xs,ws)/\
  cF.entsOfL xs []=e.map .whole/\(dH ws (e.map .whole) (e.map .whole)).run (Ju s)=some (i1.map .whole)/\(dH ws (i1.map .whole) (i1.map .whole)).run (Ju s)=some (ids.map .whole):=by
 unfold im at h;obtain⟨xs,s1,ws,h1,g,h⟩:=YP (Fzd.refl s) h;rw[iX]at g;obtain⟨e,h2,h⟩:=gX h;obtain⟨i1,k,j⟩:=gX h;exact⟨_,ws,e,i1,h1,OR (lns s.sto) (l:=[]) h2,xI g k,xI g j⟩
theorem JH2{F:Orc}{f:FuncId}{vs:List AV}{n new:Nat}{st:St}{S:Nat->Prop}{a:List AV×List (Nat×Blk)}(ha:(jB vs).run st=some a)(hr:Rb S (jB vs) st)
  (h: ∀(_:Unit),Rb S (fC F f a n new) st):Rb S (gP F f vs n new) st:=by
 unfold gP;refine bO hr λo j=>?_;rw[ha]at j;injection j with j;subst j;have h:=h ();unfold fC at h;intro b g;refine h b ?_
 revert g
 simp only[uU];intro g;rcases cH.1 g with g|g;exact cH.2 (.inl g);refine cH.2 (.inr ?_)
 revert g
 cases(dH a.2 (cF.entsOfL a.1 []) (cF.entsOfL a.1 [])).run st with
 |none=>intro g;exact g
 |some k=>
  simp only[cL,Option.getD_some,uU];intro g;rcases cH.1 g with g|g;exact cH.2 (.inl g);refine cH.2 (.inr ?_)
  revert g
  cases(dH a.2 k k).run st with
  |none=>intro g;exact g
  |some es=>
   simp only[cL,Option.getD_some];split;split;intro g;exact g;simp only[uU];intro g;rcases cH.1 g with g|g;exact cH.2 (.inl g);refine cH.2 (.inr ?_)
   revert g
   cases(jJ a.2 (λe=>cS e es 0) es).run st with
   |none=>intro g;exact g
   |some bl=>
    simp only[cL,Option.getD_some];split;intro g;exact g;split;rename_i hlen;rw[if_pos (by omega)];intro g;exact g;intro g;simp[RM.reads]at g
   intro g;exact g
theorem Zb(F:Orc){op:TOp}{new:Nat}{s:TSt}{U W:List Nat}(h:uw op new s=some (U,W)):UW F (erp op) new (Ju s) U W:=by
 unfold uw at h;split at h;rename_i agg t x;obtain⟨v,C,h⟩:=gX h;injection h with h;injection h with h1 h2;subst h1 h2;refine⟨mS (op:=.load agg t x) (λj B=>by simp[bV]at B) (bO (jC _) λa r=>?_),λe g y A=>?_⟩;rw[kI C r];exact JIp λb w=>by rw[iL]at w;exact w
 have g:=mX g;simp only[erp,opR]at g;obtain⟨a,r,g⟩:=bind_some g;rw[JIf g]at A;simp at A;rename_i t;injection h with h;injection h with h1 h2;subst h1 h2;refine⟨mS (op:=.newbox t) (λj B=>by simp[bV]at B;subst B;simp) (bL _),λe g y A=>?_⟩;have g:=mX g;injection g with g;subst g;simp only[lC]at A;subst A;simp;rename_i t x y;obtain⟨v,C,h⟩:=gX h;obtain⟨u,J,h⟩:=gX h;injection h with h;injection h with h1 h2;subst h1 h2;refine⟨mS (op:=.store t x y) (λj B=>by simp[bV]at B) (bO (jC _) λa r=>bO (jC _) λc hc=>?_),λe g z H=>?_⟩;rw[kI C r,kI J hc];exact JGZ (λb w=>by rw[iL]at w;simp[w]) (λb w=>by rw[iL]at w;simp[w]);have g:=mX g;simp only[erp,opR]at g;obtain⟨a,r,g⟩:=bind_some g;obtain⟨c,hc,g⟩:=bind_some g;have:=JHu g z H;rwa[kI C r,kI J hc,iL,iL]at this;rename_i t x i;obtain⟨v,C,h⟩:=gX h;injection h with h;injection h with h1 h2;subst h1 h2;refine⟨mS (op:=.iaddr t x i) (λj B=>by simp[bV]at B) (bO (jC _) λa r=>bO (jC _) λc hc=>?_),λe g y A=>?_⟩;rw[kI C r];exact JFn λb w=>by rw[iL]at w;exact w
 have g:=mX g;simp only[erp,opR]at g;obtain⟨a,r,g⟩:=bind_some g;obtain⟨c,hc,g⟩:=bind_some g;rw[JHp g]at A;simp at A;rename_i own t n ps;obtain⟨l,E,h⟩:=gX h;injection h with h;injection h with h1 h2;subst h1 h2;have Q: ∀x∈ps.map (λx=>erO x.2),∀v,(ev x).run (Ju s)=some v-> ∀b∈avR v,b∈rng new (bV (.lits own t n ps))++l:=by
  have Y: ∀(ps:List (Nat×TO)) (l:List Nat),tpR s ps=some l-> ∀x∈ps.map (λx=>erO x.2),∀v,(ev x).run (Ju s)=some v-> ∀b∈avR v,b∈l:=by
   intro ps
   induction ps with
   |nil=>intro l _ x D;simp at D
   |cons p ps ih=>
    intro l E x D v C b w;obtain⟨i,o⟩:=p;simp only[tpR]at E;obtain⟨u,J,E⟩:=gX E;obtain⟨q,hq,E⟩:=gX E;injection E with E;subst E;simp only[bP,bZ]at D;rcases D with rfl|D;rw[kI J C,iL]at w;simp[w];simp[ih q hq x D v C b w]
  intro x D v C b w;exact cH.2 (.inr (Y ps l E x D v C b w))
 have I:(ps.map λx=>(x.1,erO x.2)).map (·.2)=ps.map λx=>erO x.2:=by simp
 refine⟨mS (op:=.lits own t n ps) (λj B=>cH.2 (.inl (qA B))) ?_,λe g y A=>?_⟩;simp only[erp,opR,I];refine bO (Aw Q) λa _=>?_;split;split<;>exact bL _
 exact JS;have g:=mX g;simp only[erp,opR,I]at g;obtain⟨a,r,g⟩:=bind_some g;split at g;split at g;rename_i M;injection g with g;subst g;simp only[cH,lC]at A;rcases A with A|rfl;exact WV Q r y A;exact cH.2 (.inl (by have:=qA (k:=bV (.lits own t n ps)) (new:=new) (j:=0) (by simp[bV,M]);simpa using this));injection g with g;subst g;exact WV Q r y A;cases g;rename_i t bytes y;obtain⟨v,C,h⟩:=gX h;injection h with h;injection h with h1 h2;subst h1 h2;refine⟨mS (op:=.appn t bytes y) (λj B=>by simp[bV]at B;subst B;simp) (bO (jC _) λa r=>?_),λe g z H=>?_⟩;rw[kI C r];refine bO (XP λb w=>by rw[iL]at w;simp[w]) λrows _=>?_;split<;>first|exact bL _|exact JS
 have g:=mX g;simp only[erp,opR]at g;obtain⟨a,r,g⟩:=bind_some g;obtain⟨rows,_,g⟩:=bind_some g;split at g;injection g with g;subst g;simp only[lC]at H;subst H;simp;cases g;rename_i t bytes x y;obtain⟨v,C,h⟩:=gX h;obtain⟨u,J,h⟩:=gX h;injection h with h;injection h with h1 h2;subst h1 h2;refine⟨mS (op:=.app t bytes x y) (λj B=>by simp[bV]at B) (bO (jC _) λa r=>bO (jC _) λc hc=>?_),λe g z H=>?_⟩;rw[kI C r,kI J hc];exact JKM (λb w=>by rw[iL]at w;simp[w]) (λb w=>by rw[iL]at w;simp[w]);have g:=mX g;simp only[erp,opR]at g;obtain⟨a,r,g⟩:=bind_some g;obtain⟨c,hc,g⟩:=bind_some g;have:=JJQ g z H;rwa[kI C r,iL]at this;rename_i kd x lo hi mx;obtain⟨v,C,h⟩:=gX h;injection h with h;injection h with h1 h2;subst h1 h2;refine⟨mS (op:=.slice kd x lo hi mx) (λj B=>by simp[bV]at B) (bO (jC _) λa r=>bO (WD _) λ_ _=>bO (WD _) λ_ _=>bO (WD _) λ_ _=>?_),λe g z H=>?_⟩;have e:=kI C r;split;refine bO (FR λb w=>?_) λy _=>?_;rw[e,iL]at w;exact w;split;split<;>first|exact bL _|exact JS
 exact JS;exact MS _;have g:=mX g;simp only[erp,opR]at g;obtain⟨a,r,g⟩:=bind_some g;obtain⟨_,_,g⟩:=bind_some g;obtain⟨_,_,g⟩:=bind_some g;obtain⟨_,_,g⟩:=bind_some g;have e0:=kI C r;split at g;obtain⟨y,A,g⟩:=bind_some g;split at g;split at g;injection g with g;subst g;have:=FK A z H;rwa[e0,iL]at this;cases g;cases g;rw[MP g]at H;simp at H;rename_i f args n;obtain⟨l,E,h⟩:=gX h;unfold tcU at h;obtain⟨ids,hi,h⟩:=gX h;injection h with h;injection h with h1 h2;subst h1 h2;obtain⟨xs,ws,i0,i1,G,V,R,P⟩:=Bk hi;obtain⟨I,T⟩:=xE E;rw[NR]at I;rw[IK _ _ (λx D=>by rw[T,wB]at D;obtain⟨y,_,rfl⟩:=iA.1 D;rfl)]at G;have K: ∀x∈l.map (λx=>JY (lns s.sto) x.1),∀b∈avR x,b∈rng new n++(l.flatMap λx=>tvR x.1)++ids:=by intro x D b w;obtain⟨y,A,rfl⟩:=iA.1 D;rw[iL]at w;simp only[cH];exact .inl (.inr (List.mem_flatMap.2 ⟨y,A,w⟩))
 have Z:Rb (· ∈rng new n++(l.flatMap λx=>tvR x.1)++ids) (jB (l.map λx=>JY (lns s.sto) x.1)) (Ju s):=by rw[<-PF];exact HR K
 have L: ∀y∈ws,y.1∈rng new n++(l.flatMap λx=>tvR x.1)++ids:=by rw[<-PF]at G;exact HU (S:=(· ∈rng new n++(l.flatMap λx=>tvR x.1)++ids)) K G
 obtain⟨N,O⟩:=n5 (F:=F) (f:=f) (S:=(· ∈rng new n++(l.flatMap λx=>tvR x.1)++ids)) (n:=n) (new:=new) (λb w=>by simp[w]) L
  (λj B=>by simp only[cH];exact .inl (.inl (qA B))) V R P
 refine⟨mS (op:=.call f args n) (λj B=>by simp only[cH];exact .inl (.inl (qA B))) (bO (WY _) λa r=>?_),λe g y A=>?_⟩;rw[I]at r;injection r with r;subst r;exact JH2 G Z λ_=>N;have g:=mX g;simp only[erp,opR]at g;obtain⟨a,r,g⟩:=bind_some g;rw[I]at r;injection r with r;subst r;obtain⟨ar,h1,h2⟩:=C7 g;rw[G]at h1;injection h1 with h1;subst h1;exact O e h2 y A;rename_i f args n;obtain⟨l,E,h⟩:=gX h;unfold tcU at h;obtain⟨ids,hi,h⟩:=gX h;injection h with h;injection h with h1 h2;subst h1 h2;obtain⟨xs,ws,i0,i1,G,V,R,P⟩:=Bk hi;obtain⟨I,T⟩:=xE E;have K: ∀x∈l.map (λx=>JY (lns s.sto) x.1),∀b∈avR x,b∈rng new n++(l.flatMap λx=>tvR x.1)++ids:=by intro x D b w;obtain⟨y,A,rfl⟩:=iA.1 D;rw[iL]at w;simp only[cH];exact .inl (.inr (List.mem_flatMap.2 ⟨y,A,w⟩))
 rw[T]at G;have L: ∀y∈ws,y.1∈rng new n++(l.flatMap λx=>tvR x.1)++ids:=HU (S:=(· ∈rng new n++(l.flatMap λx=>tvR x.1)++ids)) K G;obtain⟨N,O⟩:=n5 (F:=F) (f:=f) (S:=(· ∈rng new n++(l.flatMap λx=>tvR x.1)++ids)) (n:=n) (new:=new) (λb w=>by simp[w]) L
  (λj B=>by simp only[cH];exact .inl (.inl (qA B))) V R P
 refine⟨mS (op:=.callo f args n) (λj B=>by simp only[cH];exact .inl (.inl (qA B))) (bO (WY _) λa r=>?_),λe g y A=>?_⟩;rw[I]at r;injection r with r;subst r;refine bO (HR K) λa r=>?_;rw[G]at r;injection r with r;subst r;exact N;have g:=mX g;simp only[erp,opR]at g;obtain⟨a,r,g⟩:=bind_some g;rw[I]at r;injection r with r;subst r;obtain⟨a,r,g⟩:=bind_some g;rw[G]at r;injection r with r;subst r;exact O e g y A;rename_i own t bytes l c;injection h with h;injection h with h1 h2;subst h1 h2;refine⟨mS (op:=.mkslice own t bytes l c) (λj B=>qA B) (bO (jC _) λa r=>bO (jC _) λd hd=>?_),λe g y A=>?_⟩;split;split;split<;>exact bL _
 exact JS;exact JS;have g:=mX g;simp only[erp,opR]at g;obtain⟨a,r,g⟩:=bind_some g;obtain⟨d,hd,g⟩:=bind_some g;split at g;split at g;split at g;rename_i M;injection g with g;subst g;simp only[lC]at A;subst A;have:=qA (k:=bV (.mkslice own t bytes l c)) (new:=new) (j:=0) (by simp[bV,M]);simpa using this;injection g with g;subst g;simp at A;cases g;cases g;rename_i k x;obtain⟨v,C,h⟩:=gX h;injection h with h;injection h with h1 h2;subst h1 h2;refine⟨mS (op:=.conv k x) (λj B=>cH.2 (.inl (qA B))) (bO (jC _) λa r=>?_),λe g y A=>?_⟩;have hr: ∀b∈avR a,b∈rng new (bV (.conv k x))++tvR v:=λb w=>by rw[kI C r,iL]at w;simp[w]
 split;exact bL _;exact bL _;refine bO (XP hr) λrows _=>?_;split<;>first|exact bL _|exact JS
 split<;>exact bL _
 exact JS;have g:=mX g;simp only[erp,opR]at g;obtain⟨a,r,g⟩:=bind_some g;split at g;injection g with g;subst g;simp at A;injection g with g;subst g;simp at A;obtain⟨rows,_,g⟩:=bind_some g;split at g;injection g with g;subst g;simp at A;cases g;split at g;rename_i M;injection g with g;subst g;simp only[lC]at A;subst A;simp[bV,M,rng];injection g with g;subst g;simp at A;cases g;cases h
abbrev nL:=Option (List Nat×List Nat)
section
variable {R:Type}
def xh(i:iB)(s:TSt):Bool:=match i.g with|none=>false|some (g,e)=>if i.dst=some g then false else match tlk g s.env with|some (.a (.c (.d .b x)))=>if x=e then false else true|some (.tup [])=>true|_=>false
def uwI(i:iB)(new:Nat)(s s':TSt):nL:=if xh i s'=true then some ([],[])else uw i.op new s
def LW(G:TG):List iB->Nat->TSt->List nL->(TSt->List nL->Option R)->Option R|[],_,s,l,k=>k s l|i::r,new,s,l,k=>RX G i new s λs'=>LW G r (new+bV i.op) s' (l++[uwI i new s s']) k
def rK:nL->(List Nat×List Nat)->Prop|none,_=>True|some (U,W),x=>(∀b∈x.1,b∈U)/\ ∀b∈x.2,b∈W
def LD(l:List nL):List (Nat×Nat)->Bool
 |[]=>true
 |(i,j)::r=>(match l[i]?,l[j]? with
  |some (some a),some (some b)=>fL a.2 b.1&&fL a.2 b.2&&fL a.1 b.2
  |_,_=>false)&&LD l r
theorem ID{b:Nat}: ∀{l:List Loc},b∈iO l->Loc.blk b∈l
 | .blk c::r,h=>by
  simp only[iO,bZ]at h;rcases h with rfl|h;simp;simp[ID h]
 | .slot n::r,h=>by simp only[iO]at h;simp[ID h]
theorem rK.snoc{l:List nL}{l0:Log}{x:nL}{y:List Nat×List Nat}(hl:l.length=l0.length)(ho: ∀(j:Nat) a b,l[j]?=some a->l0[j]?=some b->rK a b)(hx:rK x y)(j:Nat)(a:nL)(b:List Nat×List Nat)(ha:(l++[x])[j]?=some a)(hb:(l0++[y])[j]?=some b):rK a b:=by
 rcases zQ3 j l.length with g|g;rw[jU g]at ha;rw[jU (by omega)]at hb;exact ho j a b ha hb;rw[dE g]at ha;rw[dE (by omega)]at hb;have e:j-l.length=0:=by have:=Jp ha;simp at this;omega
 rw[e]at ha;rw[<-hl,e]at hb;simp at ha hb;subst ha hb;exact hx
theorem JIQ{F:Orc}{i:iB}{new:Nat}{s s':TSt}{e:Eff}(h:(bS F (eri i) new).run (Ju s)=some e)(hp:put i.dst e (Ju s)=Ju s'):rK (uwI i new s s') (iO ((bS F (eri i) new).reads (Ju s)),e.ws.map (·.1)):=by
 unfold uwI;split;rename_i k;unfold xh at k;split at k;cases k;rename_i g o C;split at k;cases k;rename_i hd;have D:lk g (Ju s').env=lk g (Ju s).env:=(by rw[<-hp];unfold put;split;rename_i d B;show lk g ((d,e.val)::(Ju s).env)=_;simp only[lk];rw[if_neg (λG=>hd (by rw[B,G]))];rfl);have r: ∀v,tlk g s'.env=some v->lk g (Ju s).env=some (JY (lns s'.sto) v):=λv z=>by rw[<-D];show lk g (fB _ s'.env)=_;rw[xA,z];rfl
 split at k;rename_i x w;split at k;cases k;rename_i E;have n:=r _ w;rw[e_b]at n;have hi:bS F (eri i) new=.slot g fun
  | .p (.b x)=>if x=o then opD F (eri i).op new else .ret ⟨fP,[]⟩
  | .tup []=>.ret ⟨fP,[]⟩
  |_=>.fail:=by unfold bS;rw[show(eri i).g=i.g from rfl,C];rfl
 rw[hi]at h⊢;refine⟨λb j=>?_,λb j=>?_⟩;have:=ID j;simp only[RM.reads,n,bZ,if_neg E]at this;rcases this with this|this;cases this;simp at this;simp only[uR,n,JL,if_neg E,JT]at h;injection h with h;subst h;exact j;rename_i w;have n:=r _ w;have n:lk g (Ju s).env=some (.tup []):=n;have hi:bS F (eri i) new=.slot g fun
  | .p (.b x)=>if x=o then opD F (eri i).op new else .ret ⟨fP,[]⟩
  | .tup []=>.ret ⟨fP,[]⟩
  |_=>.fail:=by unfold bS;rw[show(eri i).g=i.g from rfl,C];rfl
 rw[hi]at h⊢;refine⟨λb j=>?_,λb j=>?_⟩;have:=ID j;simp only[RM.reads,n,bZ]at this;rcases this with this|this;cases this;simp at this;simp only[uR,n,JL,JT]at h;injection h with h;subst h;exact j;cases k;cases hu:uw i.op new s with
 |none=>trivial
 |some A=>
  obtain⟨U,W⟩:=A;obtain⟨h1,h2⟩:=Zb F hu;have H:Rb (· ∈U) (bS F (eri i) new) (Ju s):=(by unfold bS;split;exact h1;refine Ck λv z=>?_;split;split;exact h1;exact bL _;exact bL _;exact JS);refine⟨λb j=>H b (ID j),λb j=>?_⟩;obtain⟨y,q,rfl⟩:=iA.1 j;unfold bS at h;split at h;exact h2 e h y q;simp only[uR]at h;obtain⟨v,z,h⟩:=bG.1 h;split at h;split at h;exact h2 e h y q;injection h with h;subst h;simp at q;injection h with h;subst h;simp at q;cases h
theorem lu{F:Orc}{G:TG}(w:GOk F G): ∀{ins:List iB} {new:Nat} {s:TSt} {l:List nL} {l0:Log} {k:TSt->List nL->Option R} {r:R},l.length=l0.length->(∀(j:Nat) a b,l[j]?=some a->l0[j]?=some b->rK a b)->
  LW G ins new s l k=some r-> ∃s' n g,iM F (ins.map eri) new (Ju s) l0=some (Ju s',n)/\k s' g=some r/\g.length=n.length/\ ∀(j:Nat) a b,g[j]?=some a->n[j]?=some b->rK a b
 |[],new,s,l,l0,k,r,o,v,h=>⟨s,l0,l,rfl,h,o,v⟩
 |i::q,new,s,l,l0,k,r,o,v,h=>by simp only[LW]at h;obtain⟨e,s1,h1,h2,h⟩:=Cd w h;obtain⟨x,n,g,B,z,A,y⟩:=lu w (l0:=l0++[(iO ((bS F (eri i) new).reads (Ju s)),e.ws.map (·.1))]) (by rw[eM,eM,o];rfl) (rK.snoc o v (JIQ h1 h2)) h;refine⟨x,n,g,?_,z,A,y⟩;simp only[bP,iM,h1];rw[show put (eri i).dst e (Ju s)=Ju s1 from h2,show kD (eri i).op=bV i.op from HK _,B]
theorem YZ{a b e g:List Nat}(h:fL e g=true)(ha: ∀x∈a,x∈e)(hb: ∀x∈b,x∈g):fL a b=true:=by unfold fL at h⊢;rw[EC]at h⊢;intro x k;have:=h x (ha x k);simp only[iV,List.contains_eq_mem,decide_eq_false_iff_not]at this⊢;exact λj=>this (hb x j)
theorem ln{l:List nL}{e:Log}(hl:l.length=e.length)(ho: ∀(j:Nat) a b,l[j]?=some a->e[j]?=some b->rK a b): ∀{ps:List (Nat×Nat)},LD l ps=true->CF e ps=true
 |[],_=>rfl
 |(i,j)::r,h=>by
  simp only[LD,JQ]at h;obtain⟨h1,h2⟩:=h;simp only[CF,JQ];refine⟨?_,ln hl ho h2⟩;split at h1;rename_i a b o q;have hi:i<e.length:=by have:=Jp o;omega
  have n:j<e.length:=by have:=Jp q;omega
  have g:=ho i _ _ o (zQ9 hi);have k:=ho j _ _ q (zQ9 n);rw[zQ9 hi,zQ9 n];simp only[JQ]at h1⊢;exact⟨⟨YZ h1.1.1 g.2 k.1,YZ h1.1.2 g.2 k.2⟩,YZ h1.2 g.1 k.2⟩;cases h1
def gf(G:TG)(pairs:List (Nat×Nat))(ins:List iB)(s:TSt)(k:TSt->Option R):Option R:=
 match pairs with
 |[]=>SF G ins s.sto.length (LJ (FW ins) s) k
 |p::ps=>LW G ins s.sto.length (LJ (FW ins) s) [] λs' l=>if LD l (p::ps)=true then k s' else none
theorem JIX{F:Orc}{G:TG}(e:GOk F G){pairs:List (Nat×Nat)}{ins:List iB}{s:TSt}{k:TSt->Option R}{r:R}(h:gf G pairs ins s k=some r): ∃s',region F pairs (ins.map eri) (Ju s)=some (Ju s')/\k s'=some r:=by
 have hlen:(Ju s).sto.length=s.sto.length:=by simp[Ju]
 unfold gf at h;split at h;obtain⟨s',h1,h2⟩:=Da e h;refine⟨s',?_,h2⟩;simp only[region,ZA];rw[l9]at h1;rw[hlen];exact h1;obtain⟨s',w,v,h1,h2,o,g⟩:=lu e (l0:=[]) rfl (λj a b q x=>by simp at q) h;split at h2;rename_i n;refine⟨s',?_,h2⟩;simp only[region,ZA];rw[l9]at h1;rw[hlen,h1];simp only[ln o g n,if_true];cases h2
end
end Go.Am
end
section
namespace Go.Am
def tO(m:Nat)(ids:List Nat)(s:TSt):TC->Option TC
 | .ptr b p=>if b<m then some (.ptr b p)else match dV b ids m with|some k=>some (.ptr k p)|none=>none
 | .slr b=>if b<m then some (.slr b)else match dV b ids m with|some k=>some (.slr k)|none=>match s.sto[b]? with|some (.arr _ t rows)=>some (.d (.l t) rows)|_=>none
 | .slo b n=>if b<m then some (.slo b n)else match dV b ids m with|some k=>some (.slo k n)|none=>none
 | .ep b i p=>if b<m then some (.ep b i p)else match dV b ids m with|some k=>some (.ep k i p)|none=>none
 | .epo b e i p=>if b<m then some (.epo b e i p)else match dV b ids m with|some k=>some (.epo k e i p)|none=>none
 |x=>some x
def wU(m:Nat)(ids:List Nat)(s:TSt):List TC->Option (List TC)|[]=>some []|x::r=>match tO m ids s x,wU m ids s r with|some y,some l=>some (y::l)|_,_=>none
def BB(m:Nat)(ids:List Nat)(s:TSt):TA->Option TA
 | .c x=>match tO m ids s x with|some y=>some (.c y)|none=>none
 | .dt t x=>some (.dt t x)
 | .m t cs=>match wU m ids s cs with
  |some l=>match asm t l with|some x=>some (.dt t x)|none=>if l.any RU=true then some (.m t l)else none
  |none=>none
 | .fn f a c=>match wU m ids s a,wU m ids s c with|some a,some c=>some (.fn f a c)|_,_=>none
def GO(m:Nat)(ids:List Nat)(s:TSt):List TA->Option (List TA)|[]=>some []|x::r=>match BB m ids s x,GO m ids s r with|some y,some l=>some (y::l)|_,_=>none
def jd(m:Nat)(ids:List Nat)(s:TSt):TV->Option TV
 | .a x=>match BB m ids s x with|some y=>some (.a y)|none=>none
 | .tup vs=>match GO m ids s vs with|some l=>some (.tup l)|none=>none
def FZ(m:Nat)(ids:List Nat)(s:TSt):TB->Option TB
 | .mbox t cs=>match wU m ids s cs with|some l=>some (mkb t l)|none=>none
 |x=>some x
def uE(m:Nat)(ids:List Nat)(s:TSt):List TB->Option (List TB)|[]=>some []|x::r=>match FZ m ids s x,uE m ids s r with|some y,some l=>some (y::l)|_,_=>none
def LO(m:Nat)(s:TSt):List (Nat×TV)->Option (List (Nat×TV))|[]=>some []|(k,x)::r=>match jd m [] s x,LO m s r with|some y,some l=>some ((k,y)::l)|_,_=>none
def oH:List Nat->List (Nat×TV)->List (Nat×TV)|[],_=>[]|k::r,env=>match tlk k env with|some v=>(k,v)::oH r env|none=>oH r env
theorem IA(L:Nat->Nat)(env:List (Nat×TV)): ∀live:List Nat,restr live (fB L env)=fB L (oH live env)
 |[]=>rfl
 |k::r=>by
  simp only[restr,oH,xA];cases tlk k env with
  |none=>exact IA L env r
  |some v=>
   have ih:=IA L env r;grind [fB]
section
variable {m:Nat} {ids:List Nat} {s:TSt} {L':Nat->Nat} (h1: ∀b,b<m->L' b=lns s.sto b) (h2: ∀b k,dV b ids m=some k->L' k=lns s.sto b)
include h1 h2
theorem mq{x y:TC}(h:tO m ids s x=some y):fin m ids (Ju s).sto (aU (lns s.sto) x)=some (aU L' y):=by
 cases x with
 |ptr b p=>
  grind [tO,aU,fin]
 |slr b=>
  simp only[tO]at h;simp only[aU,fin];split at h;grind
  ·rename_i g;rw[if_neg g];split at h
   all_goals grind [dX,WA,mY,cel,hdP]
 |slo b n=>
  grind [tO,aU,fin]
 |ep b i p=>
  grind [tO,aU,fin]
 |epo b e i p=>
  grind [tO,aU,fin]
 |_=>injection h with h;subst h;rfl
theorem NO: ∀{xs e:List TC},wU m ids s xs=some e->fin.finL m ids (Ju s).sto (xs.map (aU (lns s.sto)))=some (e.map (aU L'))
 |[],e,h=>by injection h with h;subst h;rfl
 |x::r,e,h=>by
  simp only[wU]at h;split at h;rename_i y l j g;injection h with h;subst h;simp only[bP,fin.finL,mq h1 h2 j,NO g];cases h
theorem ll{x y:TA}(h:BB m ids s x=some y):fin m ids (Ju s).sto (bM (lns s.sto) x)=some (bM L' y):=by
 cases x with
 |c x=>
  simp only[BB]at h;split at h;rename_i y j;injection h with h;subst h;exact mq h1 h2 j;cases h
 |dt t x=>injection h with h;subst h;rfl
 |m t cs=>
  simp only[BB]at h;split at h;rename_i l g;have e:=NO h1 h2 g;grind [bM,fin,GN,HQ,XL];cases h
 |fn f a c=>
  grind [BB,bM,fin,NO]
theorem da: ∀{xs e:List TA},GO m ids s xs=some e->fin.finL m ids (Ju s).sto (xs.map (bM (lns s.sto)))=some (e.map (bM L'))
 |[],e,h=>by injection h with h;subst h;rfl
 |x::r,e,h=>by
  simp only[GO]at h;split at h;rename_i y l j g;injection h with h;subst h;simp only[bP,fin.finL,ll h1 h2 j,da g];cases h
theorem JGH{x y:TV}(h:jd m ids s x=some y):fin m ids (Ju s).sto (JY (lns s.sto) x)=some (JY L' y):=by cases x<;>grind [jd,ll,JY,fin,da]
theorem JFF{x y:TB}(h:FZ m ids s x=some y):fG m ids (Ju s).sto (aT (lns s.sto) x)=some (aT L' y):=by
 cases x with
 |mbox t cs=>
  grind [FZ,GZ,fG,NO,NM]
 |box t x=>injection h with h;grind [BJ,fG,m7]
 |_=>injection h with h;subst h;rfl
theorem OU: ∀{xs e:List TB},uE m ids s xs=some e->pT m ids (Ju s).sto (xs.map (aT (lns s.sto)))=some (e.map (aT L'))
 |[],e,h=>by injection h with h;subst h;rfl
 |x::r,e,h=>by
  simp only[uE]at h;split at h;rename_i y l j g;injection h with h;subst h;simp only[bP,pT,JFF h1 h2 j,OU g];cases h
end
theorem JEO{m:Nat}{ids:List Nat}{s:TSt}{x y:TB}(h:FZ m ids s x=some y):lnB y=lnB x:=by
 cases x with
 |mbox t cs=>
  simp only[FZ]at h;split at h;injection h with h;subst h;exact NA _ _;cases h
 |_=>injection h with h;subst h;rfl
theorem PE{m:Nat}{ids:List Nat}{s:TSt}: ∀{xs e:List TB},uE m ids s xs=some e->e.length=xs.length/\ ∀(k:Nat),lns e k=lns xs k
 |[],e,h=>by injection h with h;simp_all
 |x::r,e,h=>by
  simp only[uE]at h;split at h;rename_i y l j g;injection h with h;subst h;obtain⟨n,o⟩:=PE g;refine⟨by simp[n],λk=>?_⟩;cases k with
  |zero=>exact JEO j
  |succ k=>exact o k
  cases h
theorem ku{m:Nat}{s:TSt}{L':Nat->Nat}(h1: ∀b,b<m->L' b=lns s.sto b): ∀{env e:List (Nat×TV)},LO m s env=some e->tK m (Ju s).sto (fB (lns s.sto) env)=some (fB L' e)
 |[],e,h=>by injection h with h;subst h;rfl
 |(k,x)::r,e,h=>by
  simp only[LO]at h;split at h;rename_i y l n j;injection h with h;subst h;simp only[fB,bP,tK];rw[JGH (ids:=[]) h1 (λb k g=>by cases g) n];have ih:=ku h1 j;grind [fB];cases h
def pY(n:Nat)(live:List Nat)(s:TSt):Option TSt:=
 if s.sto.length=n then some ⟨oH live s.env,s.sto⟩
 else match LO n s (oH live s.env),uE n [] s (s.sto.take n)with|some e,some l=>some ⟨e,l⟩|_,_=>none
theorem CL{n:Nat}{live:List Nat}{s s':TSt}(h:pY n live s=some s'):clean n live (Ju s)=some (Ju s'):=by
 unfold pY at h;have hlen:(Ju s).sto.length=s.sto.length:=by simp[Ju]
 split at h;grind [clean,Ju,IA];rename_i o;split at h;rename_i e l q g;injection h with h;subst h;obtain⟨v,y⟩:=PE g;have hL: ∀b,b<n->lns l b=lns s.sto b:=λb r=>by
  grind [lns]
 unfold clean;rw[hlen,if_neg o];have x:=ku hL q;have w:=OU (ids:=[]) hL (λb k j=>by cases j) g;grind [Ju,IA,List.map_take];cases h
inductive wF where|tmp (t:Nat)|cell (t:Nat) (agg:Bool) (ty:Ty)
def erR:wF->tL| .tmp t=>.tmp t| .cell t agg ty=>.cell t agg ty.sz
def j6(agg:Bool)(ty:Ty)(v:TV)(s:TSt):Option TA:=
 if agg=true\/ty.sz=1 then
  match v with
  | .a (.c (.ptr b []))=>match s.sto[b]? with
   |some (.box e x)=>if h:e=ty then(if agg=true then some (.dt ty (h▸x))else some (.c (.d ty (h▸x))))else none
   |some (.mbox _ cs)=>if cs.length=ty.sz then
    match mka agg ty cs with
    |some (.a x)=>some x
    |_=>none
    else none
   |_=>none
  |_=>none
 else none
theorem JFE{agg:Bool}{ty:Ty}{v:TV}{s:TSt}{x:TA}(h:j6 agg ty v s=some x): ∃e,(fN agg ty.sz (JY (lns s.sto) v)).run (Ju s)=some e/\e.val=bM (lns s.sto) x:=by
 unfold j6 at h;split at h;rename_i w;split at h;rename_i b;split at h;rename_i g y j;split at h;rename_i n;subst n;refine⟨⟨bM (lns s.sto) x,[]⟩,?_,rfl⟩;have hc:jK agg ((cel g y).map .p)=mZ agg (cel g y):=by
  unfold jK mZ;split;rw[HQ];cases hcel:cel g y with
  |nil=>rfl
  |cons a l=>cases l<;>rfl
 have k:sub (cel g y) 0 g.sz=some (cel g y):=XF (dK _ _);have r:=BN (lns s.sto) w y;simp only[jA,spo,fN,dQ,dX,j,cL,JL,BJ,CI,k,hc,r,val,JT];unfold mkv;split at h;rename_i h1;injection h with h;subst h;rw[if_pos h1];rfl;rename_i h1;injection h with h;subst h;rw[if_neg h1];rfl;cases h;rename_i cs j;split at h;rename_i q;split at h;rename_i y o;injection h with h;subst h;have k:sub cs 0 ty.sz=some cs:=XF q;refine⟨⟨bM (lns s.sto) y,[]⟩,?_,rfl⟩;simp only[jA,spo,fN,dQ,dX,j,cL,JL,GZ,CI,k,BL (lns s.sto) o,val,JT];rfl;cases h;cases h;cases h;cases h;cases h
def zR:List wF->TSt->Option (List TA)
 |[],_=>some []
 | .tmp t::r,s=>match tlk t s.env,zR r s with|some (.a x),some l=>some (x::l)|_,_=>none
 | .cell t agg ty::r,s=>match tlk t s.env with
  |some v=>match j6 agg ty v s,zR r s with|some x,some l=>some (x::l)|_,_=>none
  |none=>none
theorem C0(s:TSt)(t:Nat):(RM.slot t RM.ret).run (Ju s)=(tlk t s.env).map (JY (lns s.sto)):=by rw[uR];show(lk t (fB _ s.env)).bind _=_;simp[xA]
theorem XW{s:TSt}: ∀{k:List wF} {l:List TA},zR k s=some l->(mE (k.map erR)).run (Ju s)=some (l.map (bM (lns s.sto)))
 |[],l,h=>by injection h with h;subst h;rfl
 | .tmp t::r,l,h=>by
  simp only[zR]at h;split at h;rename_i x n j g;injection h with h;subst h;simp only[bP,erR,mE,run_bind,C0,j,cL,JL,XW g,JT];rfl;cases h
 | .cell t agg ty::r,l,h=>by
  simp only[zR]at h;split at h;rename_i v o;split at h;rename_i x n j g;injection h with h;subst h;obtain⟨e,q,w⟩:=JFE j;simp only[bP,erR,mE,run_bind,C0,o,cL,JL,q,XW g,JT,w];cases h;cases h
def FS(s:TSt):List Nat->List Nat->Option (List Nat)
 |[],acc=>some acc
 |b::r,acc=>match s.sto[b]? with
  |some (.mbox _ cs)=>match tT cs acc with|some acc=>FS s r acc|none=>none
  |some _=>FS s r acc
  |none=>none
theorem NW{s:TSt}: ∀{r acc l:List Nat},FS s r acc=some l->pM (Ju s).sto (r.map .whole) (acc.map .whole)=l.map .whole
 |[],acc,l,h=>by injection h with h;subst h;rfl
 |b::r,acc,l,h=>by
  simp only[FS]at h;split at h;rename_i cs e;split at h;rename_i g j;simp only[bP,pM,dX,e,cL,GZ,HV (lns s.sto) j];exact NW h;cases h;rename_i x k e;simp only[bP,pM,dX,e,cL];cases x with
  |mbox t cs=>simp_all
  |box t x=>simp only[BJ];rw[oc];exact NW h
  |_=>exact NW h
  cases h
def kN(m:Nat)(fresh:Bool)(s:TSt):List Nat->List Nat
 |[]=>[]
 |b::r=>if b<m then kN m fresh s r else
  match s.sto[b]? with
  |some (.box _ _)=>b::kN m fresh s r
  |some (.mbox _ _)=>b::kN m fresh s r
  |some (.arr _ _ _)=>if fresh=true then b::kN m fresh s r else kN m fresh s r
  |_=>kN m fresh s r
theorem pe{m:Nat}{fresh:Bool}{s:TSt}: ∀r:List Nat,iP m fresh (Ju s).sto (r.map .whole)=kN m fresh s r
 |[]=>rfl
 |b::r=>by
  simp only[bP,iP,kN,dX];rw[pe r];split;rfl;cases s.sto[b]? with
  |none=>rfl
  |some x=>cases x<;>rfl
def LZ(s:TSt):List Nat->Option (List TB)|[]=>some []|b::r=>match s.sto[b]?,LZ s r with|some x,some l=>some (x::l)|_,_=>none
theorem kx{s:TSt}: ∀{ids:List Nat} {l:List TB},LZ s ids=some l->tX (Ju s).sto ids=some (l.map (aT (lns s.sto)))/\l.length=ids.length/\ ∀(j b:Nat),ids[j]?=some b->lns l j=lns s.sto b
 |[],l,h=>by injection h with h;simp_all
 |b::r,l,h=>by
  simp only[LZ]at h;split at h;rename_i x g q e;injection h with h;subst h;obtain⟨k,o,n⟩:=kx e;grind [tX,dX,lns];cases h
def EG:List TA->TV|[x]=>.a x|l=>.tup l
theorem Cf(L:Nat->Nat)(l:List TA):one (l.map (bM L))=JY L (EG l):=by
 match l with
 |[]=>rfl
 |[x]=>rfl
 |x::y::r=>rfl
section
variable {R:Type}
def HB(res:List wF)(fresh:Bool)(m:Nat)(s:TSt)(E:TV->List TB->Option R):Option R:=
 match zR res s with
 |none=>none
 |some vs=>
  if s.sto.length=m then E (EG vs) s.sto
  else match BK vs []with
   |none=>none
   |some e=>match FS s e e with
    |none=>none
    |some i1=>if iK (kN m fresh s i1)=true/\m<=s.sto.length then
     match GO m (kN m fresh s i1) s vs,uE m (kN m fresh s i1) s (s.sto.take m),LZ s (kN m fresh s i1)with
     |some ws,some l,some q=>match uE m (kN m fresh s i1) s q with|some q'=>E (EG ws) (l++q')|none=>none
     |_,_,_=>none
     else none
theorem JDz{f:AFn}{res:List wF}{fresh:Bool}{m:Nat}{s:TSt}{E:TV->List TB->Option R}{r:R}(n:f.res=res.map erR)(J:f.fresh=fresh)(h:HB res fresh m s E=some r):
  ∃v out,fZ f m (Ju s)=some (JY (lns out) v,out.map (aT (lns out)))/\E v out=some r:=by
 unfold HB at h;have hlen:(Ju s).sto.length=s.sto.length:=by simp[Ju]
 split at h;cases h;rename_i vs hvs;have A:=XW hvs;split at h;rename_i z;refine⟨EG vs,s.sto,?_,h⟩;unfold fZ;rw[n,A];dsimp only;rw[hlen,if_pos z,Cf];rfl;rename_i z;split at h;cases h;rename_i C x;split at h;cases h;rename_i i1 o;split at h;rename_i j;obtain⟨L,Z⟩:=j;generalize g:kN m fresh s i1=ids at*;split at h;rename_i ws l q w y G;split at h;rename_i q' e;refine⟨EG ws,l++q',?_,h⟩;obtain⟨U,D⟩:=PE y;obtain⟨S,O,M⟩:=kx G;obtain⟨P,T⟩:=PE e;have I:l.length=m:=by simp_all
 have h1: ∀b,b<m->lns (l++q') b=lns s.sto b:=λb W=>by
  have:=D b;grind [lns]
 have h2: ∀b k,dV b ids m=some k->lns (l++q') k=lns s.sto b:=λb k F=>by
  obtain⟨K,H⟩:=OV F;grind [lns]
 have e1:=da h1 h2 w;have Y:=OU h1 h2 y;have e3:=OU h1 h2 e;have V:cF.entsOfL (vs.map (bM (lns s.sto))) []=C.map .whole:=OR (lns s.sto) (l:=[]) x;have N:=NW o;have B:=pe (m:=m) (fresh:=fresh) (s:=s) i1;rw[g]at B;have Q:(Ju s).sto.take m=(s.sto.take m).map (aT (lns s.sto)):=by simp[Ju]
 grind [fZ,Cf];cases h;cases h;cases h
end
end Go.Am
end
section
namespace Go.Am
inductive ShC where
 |d (t:Ty)
 |sc (t:Ty)
 |np
 |nf
 |un
 |ptr (b:Nat) (p:List Sp)
 |cp (t:Ty) (p:List Sp)
 |slr (b:Nat)
 |fn (f:FuncId)
 deriving DecidableEq
inductive ShA where
 |c (x:ShC)
 |dt (t:Ty)
 |m (t:Ty) (cs:List ShC)
 |fn (f:FuncId) (a c:List ShC)
 deriving DecidableEq
inductive ShV where
 |a (x:ShA)
 |tup (vs:List ShA)
 deriving DecidableEq
inductive ShB where
 |dead
 |box (t:Ty)
 |mbox (t:Ty) (cs:List ShC)
 |arr (w:Bool) (t:Ty)
 deriving DecidableEq
structure ShS where
 env:List (Nat×ShV)
 sto:List ShB
 deriving DecidableEq
abbrev Lf:=(t:Ty)×t.D
def shC:TC->Option (ShC×List Lf)| .d t x=>some (.d t,[⟨t,x⟩])| .sc t rows=>some (.sc t,[⟨.l t,rows⟩])| .np=>some (.np,[])| .nf=>some (.nf,[])| .un=>some (.un,[])| .ptr b p=>if(qY p).isSome=true then some (.ptr b p,[])else none| .cp t x p=>if(qY p).isSome=true then some (.cp t p,[⟨t,x⟩])else none| .slr b=>some (.slr b,[])| .fn f=>some (.fn f,[])|_=>none
def lf1(t:Ty)(l:List Lf):Option (t.D×List Lf):=
 match l with
 |⟨t',x⟩::r=>if h:t'=t then some (h▸x,r)else none
 |[]=>none
def mkC:ShC->List Lf->Option (TC×List Lf)
 | .d t,l=>match lf1 t l with|some (x,r)=>some (.d t x,r)|none=>none
 | .sc t,l=>match lf1 (.l t) l with|some (x,r)=>some (.sc t x,r)|none=>none
 | .np,l=>some (.np,l)
 | .nf,l=>some (.nf,l)
 | .un,l=>some (.un,l)
 | .ptr b p,l=>some (.ptr b p,l)
 | .cp t p,l=>match lf1 t l with|some (x,r)=>some (.cp t x p,r)|none=>none
 | .slr b,l=>some (.slr b,l)
 | .fn f,l=>some (.fn f,l)
theorem GQ(t:Ty)(x:t.D)(r:List Lf):lf1 t (⟨t,x⟩::r)=some (x,r):=by simp[lf1]
theorem GL{x:TC}{sh:ShC}{e:List Lf}(h:shC x=some (sh,e))(rest:List Lf):mkC sh (e++rest)=some (x,rest):=by
 cases x<;>simp only[shC]at h<;>first
  |(split at h
    simp only[Option.some.injEq,Prod.mk.injEq]at h;obtain⟨rfl,rfl⟩:=h;simp only[lE,iX,mkC,GQ];cases h)
  |(simp only[Option.some.injEq,Prod.mk.injEq]at h
    obtain⟨rfl,rfl⟩:=h;simp only[lE,iX,mkC,GQ])
  |cases h
def shL{α σ:Type}(f:α->Option (σ×List Lf)):List α->Option (List σ×List Lf)|[]=>some ([],[])|x::r=>match f x,shL f r with|some (s,l),some (q,k)=>some (s::q,l++k)|_,_=>none
def mkL{α σ:Type}(g:σ->List Lf->Option (α×List Lf)):List σ->List Lf->Option (List α×List Lf)
 |[],l=>some ([],l)
 |s::r,l=>match g s l with
  |some (x,l)=>match mkL g r l with|some (q,l)=>some (x::q,l)|none=>none
  |none=>none
theorem oE{α σ:Type}{f:α->Option (σ×List Lf)}{g:σ->List Lf->Option (α×List Lf)}(n: ∀{x:α} {s:σ} {e:List Lf},f x=some (s,e)-> ∀rest,g s (e++rest)=some (x,rest)):
  ∀{xs:List α} {j:List σ} {e:List Lf},shL f xs=some (j,e)-> ∀rest,mkL g j (e++rest)=some (xs,rest)
 |[],j,e,h,rest=>by injection h with h;injection h with h1 h2;subst h1 h2;rfl
 |x::r,j,e,h,rest=>by
  simp only[shL]at h;split at h;rename_i s l q k h1 h2;injection h with h;injection h with h3 h4;subst h3 h4;simp only[mkL,mL,n h1,oE n h2];cases h
def shA:TA->Option (ShA×List Lf)
 | .c x=>match shC x with|some (s,l)=>some (.c s,l)|none=>none
 | .dt t x=>some (.dt t,[⟨t,x⟩])
 | .m t cs=>match shL shC cs with|some (s,l)=>some (.m t s,l)|none=>none
 | .fn f a c=>match shL shC a,shL shC c with|some (s,l),some (q,k)=>some (.fn f s q,l++k)|_,_=>none
def mkA:ShA->List Lf->Option (TA×List Lf)
 | .c s,l=>match mkC s l with|some (x,l)=>some (.c x,l)|none=>none
 | .dt t,l=>match lf1 t l with|some (x,l)=>some (.dt t x,l)|none=>none
 | .m t s,l=>match mkL mkC s l with|some (x,l)=>some (.m t x,l)|none=>none
 | .fn f a c,l=>match mkL mkC a l with
  |some (x,l)=>match mkL mkC c l with|some (y,l)=>some (.fn f x y,l)|none=>none
  |none=>none
theorem XC{x:TA}{sh:ShA}{e:List Lf}(h:shA x=some (sh,e))(rest:List Lf):mkA sh (e++rest)=some (x,rest):=by
 cases x with
 |c x=>
  simp only[shA]at h;split at h;rename_i s l h1;injection h with h;injection h with h2 h3;subst h2 h3;simp only[mkA,GL h1];cases h
 |dt t x=>injection h with h;grind [mkA,GQ]
 |m t cs=>
  simp only[shA]at h;split at h;rename_i s l h1;injection h with h;injection h with h2 h3;subst h2 h3;simp only[mkA,oE GL h1];cases h
 |fn f a c=>
  simp only[shA]at h;split at h;rename_i s l q k h1 h2;injection h with h;injection h with h3 h4;subst h3 h4;simp only[mkA,mL,oE GL h1,oE GL h2];cases h
def shV:TV->Option (ShV×List Lf)
 | .a x=>match shA x with|some (s,l)=>some (.a s,l)|none=>none
 | .tup vs=>match shL shA vs with|some (s,l)=>some (.tup s,l)|none=>none
def mkV:ShV->List Lf->Option (TV×List Lf)
 | .a s,l=>match mkA s l with|some (x,l)=>some (.a x,l)|none=>none
 | .tup s,l=>match mkL mkA s l with|some (x,l)=>some (.tup x,l)|none=>none
theorem Ac{x:TV}{sh:ShV}{e:List Lf}(h:shV x=some (sh,e))(rest:List Lf):mkV sh (e++rest)=some (x,rest):=by
 cases x with
 |a x=>
  simp only[shV]at h;split at h;rename_i s l h1;injection h with h;injection h with h2 h3;subst h2 h3;simp only[mkV,XC h1];cases h
 |tup vs=>
  simp only[shV]at h;split at h;rename_i s l h1;injection h with h;injection h with h2 h3;subst h2 h3;simp only[mkV,oE XC h1];cases h
def shB:TB->Option (ShB×List Lf)
 | .dead=>some (.dead,[])
 | .box t x=>some (.box t,[⟨t,x⟩])
 | .mbox t cs=>match shL shC cs with|some (s,l)=>some (.mbox t s,l)|none=>none
 | .arr w t rows=>some (.arr w t,[⟨.l t,rows⟩])
def mkB:ShB->List Lf->Option (TB×List Lf)
 | .dead,l=>some (.dead,l)
 | .box t,l=>match lf1 t l with|some (x,l)=>some (.box t x,l)|none=>none
 | .mbox t s,l=>match mkL mkC s l with|some (x,l)=>some (.mbox t x,l)|none=>none
 | .arr w t,l=>match lf1 (.l t) l with|some (x,l)=>some (.arr w t x,l)|none=>none
theorem WP{x:TB}{sh:ShB}{e:List Lf}(h:shB x=some (sh,e))(rest:List Lf):mkB sh (e++rest)=some (x,rest):=by
 cases x with
 |dead=>injection h with h;injection h with h2 h3;subst h2 h3;rfl
 |box t x=>injection h with h;grind [mkB,GQ]
 |mbox t cs=>
  simp only[shB]at h;split at h;rename_i s l h1;injection h with h;injection h with h2 h3;subst h2 h3;simp only[mkB,oE GL h1];cases h
 |arr w t rows=>injection h with h;grind [mkB,GQ]
def shE(x:Nat×TV):Option ((Nat×ShV)×List Lf):=match shV x.2 with|some (s,l)=>some ((x.1,s),l)|none=>none
def mkE(x:Nat×ShV)(l:List Lf):Option ((Nat×TV)×List Lf):=match mkV x.2 l with|some (v,l)=>some ((x.1,v),l)|none=>none
theorem JJu{x:Nat×TV}{sh:Nat×ShV}{e:List Lf}(h:shE x=some (sh,e))(rest:List Lf):mkE sh (e++rest)=some (x,rest):=by
 unfold shE at h;split at h;rename_i s l h1;injection h with h;injection h with h2 h3;subst h2 h3;simp only[mkE,Ac h1];cases h
def shS(s:TSt):Option (ShS×List Lf):=match shL shE s.env,shL shB s.sto with|some (a,l),some (c,k)=>some (⟨a,c⟩,l++k)|_,_=>none
def tM(s:ShS)(l:List Lf):Option TSt:=match mkL mkE s.env l with
 |some (a,l)=>match mkL mkB s.sto l with|some (c,[])=>some ⟨a,c⟩|_=>none
 |none=>none
theorem De{x:TSt}{sh:ShS}{g:List Lf}(h:shS x=some (sh,g)):tM sh g=some x:=by
 unfold shS at h;split at h;rename_i a l c k h1 h2;injection h with h;injection h with h3 h4;subst h3 h4;have e:=oE WP h2 [];rw[jX]at e;simp only[tM,oE JJu h1,e];cases h
def tyL:List Ty->Ty|[]=>.u|[t]=>t|t::t'::r=>.pr t (tyL (t'::r))
def wK:(e:List Lf)->(tyL (e.map (·.1))).D|[]=>()|[x]=>x.2|x::y::r=>(x.2,wK (y::r))
def mO:(ts:List Ty)->(tyL ts).D->List Lf|[],_=>[]|[t],x=>[⟨t,x⟩]|t::t'::r,x=>⟨t,x.1⟩::mO (t'::r) x.2
theorem ZW: ∀e:List Lf,mO (e.map (·.1)) (wK e)=e
 |[]=>rfl
 |[x]=>rfl
 |x::y::r=>by
  have:=ZW (y::r);grind [mO,wK]
def asL(ts:List Ty)(e:List Lf):Option (tyL ts).D:=if h:e.map (·.1)=ts then some (h▸wK e)else none
theorem WN{ts:List Ty}{e:List Lf}{x:(tyL ts).D}(h:asL ts e=some x):mO ts x=e:=by
 grind [asL,ZW]
def zO(sh:ShS)(ts:List Ty)(s:TSt):Option (tyL ts).D:=match shS s with|some (e,g)=>if e=sh then asL ts g else none|none=>none
theorem Ba{sh:ShS}{ts:List Ty}{s:TSt}{x:(tyL ts).D}(h:zO sh ts s=some x):tM sh (mO ts x)=some s:=by
 grind [zO,WN,De]
inductive TCo where|skip|bad|reg (draw:Bool) (pairs:List (Nat×Nat)) (ins:List iB)|seq (a b:TCo)|cond (c:TO) (a b:TCo)|block (id:Nat) (c:TCo)|loop (live:List Nat) (c:TCo)|scope (c:TCo)|exit (id:Nat)|ret|keep (live:List Nat) (c:TCo)|tidy (live:List Nat) (c:TCo)|jn (sh:ShS) (ts:List Ty) (a b:TCo)
def erc:TCo->bT| .skip=>.skip| .bad=>.bad| .reg d p ins=>.reg d p (ins.map eri)| .seq a b=>.seq (erc a) (erc b)| .cond c a b=>.cond (erO c) (erc a) (erc b)| .block id c=>.block id (erc c)| .loop live c=>.loop live (erc c)| .scope c=>.scope (erc c)| .exit id=>.exit id| .ret=>.ret| .keep live c=>.keep live (erc c)| .tidy live c=>.tidy live (erc c)| .jn sh _ a b=>.seq (erc a) (.keep (sh.env.map (·.1)) (erc b))
structure TK(R:Type) where
 n:TSt->Option R
 x:Nat->TSt->Option R
 r:TSt->Option R
def TK.at'{R:Type}(K:TK R):AX->TSt->Option R| .normal=>K.n| .exit i=>K.x i| .ret=>K.r
def rbO(c:TO)(v:Bool)(s:TSt):TSt:=match c with| .t n=>rb n (vb v) s| .c _=>s
def jnO{σ R:Type}(m:Option (σ⊕R))(f:σ->Option R):Option R:=match m with|some (.inl x)=>f x|some (.inr r)=>some r|none=>none
def inl?{σ R:Type}(m:Option σ):Option (σ⊕R):=match m with|some x=>some (.inl x)|none=>none
def onO{α R:Type}(m:Option α)(k:α->Option R):Option R:=match m with|some x=>k x|none=>none
theorem qG{α R:Type}{m:Option α}{k:α->Option R}{r:R}(h:onO m k=some r): ∃x,m=some x/\k x=some r:=by
 cases m with
 |none=>cases h
 |some x=>exact⟨x,rfl,h⟩
def RL{R:Type}(clean:TSt->Option TSt)(body:(TSt->Option R)->TSt->Option R):Nat->TSt->Option R|0,_=>none|k+1,s=>body (λs'=>onO (clean s') (RL clean body k)) s
def orO{σ R:Type}(m:Option σ)(f:Unit->Option R):Option (σ⊕R):=match m with|some x=>some (.inl x)|none=>(f ()).map .inr
noncomputable def trc(G:TG):TCo->(R:Type)->TK R->TSt->Option R
 | .skip,_,K,s=>K.n s
 | .bad,_,_,_=>none
 | .reg _ p ins,_,K,s=>gf G p ins s K.n
 | .seq a b,R,K,s=>trc G a R ⟨λs=>trc G b R K s,K.x,K.r⟩ s
 | .cond c a b,R,K,s=>match tev c s with|some (.a (.c (.d .b x)))=>if x=true then trc G a R K (rbO c true s)else trc G b R K (rbO c false s)|_=>none
 | .block id c,R,K,s=>trc G c R ⟨K.n,λi s=>if i=id then K.n s else K.x i s,K.r⟩ s
 | .loop live c,R,K,s=>onO (shS ⟨oH live s.env,s.sto⟩) fun(sh,e)=>
   J4 (λx:(tyL (e.map (·.1))).D=>onO (tM sh (mO (e.map (·.1)) x)) λs1=>
    trc G c ((tyL (e.map (·.1))).D⊕R) ⟨λs'=>onO (pY s.sto.length live s') λs'=>orO (zO sh (e.map (·.1)) s') λ_=>RL (pY s.sto.length live) (λagain s=>trc G c R ⟨again,K.x,K.r⟩ s) 3 s',λi s'=>(K.x i s').map .inr,λs'=>(K.r s').map .inr⟩ s1) (wK e)
 | .scope c,R,K,s=>trc G c R K s
 | .exit id,_,K,s=>K.x id s
 | .ret,_,K,s=>K.r s
 | .keep live c,R,K,s=>trc G c R K ⟨oH live s.env,s.sto⟩
 | .tidy live c,R,K,s=>trc G c R ⟨λs'=>onO (pY s.sto.length live s') K.n,λi s'=>onO (pY s.sto.length live s') (K.x i),λs'=>onO (pY s.sto.length live s') K.r⟩ s
 | .jn sh ts a b,R,K,s=>jnO (trc G a ((tyL ts).D⊕R) ⟨λs'=>inl? (zO sh ts ⟨oH (sh.env.map (·.1)) s'.env,s'.sto⟩),λi s'=>(K.x i s').map .inr,λs'=>(K.r s').map .inr⟩ s)
   λx=>onO (tM sh (mO ts x)) λs1=>trc G b R K s1
theorem YX(live:List Nat)(s:TSt):Ju ⟨oH live s.env,s.sto⟩=⟨restr live (Ju s).env,(Ju s).sto⟩:=by simp[Ju,IA]
theorem zp{c:TO}{x:Bool}{s:TSt}(h:tev c s=some (vb x)):rbO c x s=s:=by
 cases c with
 |t n=>exact WO h
 |c v=>rfl
theorem JGw{σ R:Type}{m:Option σ}{o:σ⊕R}(h:inl? m=some o): ∃x,m=some x/\o=.inl x:=by
 cases m with
 |none=>cases h
 |some x=>injection h with h;simp_all
theorem kM{T:cW}{G:TG}(q:GOk (AF T) G): ∀{c:TCo} {R:Type} {K:TK R} {s:TSt} {r:R},trc G c R K s=some r-> ∃o s',X T (erc c) (Ju s)=some (o,Ju s')/\K.at' o s'=some r
 | .skip,R,K,s,r,h=>⟨.normal,s,by simp[erc],h⟩
 | .bad,R,K,s,r,h=>by cases h
 | .reg d p ins,R,K,s,r,h=>by obtain⟨s',h1,h2⟩:=JIX q h;exact⟨.normal,s',by simp_all [erc,zg],h2⟩
 | .seq a b,R,K,s,r,h=>by
  obtain⟨o,s1,h1,h2⟩:=kM q (c:=a) h;rw[erc,zl,h1];cases o with
  |normal=>obtain⟨o,n,j,g⟩:=kM q (c:=b) h2;exact⟨o,n,j,g⟩
  |exit i=>exact⟨.exit i,s1,rfl,h2⟩
  |ret=>exact⟨.ret,s1,rfl,h2⟩
 | .cond c a b,R,K,s,r,h=>by
  unfold trc at h;split at h;rename_i x v;have e:evv (erO c) (Ju s).env=some (.p (.b x)):=by rw[<-MF (erO c) (Ju s),bN v];rfl
  rw[erc,JJf,e,zf];split at h;rename_i A;subst A;rw[zp v]at h;simp only[if_true];exact kM q (c:=a) h;rename_i A;have:x=false:=by simpa using A
  subst this;rw[zp v]at h;simp only[dJ,if_false];exact kM q (c:=b) h;cases h
 | .block id c,R,K,s,r,h=>by
  obtain⟨o,s1,h1,h2⟩:=kM q (c:=c) h;rw[erc,JHZ,h1];cases o with
  |normal=>exact⟨.normal,s1,rfl,h2⟩
  |exit i=>
   simp only[lx];simp only[TK.at']at h2;split at h2;rename_i hi;rw[if_pos hi];exact⟨.normal,s1,rfl,h2⟩;rename_i hi;rw[if_neg hi];exact⟨.exit i,s1,rfl,h2⟩
  |ret=>exact⟨.ret,s1,rfl,h2⟩
 | .loop live c,R,K,s,r,h=>by
  unfold trc at h;obtain⟨⟨sh,w⟩,M,h⟩:=qG h;dsimp only at h;have E: ∀(k:Nat) {n:TSt} {r:R},RL (pY s.sto.length live) (λagain s=>trc G c R ⟨again,K.x,K.r⟩ s) k n=some r->
    ∃o s',X T (.lp s.sto.length live (erc c)) (Ju n)=some (o,Ju s')/\K.at' o s'=some r:=by
   intro k
   induction k with
   |zero=>intro n r h;cases h
   |succ k ih=>
    intro n r h;obtain⟨o,B,h1,h2⟩:=kM q (c:=c) h;rw[gi,h1];cases o with
    |normal=>
     obtain⟨N,hc,h2⟩:=qG h2;grind [IB,CL]
    |exit i=>exact⟨.exit i,B,rfl,h2⟩
    |ret=>exact⟨.ret,B,rfl,h2⟩
  have C: ∀{x:(tyL (w.map (·.1))).D} {r:R},J4 (λx:(tyL (w.map (·.1))).D=>onO (tM sh (mO (w.map (·.1)) x)) λs1=>
    trc G c ((tyL (w.map (·.1))).D⊕R) ⟨λs'=>onO (pY s.sto.length live s') λs'=>orO (zO sh (w.map (·.1)) s') λ_=>RL (pY s.sto.length live) (λagain s=>trc G c R ⟨again,K.x,K.r⟩ s) 3 s',λi s'=>(K.x i s').map .inr,λs'=>(K.r s').map .inr⟩ s1) x=some r->
    ∃st,tM sh (mO (w.map (·.1)) x)=some st/\ ∃o s',X T (.lp s.sto.length live (erc c)) (Ju st)=some (o,Ju s')/\K.at' o s'=some r:=by
   intro x r L;refine cm (P:=fun(x:(tyL (w.map (·.1))).D) (r:R)=> ∃st,tM sh (mO (w.map (·.1)) x)=some st/\ ∃o s',X T (.lp s.sto.length live (erc c)) (Ju st)=some (o,Ju s')/\K.at' o s'=some r) ?_ ?_ L;intro x r v;obtain⟨st,z,v⟩:=qG v;obtain⟨o,s1,h1,h2⟩:=kM q (c:=c) v;refine⟨st,z,?_⟩;rw[gi,h1];cases o with
   |normal=>
    obtain⟨n,hc,h2⟩:=qG h2;unfold orO at h2;grind [Option.map_eq_some_iff,IB,CL]
   |exit i=>obtain⟨r',j,g⟩:=fW.1 h2;injection g with g;subst g;exact⟨.exit i,s1,rfl,j⟩
   |ret=>obtain⟨r',j,g⟩:=fW.1 h2;injection g with g;subst g;exact⟨.ret,s1,rfl,j⟩
   rintro x y r v ⟨st',I,o,B,J,H⟩;obtain⟨st,z,v⟩:=qG v;obtain⟨F,s1,h1,h2⟩:=kM q (c:=c) v;refine⟨st,z,?_⟩;rw[gi,h1];cases F with
   |normal=>
    obtain⟨n,hc,h2⟩:=qG h2;unfold orO at h2;grind [Ba,IB,CL,Option.map_eq_some_iff]
   |exit i=>obtain⟨r',_,g⟩:=fW.1 h2;cases g
   |ret=>obtain⟨r',_,g⟩:=fW.1 h2;cases g
  obtain⟨st,z,o,s',h1,h2⟩:=C h;rw[ZW,De M]at z;grind [erc,Ju,JKh,YX]
 | .scope c,R,K,s,r,h=>by
  obtain⟨o,s1,h1,h2⟩:=kM q (c:=c) h;grind [erc,JIi]
 | .exit id,R,K,s,r,h=>⟨.exit id,s,by simp[erc],h⟩
 | .ret,R,K,s,r,h=>⟨.ret,s,by rw[erc,Z3],h⟩
 | .keep live c,R,K,s,r,h=>by
  obtain⟨o,s1,h1,h2⟩:=kM q (c:=c) h;grind [erc,zt,YX]
 | .tidy live c,R,K,s,r,h=>by
  obtain⟨o,s1,h1,h2⟩:=kM q (c:=c) h;rw[erc,JJI,h1,Gk,show(Ju s).sto.length=s.sto.length by simp[Ju]];cases o with
  |normal=>obtain⟨n,j,g⟩:=qG h2;rw[CL j];exact⟨.normal,n,rfl,g⟩
  |exit i=>obtain⟨n,j,g⟩:=qG h2;rw[CL j];exact⟨.exit i,n,rfl,g⟩
  |ret=>obtain⟨n,j,g⟩:=qG h2;rw[CL j];exact⟨.ret,n,rfl,g⟩
 | .jn sh ts a b,R,K,s,r,h=>by
  unfold trc at h;rw[erc,zl];cases ho:trc G a ((tyL ts).D⊕R) ⟨λs'=>inl? (zO sh ts ⟨oH (sh.env.map (·.1)) s'.env,s'.sto⟩),λi s'=>(K.x i s').map .inr,λs'=>(K.r s').map .inr⟩ s with
  |none=>rw[ho]at h;cases h
  |some res=>
   rw[ho]at h;obtain⟨o,s1,h1,h2⟩:=kM q (c:=a) ho;rw[h1];cases o with
   |normal=>
    obtain⟨x,v,rfl⟩:=JGw h2;obtain⟨n,j,g⟩:=qG h;rw[Ba v]at j;injection j with j;subst j;obtain⟨o,B,J,H⟩:=kM q (c:=b) g;grind [IB,zt,YX]
   |exit i=>obtain⟨r',j,g⟩:=fW.1 h2;subst g;injection h with h;subst h;exact⟨.exit i,s1,rfl,j⟩
   |ret=>obtain⟨r',j,g⟩:=fW.1 h2;subst g;injection h with h;subst h;exact⟨.ret,s1,rfl,j⟩
end Go.Am
end
section
namespace Go.Am
structure TFn where
 np:Nat
 nt:Nat
 body:TCo
 res:List wF
 fresh:Bool
def aK(f:TFn):AFn:=⟨f.np,f.nt,erc f.body,f.res.map erR,f.fresh⟩
def GG:Nat->List TA->List (Nat×TV)|_,[]=>[]|k,x::r=>(k,.a x)::GG (k+1) r
theorem lg(L:Nat->Nat): ∀(k:Nat) (xs:List TA),iC k (xs.map (bM L))=fB L (GG k xs)|_,[]=>rfl|k,x::r=>by have:=lg L (k+1) r;simp only[bP,iC,GG,fB,this];rfl
noncomputable def kW(G:TG)(f:TFn){R:Type}(xs:List TA)(bl:List TB)(E:TV->List TB->Option R):Option R:=if xs.length=f.np then trc G f.body R ⟨λs=>HB f.res f.fresh bl.length s E,λ_ _=>none,λs=>HB f.res f.fresh bl.length s E⟩ ⟨GG 0 xs,bl⟩else none
theorem Cs{T:cW}{G:TG}(j:GOk (AF T) G){g:FuncId}{f:TFn}(hf:T g=some (.fn (aK f))){R:Type}{xs:List TA}{bl:List TB}{E:TV->List TB->Option R}{r:R}(h:kW G f xs bl E=some r):
  ∃v out,AF T g (xs.map (bM (lns bl))) (bl.map (aT (lns bl)))=some (JY (lns out) v,out.map (aT (lns out)))/\E v out=some r:=by
 unfold kW at h;split at h;rename_i y;obtain⟨o,s',h1,h2⟩:=kM j h;have e:Ju ⟨GG 0 xs,bl⟩=⟨iC 0 (xs.map (bM (lns bl))),bl.map (aT (lns bl))⟩:=by simp[Ju,lg]
 rw[e]at h1;have fin:HB f.res f.fresh bl.length s' E=some r-> ∃v out,fZ (aK f) bl.length (Ju s')=some (JY (lns out) v,out.map (aT (lns out)))/\E v out=some r:=
  λh=>JDz rfl rfl h
 have z: ∀q,fZ (aK f) bl.length (Ju s')=some q->(o=.normal\/o=.ret)->AF T g (xs.map (bM (lns bl))) (bl.map (aT (lns bl)))=some q:=by intro q k w;rw[Zt T hf,if_pos (by rw[eK];exact y),show(aK f).body=erc f.body from rfl,h1,eK];rcases w with rfl|rfl<;>exact k
 cases o with
 |normal=>
  obtain⟨v,out,x,n⟩:=fin h2;grind
 |exit i=>cases h2
 |ret=>
  obtain⟨v,out,x,n⟩:=fin h2;grind
 cases h
structure TE where
 f:FuncId
 go: ∀{R:Type},List TA->List TB->(TV->List (Bool×TB)->Option R)->Option R
 fit:List TA->List TB->Bool
structure EOk(F:Orc)(e:TE):Prop where
 ok: ∀{R:Type} {xs:List TA} {bl:List TB} {kk:TV->List (Bool×TB)->Option R} {r:R},e.go xs bl kk=some r->
  ∃v out,F e.f (xs.map (bM (lns bl))) (bl.map (aT (lns bl)))=some (JY (nJ out) v,out.map λx=>aT (nJ out) x.2)/\
   (∀(k:Nat) x,out[k]?=some (true,x)->k<bl.length->lnB x=lns bl k)/\kk v out=some r
def goE{R:Type}(f:FuncId)(xs:List TA)(bl:List TB)(kk:TV->List (Bool×TB)->Option R):List TE->Option R|[]=>none|e::r=>if f=e.f/\e.fit xs bl=true then e.go xs bl kk else goE f xs bl kk r
def TG.of(l:List TE):TG:=⟨λf xs bl kk=>goE f xs bl kk l⟩
def rJ(F:Orc):List TE->Prop|[]=>True|e::r=>EOk F e/\rJ F r
theorem z7{F:Orc}{R:Type}{f:FuncId}{xs:List TA}{bl:List TB}{kk:TV->List (Bool×TB)->Option R}{r:R}: ∀{l:List TE},rJ F l->goE f xs bl kk l=some r->
  ∃v out,F f (xs.map (bM (lns bl))) (bl.map (aT (lns bl)))=some (JY (nJ out) v,out.map λx=>aT (nJ out) x.2)/\
   (∀(k:Nat) x,out[k]?=some (true,x)->k<bl.length->lnB x=lns bl k)/\kk v out=some r
 |[],_,h=>by cases h
 |e::l,g,h=>by
  simp only[goE]at h;split at h;rename_i j;obtain⟨rfl,_⟩:=j;exact g.1.ok h;exact z7 g.2 h
theorem Ab{F:Orc}{l:List TE}(h:rJ F l):GOk F (TG.of l):=⟨λe=>z7 h e⟩
structure Sig where
 args:List ShA
 blks:List ShB
 ti:List Ty
 res:ShV
 out:List ShB
 same:List Bool
 to:List Ty
def gL(g:Sig)(x:(tyL g.ti).D):Option (List TA×List TB):=match mkL mkA g.args (mO g.ti x)with
 |some (xs,l)=>match mkL mkB g.blks l with|some (bl,[])=>some (xs,bl)|_=>none
 |none=>none
def rB(g:Sig)(xs:List TA)(bl:List TB):Option (tyL g.ti).D:=match shL shA xs,shL shB bl with|some (a,l),some (c,k)=>if a=g.args/\c=g.blks then asL g.ti (l++k)else none|_,_=>none
theorem C4{g:Sig}{xs:List TA}{bl:List TB}{x:(tyL g.ti).D}(h:rB g xs bl=some x):gL g x=some (xs,bl):=by
 unfold rB at h;split at h;rename_i a l c k h1 h2;split at h;rename_i j;obtain⟨rfl,rfl⟩:=j;have e:=oE WP h2 [];rw[jX]at e;unfold gL;rw[WN h,oE XC h1 k];simp only[e];cases h;cases h
def BD(g:Sig)(y:(tyL g.to).D):Option (TV×List TB):=match mkV g.res (mO g.to y)with
 |some (v,l)=>match mkL mkB g.out l with|some (out,[])=>some (v,out)|_=>none
 |none=>none
def hJ(g:Sig)(v:TV)(out:List TB):Option (tyL g.to).D:=match shV v,shL shB out with|some (a,l),some (c,k)=>if a=g.res/\c=g.out then asL g.to (l++k)else none|_,_=>none
theorem k9{g:Sig}{v:TV}{out:List TB}{y:(tyL g.to).D}(h:hJ g v out=some y):BD g y=some (v,out):=by
 unfold hJ at h;split at h;rename_i a l c k h1 h2;split at h;rename_i j;obtain⟨rfl,rfl⟩:=j;have e:=oE WP h2 [];rw[jX]at e;unfold BD;rw[WN h,Ac h1 k];simp only[e];cases h;cases h
def flg(same:List Bool)(out:List TB):List (Bool×TB):=match same,out with|b::r,x::l=>(b,x)::flg r l|[],x::l=>(false,x)::flg [] l|_,[]=>[]
theorem uN: ∀(same:List Bool) (out:List TB),(flg same out).map (·.2)=out|[],[]=>rfl|[],x::l=>by simp only[flg,bP,uN [] l]|b::r,[]=>rfl|b::r,x::l=>by simp only[flg,bP,uN r l]
def aF(f:FuncId)(g:Sig)(S:(tyL g.ti).D->Option (tyL g.to).D):TE:=
 ⟨f,λxs bl kk=>match rB g xs bl with
  |some x=>(S x).bind λy=>match BD g y with|some (v,out)=>kk v (flg g.same out)|none=>none
  |none=>none,λxs bl=>(rB g xs bl).isSome⟩
def il:ShB->Bool| .arr _ _=>false|_=>true
def BQ(g:Sig):Bool:=(List.range g.same.length).all λk=>match g.same[k]?,g.blks[k]?,g.out[k]? with|some true,some a,some c=>il a&&il c|some true,some _,none=>false|_,_,_=>true
theorem lj{x:TB}{s:ShB}{e:List Lf}(h:shB x=some (s,e))(hb:il s=true):lnB x=0:=by
 cases x with
 |arr w t rows=>injection h with h;injection h with h1;subst h1;cases hb
 |_=>rfl
theorem WB{α σ:Type}{f:α->Option (σ×List Lf)}: ∀{xs:List α} {e:List σ} {j:List Lf},shL f xs=some (e,j)-> ∀(k:Nat) x,xs[k]?=some x-> ∃s l,e[k]?=some s/\f x=some (s,l)
 |[],_,_,_,k,x,g=>by simp at g
 |y::r,e,j,h,k,x,g=>by
  simp only[shL]at h;split at h;rename_i s l q n h1 h2;injection h with h;injection h with h3 h4;subst h3 h4;cases k with
  |zero=>simp_all
  |succ k=>exact WB h2 k x (by simpa using g)
  cases h
theorem MQ: ∀{same:List Bool} {out:List TB} {k:Nat} {x:TB},(flg same out)[k]?=some (true,x)->same[k]?=some true/\out[k]?=some x
 |[],[],k,x,h=>by simp[flg]at h
 |[],y::l,k,x,h=>by
  cases k with
  |zero=>simp[flg]at h
  |succ k=>simp only[flg,List.getElem?_cons_succ]at h;have:=MQ (same:=[]) h;simp at this
 |b::r,[],k,x,h=>by simp[flg]at h
 |b::r,y::l,k,x,h=>by
  cases k with
  |zero=>grind [flg]
  |succ k=>simp only[flg,List.getElem?_cons_succ]at h;simpa using MQ h
theorem MR{T:cW}{f:FuncId}{g:Sig}{S:(tyL g.ti).D->Option (tyL g.to).D}(hs:BQ g=true)
  (h: ∀x xs bl y,gL g x=some (xs,bl)->S x=some y-> ∃v out,AF T f (xs.map (bM (lns bl))) (bl.map (aT (lns bl)))=some (JY (lns out) v,out.map (aT (lns out)))/\hJ g v out=some y):EOk (AF T) (aF f g S):=by
 refine⟨fun{R xs bl kk r} j=>?_⟩;simp only[aF]at j;split at j;rename_i x n;obtain⟨y,L,j⟩:=bG.1 j;split at j;rename_i v out o;obtain⟨E,e,h1,h2⟩:=h x xs bl y (C4 n) L;rw[k9 h2]at o;injection o with o;injection o with hv1 hv2;subst hv1 hv2;refine⟨E,flg g.same e,?_,λk z K A=>?_,j⟩;unfold nJ;rw[uN];have:(flg g.same e).map (λx=>aT (lns e) x.2)=e.map (aT (lns e)):=by
  conv=>rhs;rw[<-uN g.same e,wB]
  simp[uN]
 rw[this];exact h1;obtain⟨q,w⟩:=MQ K;unfold BQ at hs;rw[EC]at hs;have hs:=hs k (by grind);unfold rB at n;split at n;rename_i a l c O Y J;split at n;rename_i B;obtain⟨W,Q,I,M⟩:=WB J k _ (zQ9 A);unfold hJ at h2;split at h2;rename_i a2 V P U Z H;split at h2;rename_i C;obtain⟨sc,N,G,F⟩:=WB H k z w;rw[q,<-B.2,I,<-C.2,G]at hs;simp only[JQ]at hs;rw[lj F hs.2];unfold lns;rw[zQ9 A];exact(lj M hs.1).symm;cases h2;cases h2;cases n;cases n;cases j;cases j
theorem jv{T:cW}{f:FuncId}{g:Sig}{fn:TFn}{S:(tyL g.ti).D->Option (tyL g.to).D}{l:List TE}(hf:T f=some (.fn (aK fn)))(hl:rJ (AF T) l)(hs:BQ g=true)
  (h: ∀x,onO (gL g x) (λy=>kW (TG.of l) fn y.1 y.2 (hJ g))=S x):EOk (AF T) (aF f g S):=by
 refine MR hs λx xs bl y k j=>?_;have e:=h x;rw[k,j]at e;exact Cs (Ab hl) hf e
def iD{α β:Type}(S:(α->Option β)->α->Option β):Nat->α->Option β|0=>λ_=>none|n+1=>S (iD S n)
theorem XB{T:cW}{f:FuncId}{g:Sig}{fn:TFn}{S:((tyL g.ti).D->Option (tyL g.to).D)->(tyL g.ti).D->Option (tyL g.to).D}{l:List TE}(hf:T f=some (.fn (aK fn)))(hl:rJ (AF T) l)(hs:BQ g=true)
  (h: ∀r x,onO (gL g x) (λy=>kW (TG.of (aF f g r::l)) fn y.1 y.2 (hJ g))=S r x): ∀n,EOk (AF T) (aF f g (iD S n))
 |0=>MR hs λx xs bl y j e=>by cases e
 |n+1=>jv hf (l:=aF f g (iD S n)::l) (And.intro (XB hf hl hs h n) hl) hs (h (iD S n))
end Go.Am
end
section
namespace Go.Am
end Go.Am
end
section
namespace Go.Am
theorem k5(t:Ty)(x:t.D)(r:List Lf):lf1 t (⟨t,x⟩::r)=some (x,r):=by simp[lf1]
end Go.Am
end
