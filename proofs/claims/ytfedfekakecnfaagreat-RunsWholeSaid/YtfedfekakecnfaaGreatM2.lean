/-
  Parts of a proof.
-/
import Derived.Orders
import Derived.LoopN
import Derived.Scope
import Derived.Below
import Derived.Test.YtfedfekakecnfaaGreatM1
set_option linter.unusedSimpArgs false
set_option linter.unusedVariables false
section
namespace Go.Am
section
variable {P:Program} {F:Orc} {s:Sn} {a:Act} {env:List (Nat×AV)} {o:Oper} {new:Nat} {e:Eff}
theorem pu{q:List Blk}(hi:Inv s)(A:Frz q s.σ){x:AV}{y:AV×List (Nat×Blk)}{v:Value}(h:(jB x).run ⟨env,q⟩=some y)(hr:JH s x v):
  ∃g',Inv ⟨upd y.2 s.σ,g',s.w⟩/\bB s ⟨upd y.2 s.σ,g',s.w⟩/\Frz s.σ (upd y.2 s.σ)/\JH ⟨upd y.2 s.σ,g',s.w⟩ y.1 v:=by
 have same: ∀{z:AV},(RM.ret (z,[]):RM (AV×List (Nat×Blk))).run ⟨env,q⟩=some y->JH s z v-> ∃g',Inv ⟨upd y.2 s.σ,g',s.w⟩/\bB s ⟨upd y.2 s.σ,g',s.w⟩/\Frz s.σ (upd y.2 s.σ)/\JH ⟨upd y.2 s.σ,g',s.w⟩ y.1 v:=(by intro z j hr;simp only[RM.run]at j;injection j with j;subst j;exact⟨s.g,hi,.refl s,.refl _,hr⟩);cases x with
 |slr b i n=>
  simp only[jB]at h;obtain⟨B,h1,h⟩:=bind_some h;obtain⟨g',k,r,o,c,hc,D⟩:=NB hi A h1 hr;rw[hc]at h;simp only[RM.run]at h;injection h with h;subst h;exact⟨g',k,r,o,.p _ _ D⟩
 |agg cs=>
  simp only[jB]at h;obtain⟨B,h1,h⟩:=bind_some h;simp only[RM.run]at h;injection h with h;subst h;obtain⟨g',k,r,o,E,C⟩:=ZJ hi A h1 hr;cases hr with
  |agg _ vs h1 H h2=>exact⟨g',k,r,o,.data _ _ E λi x v F G=>C i x v F G⟩
 |tup=>grind [jB,RM.run]
 |p c=>exact same h hr
 |data cs=>exact same h hr
 |ptr b off=>exact same h hr
 |cp cs off=>exact same h hr
 |ep b e i off=>exact same h hr
 |fn f first caps=>exact same h hr
 |unk=>exact same h hr
theorem sn{q:List Blk}: ∀{xs:List AV} {s:Sn} {y:List AV×List (Nat×Blk)} {vs:List Value},Inv s->Frz q s.σ->(kK xs).run ⟨env,q⟩=some y->xs.length=vs.length->
  (∀(i:Nat) x v,xs[i]?=some x->vs[i]?=some v->JH s x v)->
  ∃g',Inv ⟨upd y.2 s.σ,g',s.w⟩/\bB s ⟨upd y.2 s.σ,g',s.w⟩/\Frz s.σ (upd y.2 s.σ)/\y.1.length=vs.length/\
   ∀(i:Nat) x v,y.1[i]?=some x->vs[i]?=some v->JH ⟨upd y.2 s.σ,g',s.w⟩ x v
 |[],s,y,vs,hi,j,h,e,k=>by
  simp only[kK,RM.run]at h;injection h with h;subst h;exact⟨s.g,hi,.refl s,.refl _,by simpa using e,λi c v hc=>by simp at hc⟩
 |x::xs,s,y,[],hi,j,h,e,k=>by simp at e
 |x::xs,s,y,v::vs,hi,j,h,e,k=>by
  simp only[kK]at h;obtain⟨z,h1,h⟩:=bind_some h;obtain⟨K,h2,h⟩:=bind_some h;simp only[RM.run]at h;injection h with h;subst h;obtain⟨C,i1,o,n,I⟩:=pu hi j h1 (k 0 x v rfl rfl);obtain⟨B,i2,r,A,F,J⟩:=sn (s:=⟨upd z.2 s.σ,C,s.w⟩) i1 (j.trans n) h2 (by simpa using e) λi x v D E=>(k (i+1) x v (by simpa using D) (by simpa using E)).mono hi o;refine⟨B,by grind [eR],by rw[eR];exact o.trans r,by rw[eR];exact n.trans A,by simp[F],λi c' H hc' G=>?_⟩;grind [JH.mono,upd]
def Dd(s1:Sn)(es:List Ent)(new:Nat)(e:Ent)(x:Blk)(y:Nat×Blk):Prop:=
 y.1=e.id/\match e with
 | .whole _=>(∃cs l,x=.box cs/\bk.bkL es new cs=some l/\y.2=.box l)\/(∃w esz rows,x=.arr w esz rows/\y.2=.arr w esz rows)
 | .elem b _ i=> ∃w esz rows g,s1.σ[b]?=some (.arr w esz rows)/\x=.box (g.map .p)/\y.2=.arr w esz (rows.set i g)
theorem JE1{g:List Blk}{ws:List (Nat×Blk)}(k:s.σ=upd ws g){es:List Ent}{en:Ent}{x:Blk}{y:Nat×Blk}(h:(tY ws es new en x).run ⟨env,g⟩=some y):Dd s es new en x y:=by
 unfold tY at h;split at h;rename_i b cs;split at h;rename_i l o;simp only[RM.run]at h;injection h with h;subst h;exact⟨rfl,.inl ⟨cs,l,rfl,o,rfl⟩⟩;cases h;simp only[RM.run]at h;injection h with h;subst h;exact⟨rfl,.inr ⟨_,_,_,rfl,rfl⟩⟩;rename_i b ext i cs;obtain⟨z,h1,h⟩:=bind_some h;have j:=em h1;rw[<-k]at j;cases z with
 |arr w esz rows=>
  dsimp only at h;split at h;rename_i e n;simp only[RM.run]at h;injection h with h;subst h;exact⟨rfl,w,esz,rows,e,j,by grind [RX],rfl⟩;cases h
 |_=>cases h
 cases h
theorem uh{j:List Blk}{ws:List (Nat×Blk)}(n:s.σ=upd ws j){es:List Ent}: ∀{e:List Ent} {xs:List Blk} {g:List (Nat×Blk)},(iS ws es new e xs).run ⟨env,j⟩=some g->
  e.length=g.length/\e.length<=xs.length/\ ∀(k:Nat) en x y,e[k]?=some en->xs[k]?=some x->g[k]?=some y->Dd s es new en x y
 |[],xs,g,h=>by grind [iS,RM.run]
 |_::_,[],g,h=>by cases h
 |en::e,x::xs,g,h=>by
  simp only[iS]at h;obtain⟨y,h1,h⟩:=bind_some h;obtain⟨l,h2,h⟩:=bind_some h;simp only[RM.run]at h;injection h with h;subst h;obtain⟨o,q,r⟩:=uh n h2;grind [JE1]
theorem ij{es:List Ent}: ∀{xs:List Blk} {g:Nat} {e:List (Nat×Blk)},gW es new g xs=some e->
  xs.length=e.length/\ ∀(j:Nat) x y,xs[j]?=some x->e[j]?=some y->y.1=g+j/\((∃cs l,x=.box cs/\bk.bkL es new cs=some l/\y.2=.box l)\/(∃w esz rows,x=.arr w esz rows/\y.2=.arr w esz rows))
 |[],g,e,h=>by grind [gW]
 | .dead::_,g,e,h=>by grind [gW]
 | .box cs::xs,g,e,h=>by
  simp only[gW]at h;split at h;rename_i c l hc k;injection h with h;subst h;obtain⟨n,o⟩:=ij k;grind;cases h
 | .arr w esz rows::xs,g,e,h=>by
  simp only[gW]at h;split at h;rename_i l k;injection h with h;subst h;obtain⟨n,o⟩:=ij k;grind;cases h
theorem sb(b:Nat)(p q:List (Nat×Blk)):jF b (p++q)=match jF b q with
  |some y=>some y
  |none=>jF b p:=by
 induction p with
 |nil=>grind [jF]
 |cons x p ih=>
  grind [jF]
theorem ew{b:Nat}{x:Blk}: ∀{ws:List (Nat×Blk)},(ws.map (·.1)).Nodup-> ∀{k:Nat},ws[k]?=some (b,x)->jF b ws=some x
 |[],_,k,h=>by simp at h
 |(c,z)::r,hn,k,h=>by
  obtain⟨h1,h2⟩:=List.nodup_cons.1 hn;simp only[jF];cases k with
  |zero=>
   grind [xH]
  |succ k=>rw[ew h2 (k:=k) (by simpa using h)]
theorem JAc(n k:Nat):((List.range k).map (n+ ·)).Nodup:=by
 grind [List.nodup_range]
theorem sg(hF:jO P F){f:FuncId}{ar:List AV×List (Nat×Blk)}{q:Nat}{vals:Array Value}(H: ∀j,j<q->s.σ[new+j]?=some .dead)
  {g1:Gh} (i1:Inv ⟨upd ar.2 s.σ,g1,s.w⟩) (t1:bB s ⟨upd ar.2 s.σ,g1,s.w⟩) (f1:Frz s.σ (upd ar.2 s.σ)) (l1:ar.1.length=vals.toList.length)
  (r1: ∀(i:Nat) x v,ar.1[i]?=some x->vals.toList[i]?=some v->JH ⟨upd ar.2 s.σ,g1,s.w⟩ x v)
  (h:(fP F f ar q new).run ⟨env,s.σ⟩=some e)
  (ai: ∀fn,P.funcs[f]?=some fn→fn.body.isSome=true→(fn.name== "runtime.NumGoroutine")=false→(execOp a.eval o).run P s.w=.ok (.enter f vals) s.w):bM P o a s e:=by
 unfold fP at h;obtain⟨b7,h2,h⟩:=bind_some h;obtain⟨es,h3,h⟩:=bind_some h;split at h;rename_i ah;split at h;cases h;rename_i N a7;obtain⟨blks,h4,h⟩:=bind_some h;split at h;cases h;rename_i r a9;split at h;rename_i V;obtain⟨k,hlen,hk⟩: ∃k,r.2.length=es.length+k/\k<=q:=⟨r.2.length-es.length,by omega,by omega⟩;have M: ∀j,j<k->s.σ[new+j]?=some .dead:=λj hj=>H j (by omega);clear V;split at h;rename_i v fresh hv K;obtain⟨n,h5,h⟩:=bind_some h;simp only[RM.run]at h;injection h with h;subst h
 let s1:Sn:=⟨upd ar.2 s.σ,g1,s.w⟩
 obtain⟨bl,a6⟩:=tc (s:=s1) rfl h4;have cin:ZL s1 es blks:=⟨i1,TI ah,bl,a6⟩;obtain⟨⟨fn,af,O,S⟩,R⟩:=hF f N blks r a9;obtain⟨q1,q2⟩:=uI a7;have ci:=JNn cin;have hc:=R (hE s1 es blks).g s.w vals ci (by grind) (λi x v hx hv=>by have A:=Jw hx;have Y:ar.1[i]?=some (ar.1[i]'(by omega)):=zQ9 _;exact C0 cin (r1 i _ v Y (by simpa using hv)) (q2 i _ x Y hx));intro next Q T;simp only[Oper.wp,ai fn af O S,Oper.upon];refine hc.mono ?_;rintro e w' ⟨rv,g',rfl,a8,I,a3⟩;simp only;obtain⟨b1,b2,b3⟩:=uh (s:=s1) rfl h5;obtain⟨n1,n2⟩:=ij K;have B: ∀j,j<k->s1.σ[new+j]?=some .dead:=λj hj=>f1.2 _ _ (M j hj) (by simp);have ba:(r.2.drop es.length).length=k:=by simp;omega
 have ad:n.map (·.1)=es.map Ent.id:=(by apply zQ6;intro i;rw[fT,fT];by_cases A:i<es.length;have E:es[i]?=some es[i]:=zQ9 A;have L:n[i]?=some (n[i]'(by omega)):=zQ9 _;have G:r.2[i]?=some (r.2[i]'(by omega)):=zQ9 _;have:=(b3 i _ _ _ E G L).1;grind;grind);have ac: ∀j,j<k->fresh[j]?=some (new+j,(fresh[j]?.map (·.2)).getD .dead):=(by grind);have am:(fresh.map (·.1)).Nodup:=(by have:fresh.map (·.1)=(List.range k).map (new+ ·):=(by apply zQ6;grind);grind [JAc]);have al: ∀b,b∈fresh.map (·.1)↔new<=b/\b<new+k:=(by intro b;constructor;grind [List.getElem?_of_mem];intro hm;have:=ac (b-new) (by omega);grind);have W:(upd (n++fresh) s1.σ).length=s1.σ.length:=zU _ _;have U: ∀{q:Nat} {en:Ent},es[q]?=some en->en.id<s1.σ.length/\ ¬(new<=en.id/\en.id<new+k):=by
  intro q en C;obtain⟨x,_,Z⟩:=qZ cin C;have z: ∃y,s1.σ[en.id]?=some y/\y≠.dead:=by
   cases en with
   |whole b=>
    rcases Z with⟨cs',l,h1,h2,rfl⟩|⟨w,a2,rows',h1,rfl⟩;exact⟨_,h1,by simp⟩;exact⟨_,h1,by simp⟩
   |elem b ext i=>obtain⟨a2,rows',row,h1,h2,h3,rfl⟩:=Z;exact⟨_,h1,by simp⟩
  obtain⟨y,z,hd⟩:=z;refine⟨Jw z,λhm=>?_⟩;have:=B (en.id-new) (by omega);rw[show new+(en.id-new)=en.id by omega,z]at this;grind
 have ab: ∀{q:Nat} {en:Ent} {y:Nat×Blk},es[q]?=some en->n[q]?=some y->(upd (n++fresh) s1.σ)[en.id]?=some y.2:=by intro q en y C z;obtain⟨A,b8⟩:=U C;have G:r.2[q]?=some (r.2[q]'(by grind)):=zQ9 _;have ag:=(b3 q en _ y C G z).1;rw[wR _ _ _ A,sb,xH (by grind)];simp only;rw[ew (x:=y.2) (by rw[ad];exact cin.nodup) (k:=q) (by grind)]
 have av: ∀{j:Nat} {y:Nat×Blk},j<k->fresh[j]?=some y->(upd (n++fresh) s1.σ)[new+j]?=some y.2:=(by grind [wR,sb,ew]);have co:Fm s1 es blks new k ⟨r.2,g',w'⟩ (upd (n++fresh) s1.σ):=by
  refine⟨cin,a8,I,hlen,W,B,λq y z=>?_,λb bc b9=>?_⟩;have z:r.2[q]?=some y:=z;unfold oZ;cases C:es[q]? with
  |some en=>
   have A:=Jw C;have L:n[q]?=some (n[q]'(by omega)):=zQ9 _;obtain⟨ag,a0⟩:=b3 q en y _ C z L;have hg:=ab C L;cases en with
   |whole b=>
    rcases a0 with⟨cs,l,E,G,J⟩|⟨w,esz,rows,E,J⟩;exact .inl ⟨cs,l,E,G,by rw[<-J];exact hg⟩;exact .inr ⟨w,esz,rows,E,by rw[<-J];exact hg⟩
   |elem b ext i=>obtain⟨w,esz,rows,a5,E,G,J⟩:=a0;exact⟨w,esz,rows,a5,E,G,by rw[<-J];exact hg⟩
  |none=>
   have bb:es.length<=q:=(by grind);have A:=Jw z;have L:fresh[q-es.length]?=some (fresh[q-es.length]'(by omega)):=zQ9 _;grind
  grind [wR,xH]
 have oi:=JKl co;have ot:=q8 co;have D:upd (ar.2++n++fresh) s.σ=upd (n++fresh) s1.σ:=by grind [eR]
 refine T rv w' (fD s1 es new k ⟨r.2,g',w'⟩ (upd (n++fresh) s1.σ)).g ?_ ?_ ?_;rw[D];exact oi;rw[D];exact t1.trans ot;rw[D];exact G0 co a3 hv;cases h;cases h;cases h
theorem Gf{f:FuncId}{args:List AV}{k:Nat}{s:St}(h:(hX F f args k new).run s=some e): ∃ar,(kK args).run s=some ar/\(fP F f ar k new).run s=some e:=by
 unfold hX at h;obtain⟨ar,h1,h⟩:=bind_some h;obtain⟨w,h2,h⟩:=bind_some h;obtain⟨es,v,h⟩:=bind_some h;refine⟨ar,h1,?_⟩;unfold fP;rw[run_bind,h2,JO,run_bind,v,JO];split at h;rename_i n;rw[if_pos n];split at h;cases h;rename_i o g;obtain⟨blks,q,h⟩:=bind_some h
 try rw[g]
 try dsimp only
 rw[run_bind,q,JO];split at h;cases h;rename_i r j
 try rw[j]
 try dsimp only
 split at h;grind;cases h;cases h
theorem Gi(A:jO P F)(hi:Inv s){f:FuncId}{args:List AV}{k:Nat}{vals:Array Value}(g: ∀j,j<k->s.σ[new+j]?=some .dead)
  (h:(hX F f args k new).run ⟨env,s.σ⟩=some e) (hl:args.length=vals.size) (hr: ∀(i:Nat) x v,args[i]?=some x->vals[i]?=some v->JH s x v)
  (r: ∀fn,P.funcs[f]?=some fn→fn.body.isSome=true→(fn.name== "runtime.NumGoroutine")=false→(execOp a.eval o).run P s.w=.ok (.enter f vals) s.w):bM P o a s e:=by
 obtain⟨ar,h1,h2⟩:=Gf h;obtain⟨D,i1,B,z,C,y⟩:=sn (vs:=vals.toList) hi (.refl _) h1 (by simpa using hl) (λi x v n q=>hr i x v n (by simpa using q));grind [sg]
theorem JFF{r:List Blk}: ∀{m:List Bool} {xs:List AV} {s:Sn} {y:List AV×List (Nat×Blk)} {vs:List Value},Inv s->Frz r s.σ->(fC m xs).run ⟨env,r⟩=some y->xs.length=vs.length->
  (∀(i:Nat) x v,xs[i]?=some x->vs[i]?=some v->JH s x v)->
  ∃g',Inv ⟨upd y.2 s.σ,g',s.w⟩/\bB s ⟨upd y.2 s.σ,g',s.w⟩/\Frz s.σ (upd y.2 s.σ)/\y.1.length=vs.length/\
   ∀(i:Nat) x v,y.1[i]?=some x->vs[i]?=some v->JH ⟨upd y.2 s.σ,g',s.w⟩ x v:=by
 intro m xs
 induction xs generalizing m with
 |nil=>
  intro s y vs hi q h j k;have h:(RM.ret ([],[]):RM (List AV×List (Nat×Blk))).run ⟨env,r⟩=some y:=by cases m<;>exact h
  simp only[RM.run]at h;injection h with h;subst h;exact⟨s.g,hi,.refl s,.refl _,by simpa using j,λi c v hc=>by simp at hc⟩
 |cons x xs ih=>
  intro s y vs hi q h j k;cases vs with
  |nil=>simp at j
  |cons v vs=>
   have z: ∀{A:List Bool},((jB x).bind λa=>(fC A xs).bind λc=>.ret (a.1::c.1,a.2++c.2)).run ⟨env,r⟩=some y->
     ∃g',Inv ⟨upd y.2 s.σ,g',s.w⟩/\bB s ⟨upd y.2 s.σ,g',s.w⟩/\Frz s.σ (upd y.2 s.σ)/\y.1.length=(v::vs).length/\
      ∀(i:Nat) x o,y.1[i]?=some x->(v::vs)[i]?=some o->JH ⟨upd y.2 s.σ,g',s.w⟩ x o:=by
    intro A h;obtain⟨I,h1,h⟩:=bind_some h;obtain⟨K,h2,h⟩:=bind_some h;simp only[RM.run]at h;injection h with h;subst h;obtain⟨L,i1,H,G,M⟩:=pu hi q h1 (k 0 x v rfl rfl);obtain⟨C,i2,n,B,F,J⟩:=ih (m:=A) (s:=⟨upd I.2 s.σ,L,s.w⟩) i1 (q.trans G) h2 (by simpa using j) λi x v D E=>(k (i+1) x v (by simpa using D) (by simpa using E)).mono hi H;refine⟨C,by grind [eR],by rw[eR];exact H.trans n,by rw[eR];exact G.trans B,by simp[F],λi c' o hc' e=>?_⟩;grind [JH.mono,upd]
   cases m with
   |nil=>exact z h
   |cons b m=>
    cases b with
    |false=>exact z h
    |true=>
     simp only[fC]at h;obtain⟨K,h2,h⟩:=bind_some h;simp only[RM.run]at h;injection h with h;subst h;obtain⟨C,i2,n,B,F,J⟩:=ih (m:=m) hi q h2 (by simpa using j) λi x v D E=>k (i+1) x v (by simpa using D) (by simpa using E);refine⟨C,i2,n,B,by simp[F],λi c' o hc' e=>?_⟩;cases i with
     |zero=>simp at hc' e;subst hc' e;exact(k 0 x v rfl rfl).mono hi n
     |succ i=>grind
theorem it{f:FuncId}{args:Array Value}{fn:Func}(h1:P.funcs[f]?=some fn)(h2:fn.body.isSome=true)(h3:(fn.name== "runtime.NumGoroutine")=false)(w:World):
  (callFunc f args).run P w=.ok (.enter f args) w:=by
 have e:fn.name≠ "runtime.NumGoroutine" :=by simpa using h3
 have g:fn.body≠none:=by grind
 simp_all [callFunc]
theorem JKC(y:jO P F)(hi:Inv s)(he:bN s a.tmps env){f args k}(n: ∀j,j<k->s.σ[new+j]?=some .dead)(h:(opR F (.call f args k) new).run ⟨env,s.σ⟩=some e)
  (hc:JX P (.call f args k) o.op=true):bM P o a s e:=by
 simp only[opR]at h;obtain⟨vs,h1,w⟩:=bind_some h;clear h;unfold JX at hc;simp only at hc;split at hc;rename_i c C;split at hc;rename_i g z;simp only[aS,beq_iff_eq]at hc;obtain⟨rfl,q⟩:=hc;obtain⟨l,r⟩:=FQ he h1 q;refine Gi y hi n w (vals:=c.args.map a.eval) (by simpa using l) (λi x v A B=>r i x v A (by simpa using B)) λfn G E D=>?_;simp_all [execOp,resolve,Act.eval,Deferred.ofValue,invoke,it];cases hc;cases hc
theorem JHa(A:jO P F)(hi:Inv s)(he:bN s a.tmps env){f keep args k}(n: ∀j,j<k->s.σ[new+j]?=some .dead)(h:(opR F (.callo f keep args k) new).run ⟨env,s.σ⟩=some e)
  (hc:JX P (.callo f keep args k) o.op=true):bM P o a s e:=by
 simp only[opR]at h;obtain⟨vs,h1,w⟩:=bind_some h;obtain⟨ar,h2,G⟩:=bind_some w;clear h w;unfold JX at hc;simp only at hc;split at hc;rename_i c J;split at hc;rename_i g B;simp only[aS,beq_iff_eq]at hc;obtain⟨rfl,q⟩:=hc;obtain⟨l,r⟩:=FQ he h1 q;obtain⟨E,i1,C,z,D,y⟩:=JFF (vs:=(c.args.map a.eval).toList) hi (.refl _) h2 (by simpa using l) (λi x v H I=>r i x v H (by simpa using I));refine sg A n (vals:=c.args.map a.eval) i1 C z D y G λfn E L K=>?_;simp_all [execOp,resolve,Act.eval,Deferred.ofValue,invoke,it];cases hc;cases hc
theorem JH4(C:jO P F)(hi:Inv s)(he:bN s a.tmps env){x args k}(g: ∀j,j<k->s.σ[new+j]?=some .dead)(h:(opR F (.callv x args k) new).run ⟨env,s.σ⟩=some e)
  (hc:JX P (.callv x args k) o.op=true):bM P o a s e:=by
 simp only[opR]at h;obtain⟨u,E,q⟩:=bind_some h;clear h;unfold JX at hc;simp only at hc;split at hc;rename_i c G;split at hc;rename_i y D;simp only[aS]at hc;obtain⟨B,n⟩:=hc;have A:=bJ he E B;cases u with
 |fn f first caps=>
  dsimp only at q;obtain⟨vs,h1,w⟩:=bind_some q;obtain⟨l,r⟩:=FQ he h1 n;generalize N:a.eval y=z at A;cases A with
  |fn _ _ _ fs cs K J H I=>
   have l':vs.length=c.args.size:=by simpa using l
   refine Gi C hi g w (vals:=fs++c.args.map a.eval++cs) (by simp;omega) (λi x v B Q=>?_) λfn O M L=>?_;grind;grind [execOp,resolve,Deferred.ofValue,invoke,it]
 |_=>cases q
 cases hc;cases hc
end
end Go.Am
end
section
namespace Go.Am
section
variable {P:Program} {F:Orc} {s:Sn} {a:Act} {env:List (Nat×AV)} {o:Oper} {new:Nat} {e:Eff}
theorem ff: ∀(os:List (Nat×Nat)) (n:Nat) {s:Sn},Inv s->(∀j,j<os.length->s.σ[n+j]?=some .dead)->
  ∃g',Inv ⟨upd (gU os n) s.σ,g',s.w⟩/\bB s ⟨upd (gU os n) s.σ,g',s.w⟩/\
   (∀j,j<os.length->(∃esz,(upd (gU os n) s.σ)[n+j]?=some (.arr true esz []))/\g'.μ (n+j)=none)/\
   (∀b,b<n\/n+os.length<=b->(upd (gU os n) s.σ)[b]?=s.σ[b]?/\g'.μ b=s.g.μ b)
 |[],n,s,hi,_=>⟨s.g,hi,.refl s,λj e=>by simp at e,λb _=>⟨rfl,rfl⟩⟩
 |(off,esz)::r,n,s,hi,hd=>by
  obtain⟨i1,v⟩:=RI hi (hd 0 (by simp)) esz;obtain⟨g',i2,q,h1,h2⟩:=ff r (n+1) (s:=⟨s.σ.set n (.arr true esz []),fA s.g n none,s.w⟩) i1 (λj e=>by
   show(s.σ.set n _)[n+1+j]?=_;rw[rV (by omega)];have:=hd (j+1) (by simp;omega);grind)
  refine⟨g',i2,v.trans q,λj e=>?_,λb x=>?_⟩;cases j with
  |zero=>
   obtain⟨o,k⟩:=h2 n (.inl (by omega));refine⟨⟨esz,?_⟩,?_⟩;grind [upd,gU];rw[tC,k];exact if_pos rfl
  |succ j=>have:=h1 j (by simpa using e);rw[show n+(j+1)=n+1+j by omega];exact this
  obtain⟨o,k⟩:=h2 b (by grind);have h:n≠b:=by grind
  exact⟨o.trans (rV h),k.trans (if_neg (Ne.symm h))⟩
theorem tj{t:TypeId}{os:List (Nat×Nat)}{v:Value}(hv:zeT P t=some v)(h:OX P t os=true): ∀x∈os,v.cells[x.1]?=some (.slice none 0 0):=by
 grind [OX]
theorem ei{cells:Array Value}: ∀(os:List (Nat×Nat)) (n:Nat) {cs:List AV},(∀x∈os,cells[x.1]?=some (.slice none 0 0))->
  (∀j,j<os.length->(∃esz,s.σ[n+j]?=some (.arr true esz []))/\s.g.μ (n+j)=none)->
  (∀(i:Nat) x,cs[i]?=some x-> ∃u,cells[i]?=some u/\JH s x u/\u.oneCell'=true)->
  ∀(i:Nat) x,(lY os n cs)[i]?=some x-> ∃u,cells[i]?=some u/\JH s x u/\u.oneCell'=true
 |[],_,_,_,_,h=>h
 |(off,esz)::r,n,cs,hz,ha,h=>by
  refine ei r (n+1) (λx e=>hz x (by simp[e])) (λj q=>by
   have:=ha (j+1) (by simpa using q);grind) λi x e=>?_
  by_cases hi:off=i;subst hi;have k:=Jw e;rw[List.length_set]at k;rw[DX k]at e;injection e with e;subst e;obtain⟨⟨o,h1⟩,h2⟩:=ha 0 (by simp);rw[tC]at h1 h2;exact⟨.slice none 0 0,hz (off,esz) (by simp),.slr n 0 0 _ true o [] ⟨none,0,rfl,.inl rfl⟩ h1 (zQ0 _) λ_=>.inl ⟨h2,rfl,rfl,rfl⟩,rfl⟩;simp_all
theorem eo: ∀(os:List (Nat×Nat)) (n:Nat) (cs:List AV),(lY os n cs).length=cs.length|[],_,_=>rfl|_::r,n,cs=>(eo r (n+1) _).trans (by simp)
theorem JCJ(hi:Inv s){zero os}(n: ∀j,j<os.length+1->s.σ[new+j]?=some .dead)(h:(opR F (.newboxo zero os) new).run ⟨env,s.σ⟩=some e)(hc:JX P (.newboxo zero os) o.op=true):bM P o a s e:=by
 simp only[opR,RM.run]at h;injection h with h;subst h;unfold JX at hc;simp only at hc;split at hc;rename_i t J;simp only[aS]at hc;obtain⟨B,E⟩:=hc;obtain⟨v,G,L,D⟩:=uM B;obtain⟨r,i1,z,h1,h2⟩:=ff os new hi λj N=>n j (by omega);have hd:(upd (gU os new) s.σ)[new+os.length]?=some .dead:=((h2 _ (.inr (zQ0 _))).1).trans (n _ (by omega))
 let s1:Sn:=⟨upd (gU os new) s.σ,r,s.w⟩
 obtain⟨A,t'⟩:=RC (s0:=s1) i1 hd (blk:=.box (lY os new (zero.map .p))) (c:=v.cells) (e:=t) (fz:=(0,0)) (w':={s.w with heap:=s.w.heap.push (.cells v.cells t)}) rfl rfl rfl
  (λo _ _ h=>by simp at h) (λ_ _ _ h=>by cases h) ⟨by grind [eo],λi x q=>by
   obtain⟨u,M,K,I⟩:=ei (s:=s1) (cells:=v.cells) os new (tj G E) h1 (λi x q=>by
    rw[fT]at q;cases hzi:zero[i]? with
    |none=>simp_all
    |some c=>
     simp[hzi]at q;subst q;have H:=Jw hzi;have y:i<v.cells.size:=by omega
     have:=D (w:=s1.w) (C:=s1.g.C) i c v.cells[i] hzi (by simp);exact⟨v.cells[i],by simp,.p _ _ this,this.one⟩) i x q
   simp_all⟩
 have k:upd (gU os new++[(new+os.length,Blk.box (lY os new (zero.map .p)))]) s.σ=(upd (gU os new) s.σ).set (new+os.length) (.box (lY os new (zero.map .p))):=by rw[eR];rfl
 refine gY (e:=⟨.ptr (new+os.length) 0,gU os new++[(new+os.length,.box (lY os new (zero.map .p)))]⟩) (v:=.pointer (some ⟨s.w.heap.size,0,none⟩)) (g':=fA r (new+os.length) (some (s.w.heap.size,0))) ?_
  (by rw[k];exact A) (by rw[k];exact z.trans t') (by rw[k];exact .ptr (new+os.length) 0 _ 0 (if_pos rfl) ⟨_,jT hd⟩)
 simp_all [execOp,Instr.alloc,GC,newVar,newRow];cases hc
theorem JFC(hi:Inv s)(he:bN s a.tmps env)(hn:s.σ[new]?=some .dead){esz x}(h:(opR F (.storen esz x) new).run ⟨env,s.σ⟩=some e)(hc:JX P (.storen esz x) o.op=true):bM P o a s e:=by
 simp only[opR]at h;obtain⟨u,h1,M⟩:=bind_some h;obtain⟨I,h2,B⟩:=bind_some M;clear h M;simp only[RM.run]at B;injection B with B;subst B;obtain⟨K,R⟩:=RI hi hn esz;unfold JX at hc;simp only at hc;split at hc;rename_i t N ag;simp only[aS,beq_iff_eq]at hc;obtain⟨hs,hx⟩:=hc;have v:=bJ he h1 hx;have O: ∀{r n:Nat} {w':World},a.eval N=.pointer (some ⟨r,n,none⟩)->(storeVar t ⟨r,n,none⟩ (.slice none 0 0)).run P s.w=.ok () w'->(execOp a.eval o).run P s.w=.ok .skip w':=by intro r n w' S a9;have ac:a.eval (.const (.slice none 0 0))=.slice none 0 0:=rfl;simp_all [execOp,Instr.storeAt,Instr.sureAddr]
 unfold iA at h2;split at h2;rename_i b off;simp only[RM.run]at h2;split at h2;rename_i blk H;split at h2;rename_i cs;split at h2;rename_i l hl;split at h2;rename_i a6;split at h2;rename_i cs' D;simp only[RM.run]at h2;injection h2 with h2;subst h2;have H:s.σ[b]?=some (.box cs):=H;have Q:new≠b:=λe=>by simp_all
 let s1:Sn:=⟨s.σ.set new (.arr true esz []),fA s.g new none,s.w⟩
 have C:s1.σ[b]?=some (.box cs):=(rV Q).trans H;have Z:JH s1 (.slr new 0 0) (.slice none 0 0):=
  .slr new 0 0 _ true esz [] ⟨none,0,rfl,.inl rfl⟩ (jT hn) (zQ0 _) λ_=>.inl ⟨if_pos rfl,rfl,rfl,rfl⟩
 generalize S:a.eval N=z at v;have v:=JH.mono (s:=s1) hi R v;cases v with
 |ptr _ _ r n m aa=>
  obtain⟨k1,J,Y⟩:=TW hl Z;obtain⟨T,j2,V,j4⟩:=QU D;obtain⟨r1,o1,c,et,fz,A,E,ad,ab,hf⟩:=K.box b cs C;rw[m]at A;injection A with A;injection A with m1 m2;subst m1 m2;have q:=NO (vs:=(Value.slice none 0 0).cells.toList) (o:=n+off) E (by simp;omega);have hlen:(Value.slice none 0 0).cells.toList.length=l.length:=by simp[k1]
  obtain⟨i',t'⟩:=f0 (s0:=s1) K (blk:=.box cs') C q (λk h1 h2=>by
   grind [Wr1]) (.box _ _ T) (λa7 j G=>by
   injection j with j;subst j;obtain⟨c0,e0,af,c',y,U,p3,p4,W,p6⟩:=q.there;rw[E]at y;injection y with y;injection y with q1 q2 q3;subst q1 q2 q3;refine⟨r,n,c',et,fz,m,U,by omega,λi x L=>?_,by simp_all⟩;by_cases ah:off<=i/\i<off+l.length;have I:cs'[off+(i-off)]?=l[i-off]?:=V (i-off) (by omega);rw[show off+(i-off)=i by omega,L]at I;have a8:i-off<(Value.slice none 0 0).cells.size:=by omega
   have e2:=W (i-off) (Value.slice none 0 0).cells[i-off] (by simp);refine⟨(Value.slice none 0 0).cells[i-off],by rw[<-e2];congr 1;omega,G (Y (i-off) x _ I.symm (by simp)),J _ (by simp)⟩;grind)
   (λ_ _ j=>by cases j)
  refine fq (e:=⟨gG,(new,.arr true esz [])::[(b,.box cs')]⟩) (O S (iw (by simp_all) E (by omega) (λk h1 h2=>hf k (by omega) (by omega)) J)) rfl i' (R.trans t')
 cases h2;cases h2;cases h2;cases h2;cases h2;rename_i b ext i off;have ae:(fz (.slr new 0 0)).run ⟨env,s.σ⟩=none:=(by grind [fz,RM.run]);simp only[RM.run]at h2;split at h2;split at h2;split at h2;split at h2;grind [run_bind];cases h2;cases h2;cases h2;cases h2;cases h2;cases hc
theorem JG1(hi:Inv s)(he:bN s a.tmps env){zero parts os}(E: ∀j,j<os.length->s.σ[new+j]?=some .dead)(h:(opR F (.buildo zero parts os) new).run ⟨env,s.σ⟩=some e)
  (hc:JX P (.buildo zero parts os) o.op=true):bM P o a s e:=by
 simp only[opR]at h;obtain⟨l,h1,q⟩:=bind_some h;clear h;unfold JX at hc;simp only at hc;split at hc;rename_i t ps ab;simp only[aS]at hc;obtain⟨⟨hz,hn⟩,ht⟩:=hc;obtain⟨z,N,ac,Q⟩:=uM hz;obtain⟨S,i1,O,K,ad⟩:=ff os new hi E;split at q;rename_i cs hcs;split at q;rename_i r h3;simp only[RM.run]at q;injection q with q;subst q
 let s1:Sn:=⟨upd (gU os new) s.σ,S,s.w⟩
 have G: ∀(i:Nat) x,(lY os new (zero.map AV.p))[i]?=some x-> ∃u,z.cells[i]?=some u/\JH s1 x u/\u.oneCell'=true:=
  ei (s:=s1) (cells:=z.cells) os new (tj N hn) K (by
   intro i x J;rw[fT]at J;cases hzi:zero[i]? with
   |none=>simp_all
   |some c=>
    simp[hzi]at J;subst J;have L:=Jw hzi;have Z:i<z.cells.size:=by omega
    have:=Q (w:=s1.w) (C:=s1.g.C) i c z.cells[i] hzi (by simp);exact⟨z.cells[i],by simp,.p _ _ this,this.one⟩)
 have fin: ∀{place:Nat->Option (Nat×Nat)},rQ place parts ps.toList=true->
   ∃n,Instr.fill place z.cells (ps.toList.map λx=>(x.1,a.eval x.2))=some n/\JH s1 r (.agg n):=by
  intro place D;obtain⟨V,k2⟩:=gv he h1 D;obtain⟨n,M,f2,f3⟩:=fe (s:=s1) (cells:=z.cells) hcs V (λk off size cs i v hk H=>by obtain⟨p1,Y,U,W⟩:=k2 k off size cs i v hk H;exact⟨p1,Y,U,λj y u T I=>(W j y u T I).mono hi O⟩) (by grind [eo]) G;refine⟨n,M,?_⟩;have:=QG (s:=s1) (vs:=n.toList) h3 (by simpa using f2) (λv H=>by
    obtain⟨i,A⟩:=fV H;have A:n[i]?=some v:=by simpa using A
    have L:=TJ A;obtain⟨u,I,_,h1⟩:=f3 i cs[i] (by simp_all);simp_all)
   (λi y v T H=>by
    grind)
  simp_all
 have ae:(ps.map λx=>(x.1,a.eval x.2)).toList=ps.toList.map λx=>(x.1,a.eval x.2):=by simp
 split at ht;rename_i fs I;simp only[aS]at ht;obtain⟨B,D⟩:=ht;obtain⟨n,M,hr⟩:=fin D;have aa:(λi=>(fs.map λf=>(f.offset,(szT P f.type).getD 0))[i]?)=FS P fs:=by
  funext i
  simp only[FS,Array.getElem?_map];cases hfi:fs[i]? with
  |none=>rfl
  |some f=>have:=VU.1 B f (Array.mem_of_getElem? hfi);cases hq:szT P f.type<;>simp[hq]at this⊢
 have a3:(fs.mapM λf=>do pure (f.offset,<-sizeOf f.type):Sem (Array (Nat×Nat))).run P s.w=.ok (fs.map λf=>(f.offset,(szT P f.type).getD 0)) s.w:=by
  rw[Array.mapM_eq_mapM_toList];simp only[Sem.run_map,gy (P:=P) (fs:=fs.toList) (λf R=>VU.1 B f (by simpa using R)),tE]
  congr 1
  grind
 have R:Instr.fill (λi=>(fs.map λf=>(f.offset,(szT P f.type).getD 0))[i]?) z.cells (ps.map λx=>(x.1,a.eval x.2)).toList=some n:=by simp_all
 have hb:(Instr.build t (ps.map λx=>(x.1,a.eval x.2))).run P s.w=.ok (.agg n) s.w:=by simp_all [Instr.build,GC,run_underlying]
 refine gY (e:=⟨r,gU os new⟩) (v:=.agg n) (g':=S) ?_ i1 O hr;simp_all [execOp];cases ht;cases q;cases q;cases hc
end
end Go.Am
end
section
namespace Go.Am
theorem Fu{new:Nat}{env:List (Nat×AV)}{σ:List Blk}: ∀{k new:Nat} {u:Unit},(tO new k).run ⟨env,σ⟩=some u-> ∀j,j<k->σ[new+j]?=some .dead
 |0,_,_,_,j,hj=>by omega
 |k+1,new,u,h,j,hj=>by
  simp only[tO,RM.run]at h;split at h;rename_i x e;cases x with
  |dead=>
   dsimp only at h;cases j with
   |zero=>exact e
   |succ j=>have:=Fu (new:=0) h j (by omega);grind
  |box=>cases h
  |arr=>cases h
  cases h
section
variable {P:Program} {F:Orc} {s:Sn} {a:Act} {env:List (Nat×AV)} {o:Oper} {new:Nat} {e:Eff}
theorem JO8(q:jO P F)(hi:Inv s)(he:bN s a.tmps env){n:AOp}(h:(opD F n new).run ⟨env,s.σ⟩=some e)(hc:JX P n o.op=true):bM P o a s e:=by
 unfold opD at h;obtain⟨u,hd,h⟩:=bind_some h;have g:=Fu (new:=0) hd;clear hd;have j:lB n=1->s.σ[new]?=some .dead:=λh1=>g 0 (by omega);cases n with
 |mv x=>grind [JNN]
 |mkarr esz x=>exact JHx hi (j rfl) h hc
 |pick=>grind [JK2]
 |newbox=>exact JG2 hi (j rfl) h hc
 |box=>exact JLx hi he (j rfl) h hc
 |build=>grind [JHD]
 |lits=>grind [JKL,lB]
 |load=>grind [JKR]
 |store=>grind [JIi]
 |nilchk=>grind [JFa]
 |bin op t x y=>cases t<;>grind [I0,JAk,JAY,JBc,JAR,JB9]
 |un=>grind [JNF]
 |conv k x=>
  grind [JDS,lB,JKG]
 |mkslice=>grind [JDi,lB]
 |slice=>grind [JHw]
 |faddr=>grind [JHG]
 |field=>grind [JHQ]
 |iaddr=>grind [JIv]
 |aaddr=>grind [JIP]
 |sidx=>grind [JKb]
 |aidx=>grind [JKI]
 |extr=>grind [JKN]
 |call=>exact JKC q hi he g h hc
 |callv=>exact JH4 q hi he g h hc
 |len=>grind [JLs]
 |alen=>grind [JLc]
 |app=>grind [JLI]
 |appz=>grind [JL6]
 |appn=>exact JKJ hi he (j rfl) h hc
 |appc=>exact JJX hi he (j rfl) h hc
 |mm=>grind [JNU]
 |mkfn=>grind [JK9]
 |newboxo=>exact JCJ hi g h hc
 |buildo=>exact JG1 hi he g h hc
 |storen=>exact JFC hi he (j rfl) h hc
 |callo=>exact JHa q hi he g h hc
end
def zM(P:Program)(N:Nat)(ops:Array Oper)(i:bU)(o:Oper):Bool:=
 JX P i.op o.op&&i.dst==o.dst&&(match i.dst with
  |some d=>decide (d<N)
  |none=>true)&&(match i.g,o.guard with
  |none,none=>true
  |some (g,w),some (j,w')=>w==w'&&(ops[j]?).bind (·.dst)==some g
  |_,_=>false)
def Sim(N:Nat)(E:Sn)(st:St)(a:Act)(w:World):Prop:=a.tmps.size=N/\a.defers=[]/\ ∃g,Inv ⟨st.sto,g,w⟩/\bN ⟨st.sto,g,w⟩ a.tmps st.env/\bB E ⟨st.sto,g,w⟩
theorem bN.put{s:Sn}{tmps:Array Value}{env:List (Nat×AV)}(he:bN s tmps env){d:Nat}(hd:d<tmps.size){x:AV}{v:Value}(hv:JH s x v):
  bN s (tmps.setIfInBounds d v) ((d,x)::env):=by
 intro n y e;simp only[lk]at e;split at e;simp_all;rename_i g;obtain⟨u,h1,h2⟩:=he n y e;grind
theorem Sim.putd{N:Nat}{E:Sn}{st:St}{a:Act}{w w':World}{g g':Gh}{e:Eff}{v:Value}{d:Option Nat}
  (h1:a.tmps.size=N) (h2:a.defers=[]) (hi:Inv ⟨st.sto,g,w⟩) (he:bN ⟨st.sto,g,w⟩ a.tmps st.env) (ht:bB E ⟨st.sto,g,w⟩) (hd: ∀x,d=some x->x<N)
  (j:Inv ⟨upd e.ws st.sto,g',w'⟩) (h:bB ⟨st.sto,g,w⟩ ⟨upd e.ws st.sto,g',w'⟩) (hv:JH ⟨upd e.ws st.sto,g',w'⟩ e.val v):
  Sim N E (Am.put d e st) (a.put d v) w':=by
 have k:=he.mono hi h;cases d with
 |none=>exact⟨h1,h2,g',j,k,ht.trans h⟩
 |some d=>exact⟨by grind [Act.put],h2,g',j,k.put (by simp_all) hv,ht.trans h⟩
section
variable {P:Program} {F:Orc} {N:Nat} {E:Sn} {st:St} {a:Act} {w:World} {ops:Array Oper} {i:bU} {o:Oper} {e:Eff} {new k:Nat} {Q:Exit->Act->World->Prop} {K:Act->World->Prop}
theorem JD7{s:Sn}:JH s gG undef:=.tup _ _ rfl λi x v h=>by simp at h
theorem D5(D:jO P F)(hs:Sim N E st a w)(ho:ops[k]?=some o)(hc:zM P N ops i o=true)(h:(bW F i new).run st=some e)
  (next: ∀n w',Sim N E (Am.put i.dst e st) n w'->K n w'):wpOp P ops Q k K a w:=by
 obtain⟨h1,h2,g,hi,y,ht⟩:=hs;simp only[zM,aS,beq_iff_eq]at hc;obtain⟨⟨⟨hc,hd⟩,J⟩,q⟩:=hc;have z: ∀x,i.dst=some x->x<N:=(by grind);have run: ∀{e:Eff},(opD F i.op new).run st=some e->(∀n w',Sim N E (Am.put i.dst e st) n w'->K n w')->o.wp P a w K Q:=(by intro e h next;refine JO8 (s:=⟨st.sto,g,w⟩) (env:=st.env) D hi y h hc K Q λv w' g' H I A=>next _ _ ?_;grind [Sim.putd]);have skip:(∀n w',Sim N E (Am.put i.dst ⟨gG,[]⟩ st) n w'->K n w')->K (a.put o.dst undef) w:=by intro next;refine next _ _ ?_;rw[<-hd];exact Sim.putd (e:=⟨gG,[]⟩) h1 h2 hi y ht z hi (.refl _) JD7
 unfold wpOp;rw[ho];dsimp only;unfold bW at h;cases hig:i.g with
 |none=>
  grind [Region.wanted]
 |some G=>
  obtain⟨L,C⟩:=G;rw[hig]at h q;cases hog:o.guard with
  |none=>simp_all
  |some x=>
   obtain⟨j,B⟩:=x;rw[hog]at q;simp only[aS,beq_iff_eq]at q;obtain⟨rfl,S⟩:=q;simp only[RM.run]at h;split at h;rename_i v A;obtain⟨u,R,r⟩:=y _ _ A;split at h;rename_i b;cases r with
   |p _ _ r=>
    cases r with
    |b x=>
     have O:yielded ops a.tmps j=some b:=by grind [yielded]
     grind [Region.wanted,RM.run]
   cases r with
   |tup _ vs M _=>
    grind [yielded,Region.wanted,RM.run]
   cases h;cases h
end
theorem ox{σ:List Blk}{n b:Nat}{x:Blk}(h:(σ++List.replicate n Blk.dead)[b]?=some x)(hx:x≠.dead):σ[b]?=some x:=by
 grind
theorem so{σ:List Blk}{n b:Nat}{x:Blk}(h:σ[b]?=some x):(σ++List.replicate n Blk.dead)[b]?=some x:=by
 grind
theorem QW{σ:List Blk}{g:Gh}{w:World}{n b r o:Nat}:Wr1 ⟨σ++List.replicate n .dead,g,w⟩ b r o↔Wr1 ⟨σ,g,w⟩ b r o:=by
 grind [Wr1]
theorem gz{σ:List Blk}{g:Gh}{w:World}{n:Nat}:bB ⟨σ,g,w⟩ ⟨σ++List.replicate n .dead,g,w⟩ where
 keep:=.refl _ _
 cmono _ _ h:=h
 cnew _ _ h:=.inl h
 wnew _ _ h:=let⟨b,e⟩:=h;.inl ⟨b,QW.1 e⟩
 len:=by simp
 box b cs h:=⟨⟨cs,so h,rfl⟩,rfl⟩
 arr b wm esz rows h:=⟨wm,rows,so h,id,zQ0 _,λ_=>rfl⟩
theorem JJh{σ:List Blk}{g:Gh}{w:World}{n:Nat}(hi:Inv ⟨σ,g,w⟩):Inv ⟨σ++List.replicate n .dead,g,w⟩:=by
 have t:=gz (σ:=σ) (g:=g) (w:=w) (n:=n);refine⟨λb cs h=>?_,λb wm esz rows h=>?_,λb1 b2 r o h1 h2=>hi.apart b1 b2 r o (QW.1 h1) (QW.1 h2),λr o hc=>⟨(hi.const r o hc).1,λb A=>(hi.const r o hc).2 b (QW.1 A)⟩⟩;obtain⟨r,o,c,e,fz,B,E,C,y,q⟩:=hi.box b cs (ox h (by simp));exact⟨r,o,c,e,fz,B,E,C,λi x D=>let⟨v,j,z,k⟩:=y i x D;⟨v,j,z.mono hi t,k⟩,q⟩;exact hi.arr b wm esz rows (ox h (by simp))
theorem Sim.room{N:Nat}{E:Sn}{st:St}{a:Act}{w:World}(h:Sim N E st a w)(n:Nat):Sim N E ⟨st.env,room n st.sto⟩ a w:=by
 unfold Am.room;split;exact h;obtain⟨h1,h2,g,hi,e,ht⟩:=h;exact⟨h1,h2,g,JJh hi,e.mono hi gz,ht.trans gz⟩
theorem Sim.heap{N:Nat}{E:Sn}{st:St}{a:Act}{w w':World}(h:Sim N E st a w)(e:w'.heap=w.heap)(ho:w'.os=w.os)(hp:w'.output=w.output):Sim N E st a w':=by obtain⟨h1,h2,g,hi,k,ht⟩:=h;obtain⟨j,t'⟩:=ft hi e ho hp;exact⟨h1,h2,g,j,k.mono hi t',ht.trans t'⟩
theorem Sim.congr{N:Nat}{E:Sn}{st st':St}{a:Act}{w:World}(h:Sim N E st a w)(he: ∀m,lk m st'.env=lk m st.env)(hs:st'.sto=st.sto):Sim N E st' a w:=by obtain⟨h1,h2,g,hi,e,ht⟩:=h;refine⟨h1,h2,g,?_⟩;rw[hs];exact⟨hi,λn x j=>e n x (by simp_all),ht⟩
end Go.Am
end
section
namespace Go.Am
def eL(P:Program)(N:Nat)(ops:Array Oper):List bU->List Oper->Bool|[],[]=>true|i::r,o::q=>zM P N ops i o&&eL P N ops r q|_,_=>false
def TR(x y:bU):Bool:=
 (match x.dst with
 |none=>true
 |some m=>y.dst !=some m&& !(xA y).contains m)&&(match y.dst with
 |none=>true
 |some m=> !(xA x).contains m)
def SE(x y:bU):Bool:=(!yV x.op|| !IM y.op)&&(!yV y.op|| !IM x.op)
def KK:List Nat->List Nat->List Nat|[],acc=>acc|x::r,acc=>match acc.contains x with|true=>KK r acc|false=>KK r (x::acc)
theorem fp{i:Nat}: ∀{l acc:List Nat},i∈KK l acc->i∈l\/i∈acc
 |[],_,h=>.inr h
 |x::r,acc,h=>by
  simp only[KK]at h;split at h;exact(fp h).imp (qR _) id
  ·rcases fp h with h|h
   all_goals grind
def Cr(l:List Nat):List Nat:=KK l []
theorem JGR{i:Nat}{l:List Nat}(h:i∈Cr l):i∈l:=(fp h).resolve_right (by simp)
def Dm(acc:List (List Nat))(o:Oper):List Nat:=Cr<|(o.after.toList.filter λe=>Region.binds .any e).flatMap λe=>e.on::(acc[e.on]?).getD []
def mu(acc:List (List Nat)):List Oper->List (List Nat)|[]=>acc|o::r=>mu (acc++[Dm acc o]) r
def df(e:List (List Nat))(pairs:List (Nat×Nat))(i j:Nat)(x y:bU):Bool:=
 ((e[j]?).getD []).contains i||(TR x y&&(SE x y||pairs.contains (i,j)))
def MR(e:List (List Nat))(pairs:List (Nat×Nat))(j:Nat)(y:bU):Nat->List bU->Bool|_,[]=>true|i,x::r=>(decide (j<=i)||df e pairs i j x y)&&MR e pairs j y (i+1) r
def QY(g:List (List Nat))(pairs:List (Nat×Nat))(e:List bU):Nat->List bU->Bool|_,[]=>true|j,y::r=>MR g pairs j y 0 e&&QY g pairs e (j+1) r
def RN:Nat->List Oper->Bool|_,[]=>true|j,o::r=>(o.after.all λe=> !Region.binds .any e||decide (e.on<j))&&RN (j+1) r
def YR(P:Program)(N:Nat)(draw:Bool)(pairs:List (Nat×Nat))(ins:List bU)(ops:Array Oper):Bool:=
 eL P N ops ins ops.toList&&(!draw||(RN 0 ops.toList&&QY (mu [] ops.toList) pairs ins 0 ins))
section
variable {P:Program} {F:Orc} {N:Nat} {E:Sn} {st st':St} {a:Act} {w:World} {ops:Array Oper} {Q:Exit->Act->World->Prop}
theorem q9: ∀{ins:List bU} {os:List Oper},eL P N ops ins os=true->ins.length=os.length/\ ∀(k:Nat) i,ins[k]?=some i-> ∃o,os[k]?=some o/\zM P N ops i o=true
 |[],[],_=>⟨rfl,by simp⟩
 |i::r,o::q,h=>by
  simp only[eL,aS]at h;obtain⟨h1,h2⟩:=q9 h.2;grind
 |[],_::_,h=>by grind [eL]
 |_::_,[],h=>by grind [eL]
theorem sr(v:jO P F): ∀{r:List bU} {k new:Nat} {st:St} {a:Act} {w:World},(∀(j:Nat) i,r[j]?=some i-> ∃o,ops[k+j]?=some o/\zM P N ops i o=true)->
  fW F r new st=some st'->Sim N E st a w->(∀n w',Sim N E st' n w'->Q .normal n w')->wpOps P ops Q (List.range' k r.length) a w
 |[],k,new,st,a,w,_,h,q,next=>by simp only[fW]at h;cases h;exact next a w q
 |i::r,k,new,st,a,w,hc,h,q,next=>by
  simp only[fW]at h;split at h;rename_i e z;obtain⟨o,x,g⟩:=hc 0 i rfl;rw[DV,List.range'_succ,wpOps_cons];refine D5 v q x g z λn w' hs'=>sr v (λj i y=>?_) h hs' next;obtain⟨o,x,g⟩:=hc (j+1) i (by simpa using y);grind;cases h
theorem C3: ∀{ins:List bU} {g:Nat} {st:St},fW F ins g st=some st'->
  ∃(new:Nat->Nat) (S:Nat->St) (eff:Nat->Eff),Run F ins new S eff/\S 0=st/\S ins.length=st'
 |[],g,st,h=>by
  simp only[fW]at h;injection h with h;subst h;exact⟨λ_=>0,λ_=>st,λ_=>⟨gG,[]⟩,⟨by simp⟩,rfl,rfl⟩
 |i::r,g,st,h=>by
  simp only[fW]at h;split at h;rename_i e q;obtain⟨new,S,eff,n,v,j⟩:=C3 h;refine⟨fun|0=>g|k+1=>new k,fun|0=>st|k+1=>S k,fun|0=>e|k+1=>eff k,⟨λk x o=>?_⟩,rfl,j⟩;cases k with
  |zero=>simp_all
  |succ k=>exact n.step k x (by simpa using o)
  cases h
theorem D3: ∀{ins:List bU} {g:Nat} {st:St} {l l':Log},jN F ins g st l=some (st',l')->
  ∃(new:Nat->Nat) (S:Nat->St) (eff:Nat->Eff),Run F ins new S eff/\S 0=st/\S ins.length=st'/\
   (∀k,k<l.length->l'[k]?=l[k]?)/\ ∀(k:Nat) i,ins[k]?=some i->l'[l.length+k]?=some (jP ((bW F i (new k)).reads (S k)),(eff k).ws.map (·.1))
 |[],g,st,l,l',h=>by
  simp only[jN]at h;injection h with h;injection h with h1 h2;subst h1 h2;exact⟨λ_=>0,λ_=>st,λ_=>⟨gG,[]⟩,⟨by simp⟩,rfl,rfl,λ_ _=>rfl,by simp⟩
 |i::r,g,st,l,l',h=>by
  simp only[jN]at h;split at h
  ·rename_i e y;obtain⟨new,S,eff,o,q,n,w,z⟩:=D3 h;refine⟨fun|0=>g|k+1=>new k,fun|0=>st|k+1=>S k,fun|0=>e|k+1=>eff k,⟨λk x j=>?_⟩,rfl,n,λk v=>?_,λk x j=>?_⟩
   cases k with
   |zero=>simp_all
   |succ k=>exact o.step k x (by simpa using j)
   all_goals grind
  cases h
theorem TF{b:Nat}: ∀{l:List Loc},Loc.blk b∈l->b∈jP l
 | .blk c::r,h=>by
  simp only[jP,cS]at*;rcases h with h|h;simp_all;exact .inr (TF h)
 | .slot n::r,h=>by simp only[jP];refine TF ?_;simpa using h
 |[],h=>by simp at h
theorem ej{a b:List Nat}(h:fZ a b=true){x:Nat}(hx:x∈a):x∉b:=by
 grind [fZ]
theorem s8{l:Log}: ∀{ps:List (Nat×Nat)} {i j:Nat},GB l ps=true->(i,j)∈ps->
  ∃x y,l[i]?=some x/\l[j]?=some y/\fZ x.2 y.1=true/\fZ x.2 y.2=true/\fZ x.1 y.2=true
 |[],i,j,_,h=>by simp at h
 |(p,q)::r,i,j,h,hm=>by
  simp only[GB,aS]at h;obtain⟨h1,h2⟩:=h;rcases cS.1 hm with e|e;grind;exact s8 h2 e
def cu(ops:Array Oper)(D:Nat->Bool)(k:Nat):Prop:= ∀o,ops[k]?=some o-> ∀e∈o.after,Region.binds .any e=true->D e.on=true
def Dh(ops:Array Oper)(D:Nat->Bool):Prop:= ∀k,D k=true->cu ops D k
def lb(ops:Array Oper)(k i:Nat):Prop:= ∀D,Dh ops D->cu ops D k->D i=true
theorem Ds: ∀{os:List Oper} {acc:List (List Nat)},(∀(j:Nat) o,os[j]?=some o->ops[acc.length+j]?=some o)->(∀(k:Nat) l i,acc[k]?=some l->i∈l->lb ops k i)->
  ∀(k:Nat) l i,(mu acc os)[k]?=some l->i∈l->lb ops k i
 |[],acc,_,n=>n
 |o::r,acc,y,n=>by
  refine Ds (os:=r) (acc:=acc++[Dm acc o]) (λj x A=>?_) λk l i g hi=>?_;have:=y (j+1) x (by simpa using A);grind;rcases ME g with g|⟨B,g⟩;simp_all;have q:k=acc.length:=(by grind);subst q;simp at g;subst g;intro D hD z;replace hi:=JGR hi;simp only[List.mem_flatMap,List.mem_filter]at hi;obtain⟨e,⟨w,v⟩,hi⟩:=hi;have h:=z o (by simpa using y 0 o rfl) e (by simpa using w) v;rcases cS.1 hi with rfl|hi;exact h;cases hac:acc[e.on]? with
  |none=>simp_all
  |some l=>rw[hac]at hi;exact n _ l i hac hi D hD (hD _ h)
theorem uc{g:List (List Nat)}{pairs:List (Nat×Nat)}{j:Nat}{y:bU}: ∀{r:List bU} {e:Nat},MR g pairs j y e r=true-> ∀(k:Nat) x,r[k]?=some x->e+k<j->df g pairs (e+k) j x y=true
 |[],e,_,k,x,n,_=>by simp at n
 |z::r,e,h,k,x,n,o=>by
  simp only[MR,aS,yO,decide_eq_true_eq]at h;cases k with
  |zero=>grind
  |succ k=>
   have:=uc h.2 k x (by simpa using n) (by omega);grind
theorem tf{j:List (List Nat)}{pairs:List (Nat×Nat)}{g:List bU}: ∀{r:List bU} {e:Nat},QY j pairs g e r=true-> ∀(k:Nat) y,r[k]?=some y->MR j pairs (e+k) y 0 g=true
 |[],e,_,k,y,n=>by simp at n
 |z::r,e,h,k,y,n=>by
  simp only[QY,aS]at h;cases k with
  |zero=>simp_all
  |succ k=>
   have:=tf h.2 k y (by simpa using n);grind
theorem ub: ∀{r:List Oper} {g:Nat},RN g r=true-> ∀(k:Nat) o,r[k]?=some o-> ∀e∈o.after,Region.binds .any e=true->e.on<g+k
 |[],g,_,k,o,j=>by simp at j
 |z::r,g,h,k,o,j=>by
  simp only[RN,aS]at h;cases k with
  |zero=>
   grind [Array.all_eq_true_iff_forall_mem]
  |succ k=>intro e n q;have:=ub h.2 k o (by simpa using j) e n q;omega
theorem JI4{x y:bU}(h:TR x y=true):(∀m,x.dst=some m->y.dst≠some m/\m∉xA y)/\(∀m,y.dst=some m->m∉xA x):=by
 grind [TR]
variable {ins:List bU} {new:Nat->Nat} {S:Nat->St} {eff:Nat->Eff}
theorem JIY(hr:Run F ins new S eff){i j:Nat}(hi:i<ins.length)(hj:j<ins.length)(h1:TR ins[i] ins[j]=true)
  (h2:SE ins[i] ins[j]=true\/(fZ ((eff i).ws.map (·.1)) (jP ((bW F ins[j] (new j)).reads (S j)))=true/\
   fZ ((eff i).ws.map (·.1)) ((eff j).ws.map (·.1))=true/\fZ (jP ((bW F ins[i] (new i)).reads (S i))) ((eff j).ws.map (·.1))=true)):OV F ins new S eff i j:=by
 obtain⟨s1,C⟩:=JI4 h1;have q:ins[i]?=some ins[i]:=zQ9 hi;have o:ins[j]?=some ins[j]:=zQ9 hj;obtain⟨z,_⟩:=hr.step i _ q;obtain⟨v,_⟩:=hr.step j _ o;refine⟨λx y m g e r=>?_,λx y m g e r n=>?_,λy b e k=>?_,λx b g k n=>?_⟩;rw[q]at g;cases g;rw[o]at e;cases e;exact⟨(s1 m r).1,λn=>(s1 m r).2 (G2 F _ _ _ _ n)⟩;rw[q]at g;cases g;rw[o]at e;cases e;exact C m r (G2 F _ _ _ _ n);rw[o]at e;cases e;rcases h2 with h2|⟨w,A,B⟩;simp only[SE,aS,yO,yN]at h2;rcases h2.1 with h|h;rw[ct F _ _ h _ _ z]at k;simp at k;refine⟨?_,F8 F _ _ h _ _ v b⟩;rw[ct F _ _ (De h) _ _ v];simp;exact⟨ej A k,λn=>ej w k (TF n)⟩;rw[q]at g;cases g;rcases h2 with h2|⟨w,A,B⟩;simp only[SE,aS,yO,yN]at h2;rcases h2.2 with h|h;rw[ct F _ _ h _ _ v]at k;simp at k;exact F8 F _ _ h _ _ z b n;grind [ej,TF]
def Dl(e:Array Bool):Nat->Bool:=λj=>e.getD j false
theorem Du{e:Array Bool}{i:Nat}(hi:i<e.size):Dl (e.setIfInBounds i true)=λj=>if j=i then true else Dl e j:=by
 funext j
 unfold Dl;by_cases h:j=i
 all_goals simp_all [Ne.symm]
theorem sx{l:Array Bool}{i:Nat}(hi:i<l.size)(h:l.getD i false=false):(l.setIfInBounds i true).count false+1=l.count false:=by
 have e:l[i]=false:=by simp_all
 grind [Array.getElem_mem]
theorem s7{l:Array Bool}(h:l.count false=0){i:Nat}(hi:i<l.size):l.getD i false=true:=by
 grind [sx]
theorem Cw{l:Array Bool}: ∀m,m<=l.size->(∀j,j<m->Dl l j=true)\/ ∃k,k<m/\Dl l k=false/\ ∀j,j<k->Dl l j=true
 |0,_=>.inl λj e=>by omega
 |m+1,h=>by
  rcases Cw (l:=l) m (by omega)with h1|⟨k,a,b,c⟩
  all_goals grind
theorem JG5{l:Array Bool}{j:Nat}(hj:j<l.size):l.getD j true=l.getD j false:=by simp[hj]
theorem JNm(hF:jO P F)(hr:Run F ins new S eff)(hlen:ins.length=ops.size)(hc: ∀(k:Nat) i,ins[k]?=some i-> ∃o,ops[k]?=some o/\zM P N ops i o=true)
  (G: ∀(k:Nat) o,ops[k]?=some o-> ∀e∈o.after,Region.binds .any e=true->e.on<k)
  (K: ∀i j,i<j->j<ins.length->lb ops j i\/OV F ins new S eff i j)
  (next: ∀H w',Sim N E (S ins.length) H w'->Q .normal H w'):
  ∀(n:Nat) (g:Array Bool) (st:St) (a:Act) (w:World),g.size=ops.size->Agree ins eff (S 0) (Dl g) st->Sim N E st a w->Dh ops (Dl g)->g.count false=n->
   wpAny P .any ops Q n g a w:=by
 intro n
 induction n with
 |zero=>
  intro g st a w L C R r B;refine⟨?_,?_⟩;cases hre:Region.ready .any ops g with
  |nil=>rfl
  |cons j l=>
   exfalso;have h:j∈Region.ready .any ops g:=by rw[hre];simp
   grind [mem_ready,s7]
  ·obtain⟨e1,e2⟩:=JFv hr C λj x=>s7 B (by omega);exact next a w (R.congr (λm=>(e1 m).symm) e2.symm)
 |succ n ih=>
  intro g st a w L C R r B;refine⟨λa2=>?_,λk I=>?_⟩;exfalso;rcases Cw (l:=g) ops.size (by omega)with z|⟨k,I,D,M⟩;have:g.count false=0:=(by rw[Array.count_eq_zero];intro h;obtain⟨i,hi,y⟩:=Array.getElem_of_mem h;have:=z i (by omega);unfold Dl at this;simp[hi,y]at this);omega;have h:k∈Region.ready .any ops g:=(by rw[mem_ready];refine⟨by rw[JG5 (by omega)];exact D,ops[k],by simp[I],λe y A=>?_⟩;exact M _ (G k ops[k] (by simp[I]) e y A));simp_all;obtain⟨h1,o,Y,z⟩:=mem_ready.1 I;have a0:k<ops.size:=(ly.1 Y).1;have D:Dl g k=false:=by grind [Dl]
  have T:ins[k]?=some (ins[k]'(by omega)):=zQ9 _;obtain⟨o',W,U⟩:=hc k _ T;have q:cu ops (Dl g) k:=by intro O v e y A;rw[Y]at v;cases v;exact z e y A
  obtain⟨Z,r2⟩:=JIx hr C T D (λj x hDj=>by
   rcases K j k x (by omega)with h|h;have:=h _ r q;simp_all;exact h) (λj x V hDj=>by
   rcases K k j x V with h|h;have:=h _ r (r j hDj);simp_all;exact h)
  refine D5 hF R W U Z λH w' hs'=>ih _ _ H w' (by simp[L]) ?_ hs' ?_ ?_;grind [Du];rw[Du (by omega)];intro j x O v e y A;dsimp only at x⊢;have h:Dl g e.on=true->(if e.on=k then true else Dl g e.on)=true:=by simp_all
  by_cases J:j=k;subst J;exact h (q O v e y A);rw[if_neg J]at x;exact h (r j x O v e y A);grind [sx]
theorem JLY(Z:jO P F)(H:P.follows .mixedOrders=true){id:Nat}{draw:Bool}{pairs:List (Nat×Nat)}{ins:List bU}(h:region F pairs ins st=some st')
  (hc:YR P N draw pairs ins ops=true) (hs:Sim N E st a w) (next: ∀U w',Sim N E st' U w'->Q .normal U w'):(Code.region id ops draw).wp P Q a w:=by
 simp only[YR,aS,yO,yN]at hc;obtain⟨K,B⟩:=hc;obtain⟨hlen,G⟩:=q9 K;have hlen:ins.length=ops.size:=by simp_all
 have G: ∀(k:Nat) i,ins[k]?=some i-> ∃o,ops[k]?=some o/\zM P N ops i o=true:=λk i hi=>by simp_all
 have T:=hs.room (news ins);have J: ∃(new:Nat->Nat) (S:Nat->St) (eff:Nat->Eff),Run F ins new S eff/\S 0=⟨st.env,room (news ins) st.sto⟩/\S ins.length=st'/\
   ∀i j,(i,j)∈pairs-> ∃x y,ins[i]?=some x/\ins[j]?=some y/\fZ ((eff i).ws.map (·.1)) (jP ((bW F y (new j)).reads (S j)))=true/\
   fZ ((eff i).ws.map (·.1)) ((eff j).ws.map (·.1))=true/\fZ (jP ((bW F x (new i)).reads (S i))) ((eff j).ws.map (·.1))=true:=by
  unfold region at h;split at h;grind [C3];split at h;rename_i s' l n;split at h;rename_i M;cases h;obtain⟨new,S,eff,D,C,O,_,q⟩:=D3 n;refine⟨new,S,eff,D,C,O,λi j hm=>?_⟩;obtain⟨x,y,Y,W,d1,d2,d3⟩:=s8 M hm;have R: ∀(k:Nat) z,l[k]?=some z->k<ins.length:=by
   intro k z hk;have:=Jw hk;have a6:l.length=ins.length:=by
    clear q D C O M Y W;have: ∀{r:List bU} {e:Nat} {s0:St} {A v:Log} {s1:St},jN F r e s0 A=some (s1,v)->v.length=A.length+r.length:=by
     intro r
     induction r with
     |nil=>simp[jN]
     |cons i r ih=>
      grind [jN]
    grind
   omega
  have hi:=R i x Y;have g:=R j y W;have L:ins[i]?=some ins[i]:=zQ9 hi;have I:ins[j]?=some ins[j]:=zQ9 g;have qi:=q i _ L;have qj:=q j _ I;simp only[List.length_nil,nA]at qi qj;grind;cases h;cases h
 obtain⟨new,S,eff,D,C,O,M⟩:=J;cases draw with
 |false=>
  refine wp_region ?_;rw[List.range_eq_range',<-hlen];have a7: ∃e,fW F ins e ⟨st.env,room (news ins) st.sto⟩=some st':=by
   unfold region at h;split at h;grind;split at h;rename_i s' l n;split at h;cases h;have: ∀{r:List bU} {e:Nat} {s0:St} {A v:Log} {s1:St},jN F r e s0 A=some (s1,v)->fW F r e s0=some s1:=by
    intro r
    induction r with
    |nil=>intro e s0 A v s1 h;simp only[jN]at h;injection h with h;injection h with h1 h2;subst h1;rfl
    |cons i r ih=>
     grind [jN,fW]
   grind;cases h;cases h
  grind [sr]
 |true=>
  obtain⟨he,hd⟩:=B.resolve_left (by simp);refine wp_region_any H ?_;have V:Sim N E (S 0) a {w with drawn:=w.drawn+1}:=by rw[C];exact T.heap rfl rfl rfl
  refine JNm Z D hlen G (λk o ho=>?_) (λi j hij g=>?_) (by simp_all) ops.size _ (S 0) a _ (by simp) ?_ V ?_ ?_;have:=ub he k o (by simpa using ho);simp_all;have L:ins[i]?=some (ins[i]'(by omega)):=zQ9 _;have I:ins[j]?=some ins[j]:=zQ9 g;have h1:=tf hd j _ I;rw[nA]at h1;have h2:=uc h1 i _ L (by omega);rw[nA]at h2;simp only[df,yO,aS]at h2;rcases h2 with h2|⟨h2,h3⟩;grind [Ds];grind [JIY];have:Dl (Array.replicate ops.size false)=λ_=>false:=by
   funext j;unfold Dl;simp[Array.getElem?_replicate];split<;>rfl
  rw[this];exact JAQ;intro j g;unfold Dl at g;simp[Array.getElem?_replicate]at g;grind;simp
end
end Go.Am
end
section
namespace Go.Am
def cT(P:Program)(N:Nat):bX->Code->Bool
 | .bad,_=>true
 | .skip,c=>match c with| .skip=>true| .label _=>true|_=>false
 | .reg draw pairs ins,c=>match c with| .region _ ops d=>draw==d&&YR P N draw pairs ins ops|_=>false
 | .seq a b,c=>match c with| .seq x y=>cT P N a x&&cT P N b y|_=>false
 | .cond o a b,c=>match c with| .cond p x y=>bL o p&&cT P N a x&&cT P N b y|_=>false
 | .block id a,c=>match c with| .block e x=>id==e&&cT P N a x|_=>false
 | .loop _ a,c=>match c with| .loop x=>cT P N a x|_=>false
 | .lp _ _ _,_=>false
 | .scope a,c=>match c with| .scope x=>cT P N a x|_=>false
 | .exit id,c=>match c with| .exit e=>id==e|_=>false
 | .ret,c=>match c with| .ret=>true|_=>false
 | .keep _ a,c=>cT P N a c
 | .tidy _ a,c=>cT P N a c
 | .br _ pre o a b rest,c=>match c with| .seq (.seq p (.cond q x y)) z=>cT P N pre p&&bL o q&&cT P N a x&&cT P N b y&&cT P N rest z|_=>false
def rE:AX->Exit| .normal=>.normal| .exit id=>.exit id| .ret=>.ret
def MB(P:Program)(c:bX)(st:St)(r:Out):Prop:=
 match c with
 | .lp n _ b=> ∃k,∀(N:Nat) (e:Code) (E:Sn) (a:Act) (w:World) (Q:Exit->Act->World->Prop),cT P N b e=true->E.σ.length<=n->n<=st.sto.length->Sim N E st a w->
   (∀g w',Sim N E r.2 g w'->Q (rE r.1) g w')->Code.rounds P e Q k a w
 |c=> ∀(N:Nat) (e:Code) (E:Sn) (a:Act) (w:World) (Q:Exit->Act->World->Prop),cT P N c e=true->Sim N E st a w->
  (∀g w',Sim N E r.2 g w'->Q (rE r.1) g w')->e.wp P Q a w
theorem MB.get{P:Program}{c:bX}{st:St}{r:Out}(h:MB P c st r){N:Nat}{e:Code}{E:Sn}{a:Act}{w:World}{Q:Exit->Act->World->Prop}(hc:cT P N c e=true)(hs:Sim N E st a w)
  (next: ∀g w',Sim N E r.2 g w'->Q (rE r.1) g w'):e.wp P Q a w:=by
 cases c<;>first|exact h N e E a w Q hc hs next|grind [cT]
theorem RQ{env:List (Nat×AV)}{n:Nat}{x:AV}: ∀{live:List Nat},lk n (restr live env)=some x->lk n env=some x
 |[],h=>by grind [restr,lk]
 |k::r,h=>by
  simp only[restr]at h;split at h;rename_i v e;simp only[lk]at h;split at h;simp_all;exact RQ h;exact RQ h
theorem Em{m:Nat}{sto:List Blk}{n:Nat}{y:AV}: ∀{env g:List (Nat×AV)},vJ m sto env=some g->lk n g=some y-> ∃x,lk n env=some x/\fin m [] sto x=some y
 |[],g,h,hy=>by grind [vJ,lk]
 |(k,x)::r,g,h,hy=>by
  simp only[vJ]at h;split at h;rename_i z l q j;injection h with h;subst h;simp only[lk]at hy⊢;split at hy;simp_all;rename_i e;obtain⟨o,h1,h2⟩:=Em j hy;simp_all;cases h
section
variable {P:Program} {N:Nat} {E:Sn} {st st':St} {a:Act} {w:World}
theorem Sim.restr(h:Sim N E st a w)(live:List Nat):Sim N E ⟨restr live st.env,st.sto⟩ a w:=by obtain⟨h1,h2,g,hi,e,ht⟩:=h;exact⟨h1,h2,g,hi,λn x j=>e n x (RQ j),ht⟩
theorem RP{n:Nat}{live:List Nat}(h:Sim N E st a w)(hc:clean n live st=some st')(q:E.σ.length<=n)(hn:n<=st.sto.length):Sim N E st' a w/\st'.sto.length=n:=by
 unfold clean at hc;split at hc;rename_i e;injection hc with hc;subst hc;exact⟨h.restr live,e⟩;split at hc;rename_i ev l o A;injection hc with hc;subst hc;obtain⟨h1,h2,g,hi,C,ht⟩:=h;obtain⟨G,H⟩:=SZ A;have hlen:l.length=n:=by simp_all
 have j:my ⟨st.sto,g,w⟩ n [] l:=(by refine⟨hi,hn,List.nodup_nil,λb r=>by simp at r,by simp[hlen],λk x I=>?_⟩;grind [uB]);refine⟨⟨h1,h2,(kI ⟨st.sto,g,w⟩ n [] l).g,Fh j,λk y B=>?_,r7 j ht q⟩,hlen⟩;obtain⟨x,D,z⟩:=Em o B;obtain⟨v,F,hrel⟩:=C k x (RQ D);exact⟨v,F,cr j hrel z⟩;cases hc
def nX(P:Program):List vK->List ResultVar->Bool|[],[]=>true| .tmp t::r,.tmp t'::q=>t==t'&&nX P r q| .cell t agg size::r,.cell t' ty::q=>t==t'&&agT P ty==some agg&&szT P ty==some size&&nX P r q|_,_=>false
def VR(tmps:Array Value):ResultVar->Sem Value| .tmp t=>pure (tmps.getD t undef)| .cell a t=>do loadVar t (<-asAddr (tmps.getD a undef))
theorem dg{s:Sn}{env:List (Nat×AV)}{tmps:Array Value}(hi:Inv s)(he:bN s tmps env): ∀{A:List vK} {B:List ResultVar} {vs:List AV},nX P A B=true->(nF A).run ⟨env,s.σ⟩=some vs->
  ∃g:List Value,(B.mapM (VR tmps)).run P s.w=.ok g s.w/\vs.length=g.length/\ ∀(i:Nat) x v,vs[i]?=some x->g[i]?=some v->JH s x v
 |[],[],vs,_,h=>by simp_all [nF,RM.run]
 | .tmp t::r,.tmp t'::q,vs,hc,h=>by
  simp only[nX,aS,beq_iff_eq]at hc;obtain⟨rfl,hc⟩:=hc;simp only[nF]at h;obtain⟨x,h1,h⟩:=bind_some h;obtain⟨l,h2,h⟩:=bind_some h;simp only[RM.run]at h;injection h with h;subst h;simp only[RM.run]at h1;split at h1;rename_i y n;injection h1 with h1;subst h1;obtain⟨v,L,D⟩:=he _ _ n;obtain⟨g,E,k,F⟩:=dg hi he hc h2;refine⟨v::g,?_,by simp[k],λi x u K I=>?_⟩;simp_all [VR];grind;cases h1
 | .cell t agg size::r,.cell t' ty::q,vs,hc,h=>by
  simp only[nX,aS,beq_iff_eq]at hc;obtain⟨⟨⟨rfl,M⟩,C⟩,hc⟩:=hc;simp only[nF]at h;obtain⟨x,h1,h⟩:=bind_some h;obtain⟨e,J,h⟩:=bind_some h;obtain⟨l,h2,h⟩:=bind_some h;simp only[RM.run]at h;injection h with h;subst h;simp only[RM.run]at h1;split at h1;rename_i y n;injection h1 with h1;subst h1;obtain⟨v,L,D⟩:=he _ _ n;obtain⟨g,E,k,F⟩:=dg hi he hc h2;obtain⟨G,o,ws,R,N,H,_,O⟩:=r8 hi J D;obtain⟨Q,S⟩:=tz (P:=P) M C N H;have j: ∃u,(loadVar ty ⟨G,o,none⟩).run P s.w=.ok u s.w/\JH s e.val u:=(by grind);obtain⟨u,I,hrel⟩:=j;refine⟨u::g,?_,by simp[k],λi x z K C=>?_⟩;simp_all [VR,asAddr];grind;cases h1
 |[],_::_,_,hc,_=>by grind [nX]
 | .tmp _::_,[],_,hc,_=>by grind [nX]
 | .cell _ _ _::_,[],_,hc,_=>by grind [nX]
 | .tmp _::_,.cell _ _::_,_,hc,_=>by grind [nX]
 | .cell _ _ _::_,.tmp _::_,_,hc,_=>by grind [nX]
theorem SS{m:Nat}{fresh:Bool}{sto:List Blk}: ∀{es:List Ent},∀b∈jQ m fresh sto es,m<=b
 |[],b,h=>by grind [jQ]
 | .elem _ _ _::r,b,h=>SS (es:=r) b (by simpa[jQ]using h)
 | .whole c::r,b,h=>by
  simp only[jQ]at h;split at h;exact SS (es:=r) b h;rename_i hc;have e:b∈c::jQ m fresh sto r->m<=b:=(by intro h;rcases cS.1 h with rfl|h;omega;exact SS (es:=r) b h);grind
theorem E5{s:Sn}{vs:List AV}{e:List Value}(hl:vs.length=e.length)(hr: ∀(i:Nat) x v,vs[i]?=some x->e[i]?=some v->JH s x v):
  JH s (one vs) (if h:e.toArray.size=1 then e.toArray[0]else .tuple e.toArray):=by
 by_cases h:e.toArray.size=1;rw[dif_pos h];cases e with
 |nil=>simp at h
 |cons u q=>
  cases vs with
  |nil=>simp at hl
  |cons x p=>
   have j:q=[]:=by simpa using h
   subst j;have g:p=[]:=by simpa using hl
   subst g;exact hr 0 x u rfl rfl
 rw[dif_neg h];have:one vs=.tup vs:=by
  match vs,hl with
  |[],_=>rfl
  |[x],hl=>simp_all
  |_::_::_,_=>rfl
 rw[this];exact .tup _ _ (by simpa using hl) λi x v n k=>hr i x v n (by simpa using k)
theorem se{e:AFn}{fn:Func}{m:Nat}{r:Res}(hs:Sim N E st a w)(hm:E.σ.length=m)(h:gX e m st=some r)(hc:nX P e.res fn.results.toList=true):
  a.defers=[]/\ ∃v,(results fn a.tmps).run P w=.ok v w/\ ∃g',Inv ⟨r.2,g',w⟩/\bB E ⟨r.2,g',w⟩/\JH ⟨r.2,g',w⟩ r.1 v:=by
 obtain⟨h1,h2,g,hi,K,ht⟩:=hs;refine⟨h2,?_⟩;unfold gX at h;cases hvs:(nF e.res).run st with
 |none=>simp_all
 |some vs=>
  rw[hvs]at h;dsimp only at h;obtain⟨y,R,W,H⟩:=dg (P:=P) (s:=⟨st.sto,g,w⟩) (env:=st.env) hi K hc hvs;have n:(results fn a.tmps).run P w=.ok (if h:y.toArray.size=1 then y.toArray[0]else .tuple y.toArray) w:=by
   have:results fn a.tmps=(do
    let vs<-fn.results.mapM (VR a.tmps)
    pure (if h:vs.size=1 then vs[0]else .tuple vs)):=rfl
   simp_all [Array.mapM_eq_mapM_toList]
  refine⟨_,n,?_⟩;split at h;grind [E5];split at h;rename_i C;have z:=SS (m:=m) (fresh:=e.fresh) (sto:=st.sto) (es:=qU st.sto (cJ.entsOfL vs []) (cJ.entsOfL vs []));generalize jQ m e.fresh st.sto (qU st.sto (cJ.entsOfL vs []) (cJ.entsOfL vs []))=ids at*;split at h;rename_i ws l q B J I;split at h;rename_i q' D;injection h with h;subst h;obtain⟨Y,M⟩:=uJ B;obtain⟨b1,b2⟩:=SZ J;obtain⟨U,V⟩:=s9 I;obtain⟨T,S⟩:=SZ D;have F:m<=st.sto.length:=by rw[<-hm];exact ht.len
  have hlen:l.length=m:=by simp_all
  have o:my ⟨st.sto,g,w⟩ m ids (l++q'):=(by refine⟨hi,F,TI C,z,by simp;omega,λk x A=>?_⟩;rcases ME A with A|⟨O,A⟩;grind [uB];grind [gB]);refine⟨_,Fh o,r7 o ht (by omega),E5 (by omega) λi x v G L=>?_⟩;have Q:=Jw G;have j:vs[i]?=some (vs[i]'(by omega)):=zQ9 _;exact cr o (H i _ v j L) (M i _ x j G);cases h;cases h;cases h
def lD(P:Program)(f:FuncId)(e:AFn):Bool:=
 match P.funcs[f]? with
 |none=>false
 |some fn=>match fn.body with
  |none=>false
  |some g=>fn.name != "runtime.NumGoroutine" &&e.nt==e.np+(fn.ntmps-e.np)&&nX P e.res fn.results.toList&&cT P e.nt e.body g
theorem dl: ∀{args:List AV} {k n:Nat} {x:AV},lk n (jE k args)=some x->k<=n/\args[n-k]?=some x
 |[],k,n,x,h=>by grind [jE,lk]
 |y::r,k,n,x,h=>by
  simp only[jE,lk]at h;split at h;simp_all;rename_i e;obtain⟨h1,h2⟩:=dl h;grind
end
section
variable {P:Program} {T:dK}
theorem JHK{f:FuncId}{j:AFn}{args:List AV}{blks:List Blk}{r:Res}(hc:lD P f j=true)(K:args.length=j.np)
  (h: ∀(k:Code) (g:Gh) (w:World) (a:Act) (Q:Exit->Act->World->Prop),cT P j.nt j.body k=true->Sim j.nt ⟨blks,g,w⟩ ⟨jE 0 args,blks⟩ a w->
   (∀e s o w',(e=.normal\/e=.ret)->gX j blks.length s=some r->Sim j.nt ⟨blks,g,w⟩ s o w'->Q (rE e) o w')->k.wp P Q a w):J5f P f args blks r:=by
 unfold lD at hc;split at hc;cases hc;rename_i fn A;split at hc;cases hc;rename_i k D;simp only[aS,beq_iff_eq,bne_iff_ne,ne_eq]at hc;obtain⟨⟨⟨F,J⟩,G⟩,z⟩:=hc;refine⟨⟨fn,A,by simp[D],by simp_all⟩,λg w vals hinv hlen hrel=>?_⟩;refine calls_of_wp A D ?_;have C:Sim j.nt ⟨blks,g,w⟩ ⟨jE 0 args,blks⟩ {tmps:=vals++Array.replicate (fn.ntmps-vals.size) undef,defers:=[]} w:=(by refine⟨by simp;omega,rfl,g,hinv,λn x y=>?_,.refl _⟩;obtain⟨_,y⟩:=dl y;rw[tJ]at y;have I:=Jw y;refine⟨vals[n]'(by omega),?_,hrel n x _ y (yU _)⟩;grind);have fin: ∀{s},gX j blks.length s=some r-> ∀o w',Sim j.nt ⟨blks,g,w⟩ s o w'->o.defers=[]/\ ∃v,(results fn o.tmps).run P w'=.ok v w'/\ ∃B g',Ending.returned v=.returned B/\
   Inv ⟨r.2,g',w'⟩/\bB ⟨blks,g,w⟩ ⟨r.2,g',w'⟩/\JH ⟨r.2,g',w'⟩ r.1 B:=by
  grind [se]
 refine h k g w _ _ z C λe s o w' H q E=>?_;rcases H with rfl|rfl;exact fin q o w' E;exact fin q o w' E
theorem JIS{R:bX->St->Option Out}(ih: ∀c s r,R c s=some r->MB P c s r){f:FuncId}{k:oV}{args:List AV}{blks:List Blk}{r:Res}(hc:lD P f k.af=true)(K:args.length=k.np)
  (h:FD R k args blks=some r):J5f P f args blks r:=by
 refine JHK hc K λn g w a Q j z fin=>?_;simp only[oV.af]at j fin z;cases n<;>simp only[cT,eJ]at j;rename_i S O;simp only[aS]at j;obtain⟨F,q⟩:=j;unfold FD at h;split at h
 rename_i s0 I;split at h;rename_i s1 B;refine wp_seq ((ih _ _ _ I).get F z λa0 w0 x=>?_);split at q;rename_i cp H cx cy T;simp only[aS]at q;obtain⟨⟨⟨⟨Y,L⟩,hx⟩,hy⟩,W⟩:=q;simp only[rE,Exit.then];refine wp_seq (wp_seq ((ih _ _ _ B).get Y x λE C x=>?_));have Z: ∀{c:bX} {n:Code},cT P k.nt c n=true->yH k.af blks.length (thn (R c s1) λs=>R k.rest s)=some r->
   n.wp P (Exit.then (T.wp P Q) Q) E C:=by
  intro c n hc ht;cases hR:R c s1 with
  |none=>rw[hR]at ht;cases ht
  |some o=>
   obtain⟨e,G⟩:=o;rw[hR]at ht;refine(ih _ _ _ hR).get hc x λy w' hs'=>?_;cases e with
   |normal=>
    simp only[thn]at ht;cases hR2:R k.rest G with
    |none=>rw[hR2]at ht;cases ht
    |some U=>
     obtain⟨V,J⟩:=U;rw[hR2]at ht;simp only[rE,Exit.then];refine(ih _ _ _ hR2).get W hs' λy w' hs'=>?_;cases V with
     |normal=>exact fin .normal J y w' (.inl rfl) ht hs'
     |ret=>exact fin .ret J y w' (.inr rfl) ht hs'
     |exit id=>cases ht
   |exit id=>cases ht
   |ret=>exact fin .ret G y w' (.inr rfl) ht hs'
 have A:=x;obtain⟨_,_,g,hi,M,_⟩:=A;simp only[rE,Exit.then];split at h;rename_i b D;have hrel:=bJ (s:=⟨s1.sto,g,C⟩) (env:=s1.env) M D L;generalize N:E.eval H=v at hrel;cases hrel with
 |p _ _ hrel=>cases hrel<;>grind [wp_cond]
 rename_i D;have hrel:=bJ (s:=⟨s1.sto,g,C⟩) (env:=s1.env) M D L;generalize N:E.eval H=v at hrel;cases hrel with
 |unk t=>
  refine wp_cond N ?_;unfold LB at h;grind
 cases h;cases q;cases h;cases h
theorem qw{R:bX->St->Option Out}(ih: ∀c s r,R c s=some r->MB P c s r)(F: ∀f j,T f=some (.fn j)->lD P f j=true)
  (L: ∀f g,T f=some (.prim g)-> ∀args blks r,g args blks=some r->J5f P f args blks r) (K: ∀f k,T f=some (.fork k)->lD P f k.af=true):jO P (qW T R):=by
 intro f args blks r h;unfold qW at h;cases hTf:T f with
 |none=>simp_all
 |some en=>
  rw[hTf]at h;cases en with
  |prim g=>simp_all
  |fork k=>
   grind [JIS]
  |fn j=>
   dsimp only at h;split at h;rename_i I;have hc:=F f j hTf;unfold lD at hc;split at hc;cases hc;rename_i fn z;split at hc;cases hc;rename_i E C;simp only[aS,beq_iff_eq,bne_iff_ne,ne_eq]at hc;obtain⟨⟨⟨D,J⟩,G⟩,o⟩:=hc;refine⟨⟨fn,z,by simp[C],by simp_all⟩,λg w vals hinv hlen hrel=>?_⟩;refine calls_of_wp z C ?_;have y:Sim j.nt ⟨blks,g,w⟩ ⟨jE 0 args,blks⟩ {tmps:=vals++Array.replicate (fn.ntmps-vals.size) undef,defers:=[]} w:=(by refine⟨by simp;omega,rfl,g,hinv,λn x q=>?_,.refl _⟩;obtain⟨_,q⟩:=dl q;rw[tJ]at q;have H:=Jw q;refine⟨vals[n]'(by omega),?_,hrel n x _ q (yU _)⟩;grind);have fin: ∀{s},gX j blks.length s=some r-> ∀e w',Sim j.nt ⟨blks,g,w⟩ s e w'->e.defers=[]/\ ∃v,(results fn e.tmps).run P w'=.ok v w'/\ ∃B g',Ending.returned v=.returned B/\
     Inv ⟨r.2,g',w'⟩/\bB ⟨blks,g,w⟩ ⟨r.2,g',w'⟩/\JH ⟨r.2,g',w'⟩ r.1 B:=by
    grind [se]
   split at h;rename_i s hR;exact(ih _ _ _ hR).get o y λe w' A=>fin h e w' A;rename_i s hR;exact(ih _ _ _ hR).get o y λe w' A=>fin h e w' A;cases h;cases h
theorem JK5(a3:P.follows .mixedOrders=true)(hT: ∀f af,T f=some (.fn af)->lD P f af=true)
  (hP: ∀f g,T f=some (.prim g)-> ∀args blks r,g args blks=some r->J5f P f args blks r) (hK: ∀f k,T f=some (.fork k)->lD P f k.af=true): ∀c s r,X T c s=some r->MB P c s r:=by
 refine JOA T _ ?_;intro R ih c s r h;have hF:jO P (qW T R):=qw ih hT hP hK;cases c with
 |skip=>
  simp only[step]at h;injection h with h;subst h;intro N j E a w Q hc q next;cases j<;>first
   |exact wp_skip (next a w q)
   |exact wp_label (next a w q)
   |grind [cT]
 |bad=>grind [step]
 |reg d pairs ins=>
  simp only[step]at h;split at h;rename_i s' a0;injection h with h;subst h;intro N j E a w Q hc q next;cases j<;>simp only[cT,eJ]at hc;simp only[aS,beq_iff_eq]at hc;obtain⟨rfl,hc⟩:=hc;exact JLY hF a3 a0 hc q next
  cases h
 |seq x y=>
  simp only[step]at h;intro N j E a w Q hc q next;cases j<;>simp only[cT,eJ]at hc;simp only[aS]at hc;refine wp_seq ?_;split at h
  rename_i s' C;refine(ih _ _ _ C).get hc.1 q λz w' hs'=>?_;exact(ih _ _ _ h).get hc.2 hs' next;rename_i W;refine(ih _ _ _ h).get hc.1 q λz w' hs'=>?_;obtain⟨e,s'⟩:=r;cases e with
  |normal=>simp_all
  |exit id=>exact next z w' hs'
  |ret=>exact next z w' hs'
 |cond c x y=>
  simp only[step]at h;intro N j E a w Q hc q next;cases j<;>simp only[cT,eJ]at hc;simp only[aS]at hc;obtain⟨⟨Y,C⟩,hy⟩:=hc;have hs':=q;obtain⟨_,_,g,hi,B,_⟩:=hs';split at h
  rename_i b G;have hrel:=bJ (s:=⟨s.sto,g,w⟩) (env:=s.env) B G Y;generalize I:a.eval _=v at hrel;cases hrel with
  |p _ _ hrel=>
   cases hrel with
   |b=>
    refine wp_cond I ?_;cases b with
    |true=>exact(ih _ _ _ (by simpa using h)).get C q next
    |false=>exact(ih _ _ _ (by simpa using h)).get hy q next
  rename_i G;have hrel:=bJ (s:=⟨s.sto,g,w⟩) (env:=s.env) B G Y;generalize I:a.eval _=v at hrel;cases hrel with
  |unk t=>
   refine wp_cond I ?_;unfold same at h;split at h;rename_i r1 r2 e1 e2;split at h;rename_i L;injection h with h;subst h;cases t with
   |true=>exact(ih _ _ _ e1).get C q next
   |false=>rw[L]at next;exact(ih _ _ _ e2).get hy q next
   cases h;cases h
  cases h
 |block id x=>
  simp only[step]at h;intro N j E a w Q hc q next;cases j<;>simp only[cT,eJ]at hc;simp only[aS,beq_iff_eq]at hc;obtain⟨rfl,hc⟩:=hc;refine wp_block ?_;split at h
  rename_i k s' C;refine(ih _ _ _ C).get hc q λz w' hs'=>?_;grind [rE,Exit.inBlock];rename_i W;refine(ih _ _ _ h).get hc q λz w' hs'=>?_;obtain⟨e,s'⟩:=r;cases e with
  |normal=>exact next z w' hs'
  |exit id=>simp_all
  |ret=>exact next z w' hs'
 |loop live x=>
  simp only[step]at h;intro N j E a w Q hc q next;cases j<;>simp only[cT,eJ]at hc;split at h
  rename_i s' A;obtain⟨k,hk⟩:=ih _ _ _ h;have H:E.σ.length<=s.sto.length:=by obtain⟨_,_,g,_,_,ht⟩:=q;exact ht.len
  obtain⟨hs',hl⟩:=RP q A H (zQ0 _);exact wp_loop_rounds k (hk N _ E a w Q hc H (by omega) hs' next);cases h
 |lp n live x=>
  simp only[step]at h;split at h
  ·rename_i s' C;split at h
   ·rename_i au A;obtain⟨k,hk⟩:=ih _ _ _ h;refine⟨k+1,λN j E a w Q hc H hn q next=>?_⟩;rw[rounds_succ];obtain⟨h1,h2,g,hi,B,ht⟩:=q;have D:Sim N ⟨s.sto,g,w⟩ s a w:=⟨h1,h2,g,hi,B,.refl _⟩;refine(ih _ _ _ C).get hc D λz w' hs'=>?_;obtain⟨S,M,g',J,K,F⟩:=hs';have hlen:s.sto.length<=s'.sto.length:=F.len;have a8:Sim N E s' z w':=⟨S,M,g',J,K,ht.trans F⟩;obtain⟨a9,hl⟩:=RP a8 A H (by omega);exact hk N j E z w' Q hc H (by omega) a9 next
   cases h
  ·rename_i W;refine⟨1,λN j E a w Q hc H hn q next=>?_⟩;rw[rounds_succ];refine(ih _ _ _ h).get hc q λz w' hs'=>?_;obtain⟨e,s'⟩:=r;cases e with|normal=>simp_all|exit id=>exact next z w' hs'|ret=>exact next z w' hs'
 |scope x=>simp only[step]at h;intro N j E a w Q hc q next;cases j<;>simp only[cT,eJ]at hc;refine wp_scope_straight ((ih _ _ _ h).get hc q λz w' hs'=>?_);have:=next z w' hs';obtain⟨e,s'⟩:=r;cases e<;>exact this
 |exit id=>
  simp only[step]at h;injection h with h;subst h;intro N j E a w Q hc q next;cases j<;>simp only[cT,eJ]at hc;simp only[beq_iff_eq]at hc;subst hc;exact wp_exit (next a w q)
 |ret=>
  simp only[step]at h;injection h with h;subst h;intro N j E a w Q hc q next;cases j<;>simp only[cT,eJ]at hc;exact wp_ret (next a w q)
 |keep live x=>simp only[step]at h;intro N j E a w Q hc q next;exact(ih _ _ _ h).get (by grind [cT]) (q.restr live) next
 |tidy live x=>
  simp only[step,mD]at h;intro N j E a w Q hc q next;split at h;rename_i e U L;split at h;rename_i s3 A;injection h with h;subst h;obtain⟨h1,h2,g,hi,B,ht⟩:=q;have D:Sim N ⟨s.sto,g,w⟩ s a w:=⟨h1,h2,g,hi,B,.refl _⟩;refine(ih _ _ _ L).get (by grind [cT]) D λz w' hs'=>next z w' ?_;obtain⟨S,M,g',J,K,F⟩:=hs';exact(RP (st:=U) (st':=s3) ⟨S,M,g',J,K,ht.trans F⟩ A ht.len F.len).1;cases h;cases h
 |br live pre o x y rest=>
  simp only[step]at h;intro N j E a w Q hc q next;unfold cT at hc;split at hc;rename_i cp cq cx cy cz;simp only[aS]at hc;obtain⟨⟨⟨⟨hp,ho⟩,C⟩,hy⟩,hz⟩:=hc;split at h;rename_i s1 a5;refine wp_seq (wp_seq ((ih _ _ _ a5).get hp q λV O Z=>?_));have ac: ∀{c:bX} {j:Code} {r':Out},cT P N c j=true->thn (R c s1) (λs=>R rest s)=some r'->
    ∀{E:Sn} {a:Act} {w:World} {Q:Exit->Act->World->Prop},Sim N E s1 a w->(∀z w',Sim N E r'.2 z w'->Q (rE r'.1) z w')->j.wp P (Exit.then (cz.wp P Q) Q) a w:=by
   intro c j r' hc ht E a w Q q next;cases hR:R c s1 with
   |none=>rw[hR]at ht;cases ht
   |some o=>
    obtain⟨e,U⟩:=o;rw[hR]at ht;refine(ih _ _ _ hR).get hc q λz w' hs'=>?_;cases e with
    |normal=>exact(ih _ _ _ ht).get hz hs' next
    |exit id=>injection ht with ht;subst ht;exact next z w' hs'
    |ret=>injection ht with ht;subst ht;exact next z w' hs'
  have ag: ∀{c:bX} {j:Code},cT P N c j=true->mD s1.sto.length live (thn (R c s1) λs=>R rest s)=some r->j.wp P (Exit.then (cz.wp P Q) Q) V O:=(by intro c j hc ht;unfold mD at ht;split at ht;rename_i e U L;split at ht;rename_i s3 A;injection ht with ht;subst ht;obtain⟨h1,h2,g,hi,B,ht⟩:=Z;have D:Sim N ⟨s1.sto,g,O⟩ s1 V O:=⟨h1,h2,g,hi,B,.refl _⟩;refine ac hc L D λz w' hs'=>next z w' ?_;obtain⟨S,M,g',J,K,F⟩:=hs';exact(RP (st:=U) (st':=s3) ⟨S,M,g',J,K,ht.trans F⟩ A ht.len F.len).1;cases ht;cases ht);have a2:=Z;obtain⟨_,_,g,hi,B,_⟩:=a2;simp only[rE,Exit.then];split at h;rename_i b G;have hrel:=bJ (s:=⟨s1.sto,g,O⟩) (env:=s1.env) B G ho;generalize I:V.eval cq=v at hrel;cases hrel with
  |p _ _ hrel=>cases hrel<;>grind [wp_cond]
  rename_i G;have hrel:=bJ (s:=⟨s1.sto,g,O⟩) (env:=s1.env) B G ho;generalize I:V.eval cq=v at hrel;cases hrel with
  |unk t=>
   refine wp_cond I ?_;unfold same at h;grind
  cases h;cases h;cases hc
theorem Cn(e:P.follows .mixedOrders=true)(j: ∀f o,T f=some (.fn o)->lD P f o=true)
  (h: ∀f g,T f=some (.prim g)-> ∀args blks r,g args blks=some r->J5f P f args blks r) (n: ∀f k,T f=some (.fork k)->lD P f k.af=true):jO P (AF T):=
 qw (JK5 e j h n) j h n
end
end Go.Am
end
section
namespace Go.Am
@[congr] theorem JOp{o e:Option Out}{k:St->Option Out}(h:o=e):thn o k=thn e k:=by rw[h]
@[congr] theorem JNr{α β:Type}{o e:RM α}{f:α->RM β}(h:o=e):o.bind f=e.bind f:=by rw[h]
@[congr] theorem JNs{α β:Type}{o e:Option α}{f:α->Option β}(h:o=e):o.bind f=e.bind f:=by rw[h]
@[simp] theorem NA(s k):thn (some (.normal,s)) k=k s:=rfl
@[simp] theorem JI9(i s k):thn (some (.exit i,s)) k=some (.exit i,s):=rfl
@[simp] theorem JK3(s k):thn (some (.ret,s)) k=some (.ret,s):=rfl
@[simp] theorem JGU(k):thn none k=none:=rfl
def IJ(o:Option Out)(k:St->Option Out):Option Out:=
 match o with
 |some (.normal,s)=>k s
 |_=>none
@[congr] theorem JNw{o e:Option Out}{k:St->Option Out}(h:o=e):IJ o k=IJ e k:=by rw[h]
@[simp] theorem JAx(s k):IJ (some (.normal,s)) k=k s:=rfl
def blo(id:Nat)(o:Option Out):Option Out:=
 match o with
 |some (.exit k,s)=>if k=id then some (.normal,s)else some (.exit k,s)
 |o=>o
@[simp] theorem JEi(id s):blo id (some (.normal,s))=some (.normal,s):=rfl
@[simp] theorem pm(id i s):blo id (some (.exit i,s))=if i=id then some (.normal,s)else some (.exit i,s):=rfl
@[simp] theorem JKX(id s):blo id (some (.ret,s))=some (.ret,s):=rfl
@[simp] theorem JHM(id):blo id none=none:=rfl
def nrm(o:Option St):Option Out:=match o with|some s=>some (.normal,s)|none=>none
@[simp] theorem JJg(s):nrm (some s)=some (.normal,s):=rfl
@[simp] theorem JIt:nrm none=none:=rfl
def evv(x:Opd)(env:List (Nat×AV)):Option AV:=match x with| .t n=>lk n env| .c v=>some v
@[simp] theorem JOY(n env):evv (.t n) env=lk n env:=rfl
@[simp] theorem JOZ(v env):evv (.c v) env=some v:=rfl
theorem QD(x:Opd)(s:St):(ev x).run s=evv x s.env:=by cases x<;>grind [ev,RM.run,evv]
section
variable (T:dK)
@[simp ↓] theorem JOT(s):X T .skip s=some (.normal,s):=by rw[lZ];rfl
@[simp ↓] theorem Ct(a b s):X T (.seq a b) s=thn (X T a s) λs=>X T b s:=by
 rw[lZ];simp only[step];cases X T a s with
 |none=>rfl
 |some o=>obtain⟨e,s'⟩:=o;cases e<;>rfl
theorem Ck(d ps ins s):X T (.reg d ps ins) s=nrm (region (AF T) ps ins s):=by rw[lZ];simp only[step];show(match region (AF T) ps ins s with|some s'=>some (AX.normal,s')|none=>none)=_;cases region (AF T) ps ins s<;>rfl
@[simp ↓] theorem JOV(d ins env sto):X T (.reg d [] ins) ⟨env,sto⟩=nrm (fW (AF T) ins sto.length ⟨env,room (news ins) sto⟩):=by rw[Ck];rfl
def cnd(x:Option AV)(a b:Option Out)(c:Unit->Option Out):Option Out:=
 match x with
 |some (.p (.b x))=>if x=true then a else b
 |some .unk=>c ()
 |_=>none
@[congr] theorem JOn{x e:Option AV}{a b:Option Out}{c:Unit->Option Out}(h:x=e):cnd x a b c=cnd e a b c:=by rw[h]
@[simp] theorem Cj(x a b c):cnd (some (.p (.b x))) a b c=if x=true then a else b:=rfl
@[simp] theorem JL3(a b c):cnd (some .unk) a b c=c ():=rfl
@[simp ↓] theorem JLf(x a b s):X T (.cond x a b) s=cnd (evv x s.env) (X T a s) (X T b s) λ_=>same (X T a s) (X T b s):=by
 rw[lZ];simp only[step,QD];cases evv x s.env with
 |none=>rfl
 |some v=>
  cases v with
  |p c=>cases c<;>rfl
  |_=>rfl
@[simp ↓] theorem JJR(id c s):X T (.block id c) s=blo id (X T c s):=by
 rw[lZ];simp only[step];cases X T c s with
 |none=>rfl
 |some o=>obtain⟨e,s'⟩:=o;cases e<;>rfl
@[simp ↓] theorem JKf(c s):X T (.scope c) s=X T c s:=by rw[lZ];rfl
@[simp ↓] theorem JOS(id s):X T (.exit id) s=some (.exit id,s):=by rw[lZ];rfl
@[simp ↓] theorem JO1(s):X T .ret s=some (.ret,s):=by rw[lZ];rfl
@[simp ↓] theorem Dj(live c s):X T (.keep live c) s=X T c ⟨restr live s.env,s.sto⟩:=by rw[lZ];rfl
@[simp ↓] theorem JP1(live pre x a b rest s):X T (.br live pre x a b rest) s=IJ (X T pre s) λs1=>
  cnd (evv x s1.env) (thn (X T a s1) λs=>X T rest s) (thn (X T b s1) λs=>X T rest s) λ_=>
   same (mD s1.sto.length live (thn (X T a s1) λs=>X T rest s)) (mD s1.sto.length live (thn (X T b s1) λs=>X T rest s)):=by
 rw[lZ];simp only[step,QD];cases X T pre s with
 |none=>rfl
 |some o=>
  obtain⟨e,s1⟩:=o;cases e with
  |normal=>
   dsimp only[IJ];cases evv x s1.env with
   |none=>rfl
   |some v=>
    cases v with
    |p c=>cases c<;>rfl
    |_=>rfl
  |exit=>rfl
  |ret=>rfl
@[simp ↓] theorem JMo(live c env sto):X T (.loop live c) ⟨env,sto⟩=X T (.lp sto.length live c) ⟨restr live env,sto⟩:=by
 grind [lZ,step,clean]
theorem l5(n live c s):X T (.lp n live c) s=thn (X T c s) λs=>match clean n live s with
  |some s=>X T (.lp n live c) s
  |none=>none:=by
 rw[lZ];simp only[step];cases X T c s with
 |none=>rfl
 |some o=>obtain⟨e,s'⟩:=o;cases e<;>rfl
def IA(res:List vK)(fresh:Bool)(m:Nat)(o:Option Out):Option Res:=
 match o with
 |some (.normal,s)=>gX ⟨0,0,.skip,res,fresh⟩ m s
 |some (.ret,s)=>gX ⟨0,0,.skip,res,fresh⟩ m s
 |_=>none
@[congr] theorem JO0{res:List vK}{fresh:Bool}{m:Nat}{o e:Option Out}(h:o=e):IA res fresh m o=IA res fresh m e:=by rw[h]
@[simp] theorem JAF(res fresh m s):IA res fresh m (some (.normal,s))=gX ⟨0,0,.skip,res,fresh⟩ m s:=rfl
@[simp] theorem JIU(res fresh m s):IA res fresh m (some (.ret,s))=gX ⟨0,0,.skip,res,fresh⟩ m s:=rfl
@[simp] theorem JNL(o:Option Res):LB o o=o:=by unfold LB;cases o<;>simp
theorem Z9{f:FuncId}{fn:AFn}(h:T f=some (.fn fn))(args blks):AF T f args blks=if args.length=fn.np then
  IA fn.res fn.fresh blks.length (X T fn.body ⟨jE 0 args,blks⟩)
 else none:=by
 unfold AF qW;rw[h];rfl
end
variable {F:Orc} {env:List (Nat×AV)} {sto:List Blk} {new:Nat} {r:List bU} {d:Nat}
@[simp] theorem JCW(s):fW F [] new s=some s:=rfl
theorem JAC(i s):fW F (i::r) new s=((bW F i new).run s).bind λe=>fW F r (new+lB i.op) (put i.dst e s):=by
 grind [fW]
@[simp] theorem JOx:news []=0:=rfl
@[simp ↓] theorem JOo(i):news (i::r)=lB i.op+news r:=rfl
@[simp] theorem JOW:room 0 sto=sto:=rfl
@[simp] theorem JOl(n):room (n+1) sto=sto++List.replicate (n+1) .dead:=rfl
@[simp] theorem JOX(n):lk n []=none:=rfl
@[simp] theorem JKx(n m v)(r:List (Nat×AV)):lk n ((m,v)::r)=if n=m then some v else lk n r:=rfl
attribute [simp ↓] JAC bW opD tO lB run_bind QD opR
attribute [simp] put val evs evo kR oB
 nG yB yG unP iZ IE fz fz.fzL fz.fz1 fzs AB gE iA sub spl rC PR KB LD LK mE PA vQ pP kO wP wM fG nJ iM mmP cellsOf unp pM kM
 nF one jE gG LQ mF
@[simp] theorem JOq(o:Option Out):same o o=o:=by unfold same;cases o<;>simp
@[simp ↓] theorem bI{α:Type}(a:α)(s:St):(RM.ret a).run s=some a:=rfl
@[simp ↓] theorem JOL{α:Type}(s:St):(RM.fail:RM α).run s=none:=rfl
@[simp ↓] theorem xB{α:Type}(n:Nat)(k:AV->RM α)(s:St):(RM.slot n k).run s=(lk n s.env).bind λv=>(k v).run s:=by grind [RM.run]
@[simp ↓] theorem eG{α:Type}(n:Nat)(k:Blk->RM α)(s:St):(RM.blk n k).run s=(s.sto[n]?).bind λv=>(k v).run s:=by grind [RM.run]
@[simp] theorem JJL:upd [] sto=sto:=rfl
@[simp] theorem JI3(b x ws):upd ((b,x)::ws) sto=upd ws (sto.set b x):=rfl
@[simp] theorem JOm:restr [] env=[]:=rfl
@[simp] theorem JEq(k l):restr (k::l) env=match lk k env with
 |some v=>(k,v)::restr l env
 |none=>restr l env:=rfl
end Go.Am
namespace Go.Am
def pI:AV->Bool| .p _| .data _| .cp _ _| .unk=>true|_=>false
@[simp] theorem JOy(c):pI (.p c)=true:=rfl
@[simp] theorem JNt(c):pI (.data c)=true:=rfl
@[simp] theorem JOk(c o):pI (.cp c o)=true:=rfl
theorem tl: ∀{args:List AV} {l:List Ent},args.all pI=true->cJ.entsOfL args l=l|[],l,_=>rfl|x::r,l,h=>by simp only[List.all_cons,aS]at h;obtain⟨h1,h2⟩:=h;simp only[cJ.entsOfL];cases x<;>simp[pI]at h1<;>simp only[cJ]<;>exact tl h2
theorem r6{ρ:Ent->Option Nat}: ∀{args:List AV},args.all pI=true->ren.renL ρ args=some args|[],_=>rfl|x::r,h=>by simp only[List.all_cons,aS]at h;have:=r6 (ρ:=ρ) h.2;have h1:=h.1;clear h;cases x<;>simp[pI]at h1<;>simp[ren.renL,ren,this]
theorem JIc{es:List Ent}{new:Nat}{x:AV}(h:pI x=true):bk es new x=some x:=by cases x<;>simp[pI]at h<;>rfl
theorem gq{es:List Ent}{new:Nat}: ∀{xs:List AV},xs.all pI=true->bk.bkL es new xs=some xs|[],_=>rfl|x::r,h=>by simp only[List.all_cons,aS]at h;simp[bk.bkL,JIc h.1,gq h.2]
@[simp] theorem JP0(es new c):bk es new (.p c)=some (.p c):=rfl
@[simp] theorem JOR(es new c):bk es new (.data c)=some (.data c):=rfl
@[simp] theorem JOU(es new l):bk es new (.tup l)=(bk.bkL es new l).map .tup:=by grind [bk]
@[simp] theorem JOQ(es new):bk.bkL es new []=some []:=rfl
@[simp] theorem JOC(es new x l):bk.bkL es new (x::l)=(bk es new x).bind λy=>(bk.bkL es new l).map λl=>y::l:=by simp only[bk.bkL];cases bk es new x<;>simp;cases bk.bkL es new l<;>rfl
@[simp] theorem JNu(n live):mD n live none=none:=rfl
@[simp] theorem JA2(n live e s):mD n live (some (e,s))=(clean n live s).map λs=>(e,s):=by
 grind [mD]
attribute [simp ↓] JO Option.bind_none NA JI9 JK3 JGU JAx JJg JIt Cj JL3 JEi pm JKX JHM JAF JIU JCW JKx JEq JJL JI3
attribute [simp] clean vJ qS fU fin fin.finL gX jQ qU cJ cJ.entsOfL wO jL wA eI unp
end Go.Am
end
section
namespace Go.Am
inductive Fr where|sq (b:bX)|bl (id:Nat)|td (n:Nat) (live:List Nat)|lo (n:Nat) (live:List Nat) (c:bX)
noncomputable def again(T:dK)(n:Nat)(live:List Nat)(c:bX)(o:Option St):Option Out:=match o with|some s=>X T (.lp n live c) s|none=>none
section
variable (T:dK) (f:AFn) (m:Nat) (k:List Fr)
theorem JLM(live c s):X T (.tidy live c) s=mD s.sto.length live (X T c s):=by rw[lZ];rfl
end
open Classical in
noncomputable def J6{σ ρ:Type}(f:σ->Option (σ⊕ρ))(s:σ):Option ρ:=
 let e:Nat->σ->Option ρ:=λn=>n.rec (λ_=>none) λ_ ih s=>match f s with|some (.inl s')=>ih s'|some (.inr r)=>some r|none=>none
 if h: ∃n r,e n s=some r then e (Classical.choose h) s else none
def cY{σ ρ:Type}(f:σ->Option (σ⊕ρ)):Nat->σ->Option ρ|0,_=>none|n+1,s=>match f s with|some (.inl s')=>cY f n s'|some (.inr r)=>some r|none=>none
section
variable {σ ρ:Type} {f:σ->Option (σ⊕ρ)}
theorem dq(n:Nat): ∀s:σ,(Nat.rec (motive:=λ_=>σ->Option ρ) (λ_=>none) (λ_ ih s=>match f s with
  |some (.inl s')=>ih s'
  |some (.inr r)=>some r
  |none=>none) n) s=cY f n s:=by
 induction n with
 |zero=>intro s;rfl
 |succ n ih=>grind [cY]
theorem fv: ∀{n:Nat} {s:σ} {r:ρ} (m:Nat),cY f n s=some r->cY f (n+m) s=some r
 |0,_,_,_,h=>by cases h
 |n+1,s,r,m,h=>by
  rw[show n+1+m=(n+m)+1 by omega];simp only[cY]at h⊢;split at h;exact fv m h
  all_goals simp_all
theorem JHk{n m:Nat}{s:σ}{r r':ρ}(h:cY f n s=some r)(e:cY f m s=some r'):r=r':=by
 have a:=fv m h;have b:=fv n e;grind
theorem iT{s:σ}{r:ρ}:J6 f s=some r↔ ∃n,cY f n s=some r:=by
 unfold J6;dsimp only;constructor;intro h;split at h;exact⟨_,by rw[<-dq];exact h⟩;cases h;rintro⟨n,h⟩;have e: ∃n r,(Nat.rec (motive:=λ_=>σ->Option ρ) (λ_=>none) (λ_ ih s=>match f s with
  |some (.inl s')=>ih s'
  |some (.inr r)=>some r
  |none=>none) n) s=some r:=⟨n,r,by grind [dq]⟩
 rw[dif_pos e];obtain⟨r',g⟩:=Classical.choose_spec e;rw[g];rw[dq]at g;grind [JHk]
theorem eT{s:σ}{r:ρ}(h:f s=some (.inr r)):J6 f s=some r:=iT.2 ⟨1,by grind [cY]⟩
theorem iF{s s':σ}(h:f s=some (.inl s')):J6 f s=J6 f s':=by
 have g: ∀r,J6 f s=some r↔J6 f s'=some r:=by
  intro r;rw[iT,iT];constructor;rintro⟨n,e⟩;cases n<;>grind [cY]
  rintro⟨n,e⟩;exact⟨n+1,by grind [cY]⟩
 cases hs:J6 f s with
 |some r=>grind
 |none=>cases hs':J6 f s'<;>grind
theorem JDH{s:σ}(h:f s=none):J6 f s=none:=by
 cases hs:J6 f s with
 |none=>rfl
 |some r=>obtain⟨n,e⟩:=iT.1 hs;cases n<;>simp_all [cY]
theorem gd{P:σ->ρ->Prop}(h1: ∀s r,f s=some (.inr r)->P s r)(h2: ∀s s' r,f s=some (.inl s')->P s' r->P s r){s:σ}{r:ρ}(h:J6 f s=some r):P s r:=by
 obtain⟨n,e⟩:=iT.1 h;clear h
 induction n generalizing s with
 |zero=>cases e
 |succ n ih=>
  grind [cY]
end
end Go.Am
end
section
namespace Go.Am
section
variable {α:Type}
def idx(l:List α)(n:Int):Option α:=if 0<=n then l[n.toNat]? else none
def aV(k:Nat)(n:Int):Option Unit:=if 0<=n/\n<k then some ()else none
def JB(bytes:Nat)(l l':List α):Option (List α):=if nJ (l.length+l'.length) bytes=true then some (l++l')else none
def cM(bytes:Nat)(l:List α):Option (List α):=if nJ l.length bytes=true then some l else none
def A1(bytes:Nat)(l l':List α):Option (List α):=if 0<l'.length/\nJ (l.length+l'.length) bytes=true then some (l++l')else none
def mkS(bytes:Nat)(n m:Int)(z:α):Option (List α):=if 0<=n/\n<=m/\bytes*m<=281474976710656/\m<=281474976710656 then some (List.replicate n.toNat z)else none
def tF(x:Option Int)(top e:Nat):Option Nat:=match x with|none=>some e|some n=>if 0<=n/\n<=top then some n.toNat else none
def qM(n:Nat)(lo hi:Option Int):Option (Nat×Nat):=match tF hi n n with|none=>none|some h=>match tF lo h 0 with|none=>none|some l=>some (l,h)
def bD(l:List α)(lo hi:Option Int):Option (List α):=match qM l.length lo hi with|some c=>some ((l.drop c.1).take (c.2-c.1))|none=>none
def Bx(k:IntKind)(x y:Int):Option Int:=if y=0 then none else some (k.wrap (x.tdiv y))
def mA(x y:Int):Option Int:=if y=0 then none else some (x.tmod y)
def sY(k:IntKind)(x y:Int):Option Int:=if y<0 then none else some (k.wrap (x*2^(min y.toNat k.bits)))
def kE(k:IntKind)(x y:Int):Option Int:=if y<0 then none else some (x.fdiv (2^(min y.toNat k.bits)))
def qP(k:IntKind)(x y:Int):Int:=k.wrap (BitVec.ofInt k.bits x&&&BitVec.ofInt k.bits y).toNat
def orI(k:IntKind)(x y:Int):Int:=k.wrap (BitVec.ofInt k.bits x|||BitVec.ofInt k.bits y).toNat
def fM(k:IntKind)(x y:Int):Int:=k.wrap (BitVec.ofInt k.bits x^^^BitVec.ofInt k.bits y).toNat
def WU(k:IntKind)(n:Int):Int:=k.wrap (BitVec.ofInt k.bits (if k.signed then -1 else k.max)^^^BitVec.ofInt k.bits n).toNat
def dY(a b:List UInt8):Option (List UInt8):=if a.length+b.length<=4611686018427387904 then some (a++b)else none
def oT(l:List UInt8)(n:Int):Option Int:=if 0<=n then(match l[n.toNat]? with|some u=>some (u.toNat:Int)|none=>none)else none
def kj{k:Nat}(v:Vector α k)(n:Int):Option α:=if 0<=n/\n<k then v[n.toNat]? else none
def toStr(l:List Int):List UInt8:=l.map λn=>UInt8.ofNat n.toNat
def aR(l:List UInt8):List Int:=l.map λu=>(u.toNat:Int)
def lV(x y:Int):Int:=if y<x then y else x
def cP(x y:Int):Int:=if y>x then y else x
end
@[reducible] def cat(a b:List PV):List PV:=a++b
def r_i(k:IntKind)(n:Int):List PV:=[.i k n]
def r_b(x:Bool):List PV:=[.b x]
def r_s(l:List UInt8):List PV:=[.s l]
def JOH{α:Type}(esz:Nat)(r:α->List PV)(l:List α):List PV:=[.sl esz (l.map r)]
def oR{α:Type}{n:Nat}(r:α->List PV)(v:Vector α n):List PV:=(v.toList.map r).flatten
section
variable {α:Type}
theorem zS(cs:List α)(off size:Nat):sub cs off size=if off+size<=cs.length then some ((cs.drop off).take size)else none:=by
 grind [sub]
theorem FY(cs:List α)(off:Nat)(vs:List α):spl cs off vs=if off+vs.length<=cs.length then some (cs.take off++vs++cs.drop (off+vs.length))else none:=by simp_all
theorem ZY{cs:List α}{n:Nat}(h:cs.length=n):sub cs 0 n=some cs:=by simp_all
theorem Gv{cs vs:List α}(h:cs.length=vs.length):spl cs 0 vs=some vs:=by simp_all
theorem JGJ{a b c:List α}{off size:Nat}(h1:a.length=off)(h2:b.length=size):sub (a++(b++c)) off size=some b:=by
 grind [zS]
theorem JEL{b c:List α}{size:Nat}(h2:b.length=size):sub (b++c) 0 size=some b:=JGJ (a:=[]) rfl h2
theorem JFw{a b c v:List α}{off:Nat}(h1:a.length=off)(h2:b.length=v.length):spl (a++(b++c)) off v=some (a++(v++c)):=by
 grind [FY]
theorem JEZ{b c v:List α}(h2:b.length=v.length):spl (b++c) 0 v=some (v++c):=JFw (a:=[]) rfl h2
theorem F7{cs e r:List α}{a m k n:Nat}(h1:sub cs a m=some e)(h2:sub e k n=some r):sub cs (a+k) n=some r:=by
 grind [zS,List.drop_take,List.drop_drop]
theorem Fk{cs g e v cs':List α}{a m k:Nat}(h1:sub cs a m=some g)(h2:spl g k v=some e)(h3:spl cs a e=some cs'):spl cs (a+k) v=some cs':=by
 rw[zS]at h1;rw[FY]at h2 h3⊢;split at h1;rename_i o;injection h1 with h1;subst h1;split at h2;rename_i j;injection h2 with h2;subst h2;simp at j;split at h3;injection h3 with h3;subst h3;rw[if_pos (by omega)]
 congr 1
 simp only[eC,EH,yK,List.take_take,List.drop_take,EC,kF];have h:cs.take (a+k)=cs.take a++(cs.drop a).take k:=List.take_add ..;rw[h,kF];rw[show min k m=k by omega]
 congr 3
 have n:cs.drop (a+k+v.length)=(cs.drop (a+(k+v.length))).take (m-(k+v.length))++cs.drop (a+m):=(by have:=qJ (m-(k+v.length)) (cs.drop (a+(k+v.length)));rw[EC]at this;rw[show a+(k+v.length)+(m-(k+v.length))=a+m by omega]at this;grind);rw[n]
 congr 2
 omega;cases h3;cases h2;cases h1
theorem GE{β:Type}(g:α->β)(cs:List α)(off size:Nat):sub (cs.map g) off size=(sub cs off size).map (List.map g):=by
 grind [zS,List.map_drop,List.map_take]
theorem GD{β:Type}(g:α->β)(cs:List α)(off:Nat)(vs:List α):spl (cs.map g) off (vs.map g)=(spl cs off vs).map (List.map g):=by
 grind [FY,List.map_drop,List.map_take]
theorem LU{n k w:Nat}{r:α->List PV}(hr: ∀x,(r x).length=w){v:Vector α n}{x:α}(h:v[k]?=some x):sub (oR r v) (k*w) w=some (r x):=by
 have g: ∀(l:List α) (k:Nat) (x:α),l[k]?=some x->sub ((l.map r).flatten) (k*w) w=some (r x):=by
  intro l
  induction l with
  |nil=>simp_all
  |cons y l ih=>
   intro k x h;cases k with
   |zero=>
    grind [JEL]
   |succ k=>
    simp at h;have:=ih k x h;rw[bT,qQ];rw[zS]at this⊢;split at this;injection this with this;have e:(k+1)*w=w+k*w:=by grind
    rw[e,if_pos (by grind)];have j:w+k*w=(r y).length+k*w:=by rw[hr]
    rw[j,List.drop_length_add_append,this];cases this
 exact g _ _ _ (by simp_all)
theorem Do{n k w:Nat}{r:α->List PV}(hr: ∀x,(r x).length=w){v:Vector α n}(h:k<n)(y:α):spl (oR r v) (k*w) (r y)=some (oR r (v.setIfInBounds k y)):=by
 have g: ∀(l:List α) (k:Nat),k<l.length->spl ((l.map r).flatten) (k*w) (r y)=some (((l.set k y).map r).flatten):=by
  intro l
  induction l with
  |nil=>simp_all
  |cons z l ih=>
   intro k h;cases k with
   |zero=>
    grind [JEZ]
   |succ k=>
    simp at h;have:=ih k h;rw[bT,qQ];rw[FY]at this⊢;split at this;rename_i j;injection this with this;have e:(k+1)*w=(r z).length+k*w:=by grind
    rw[e,if_pos (by grind)];simp only[List.set_cons_succ,bT,qQ];rw[<-this];rw[show(r z).length+k*w+(r y).length=(r z).length+(k*w+(r y).length) by omega];simp[List.take_length_add_append];cases this
 grind [oR]
theorem JMv{n w:Nat}{r:α->List PV}(hr: ∀x,(r x).length=w)(v:Vector α n):(oR r v).length=n*w:=by
 have e: ∀l:List α,((l.map r).flatten).length=l.length*w:=by
  intro l
  induction l with
  |nil=>simp
  |cons x l ih=>grind
 grind [oR]
end
theorem MP: ∀l:List PV,unp (l.map AV.p)=some l|[]=>rfl|x::l=>by simp[unp,MP l]
theorem uk(l:List PV):kR true (l.map AV.p)=some (.data l):=by simp[MP]
theorem XE: ∀l:List PV,(l.map AV.p).all pI=true|[]=>rfl|x::l=>by simp
theorem rf(m:Nat)(ids:List Nat)(sto:List Blk): ∀l:List PV,fin.finL m ids sto (l.map AV.p)=some (l.map AV.p)|[]=>rfl|x::l=>by simp[fin.finL,fin,rf m ids sto l]
theorem ss(l:List PV)(acc:List Ent):cJ.entsOfL (l.map AV.p) acc=acc:=tl (XE l)
theorem JFt{α:Type}{r:α->List PV}{l:List α}{n:Int}{x:α}(h:idx l n=some x):PA (l.map r) n=some (r x):=by simp_all [idx]
theorem Eh{k:Nat}{n:Int}{u:Unit}(h:aV k n=some u):0<=n/\n<k:=by
 grind [aV]
theorem JGX{α:Type}{k:Nat}{v:Vector α k}{n:Int}{x:α}(h:kj v n=some x):(0<=n/\n<k)/\v[n.toNat]?=some x:=by
 grind [kj]
theorem JKD{α:Type}{r:α->List PV}{esz bytes b:Nat}{w:Bool}{l l' l2:List α}{y:AV}{s:St}(h:JB bytes l l2=some l')(hb:s.sto[b]?=some (.arr w esz (l.map r)))(hy:(fG esz y).run s=some (l2.map r)):
  (iM esz bytes (.slr b 0 l.length) y).run s=some ⟨.slr b 0 l'.length,[(b,.arr w esz (l'.map r))]⟩:=by
 grind [JB,iM,eG,run_bind,bI]
theorem g6: ∀l:List Int,uD (l.map (r_i .u8))=some (toStr l)|[]=>rfl|x::l=>by simp[uD,r_i,g6 l,toStr]
theorem d7(l:List UInt8):l.map mF=(aR l).map (r_i .u8):=by simp[aR,r_i]
theorem JGS{α:Type}{bytes:Nat}{l l':List α}(h:cM bytes l=some l'):nJ l.length bytes=true/\l'=l:=by
 grind [cM]
theorem JKQ{α:Type}{bytes:Nat}{n m:Int}{z:α}{l:List α}(h:mkS bytes n m z=some l):(0<=n/\n<=m/\bytes*m<=281474976710656/\m<=281474976710656)/\l=List.replicate n.toNat z:=by
 grind [mkS]
end Go.Am
end
section
set_option linter.unusedSimpArgs false
set_option linter.unusedVariables false
namespace Go.Am
open Go.RowKit
theorem o3{σ:List Blk}{g:Gh}{w w':World}(hi:Inv ⟨σ,g,w⟩)(hb:Below w.heap.size w w'):
  Inv ⟨σ,g,w'⟩/\bB ⟨σ,g,w⟩ ⟨σ,g,w'⟩:=by
 have j: ∀(r:Nat) x,w.heap[r]?=some x->w'.heap[r]?=some x:=λr x h=>by rw[hb.block r (AP h)];exact h
 have hc: ∀r o v,cellAt w r o=some v->cellAt w' r o=some v:=(by grind [cellAt]);have t:bB ⟨σ,g,w⟩ ⟨σ,g,w'⟩:=by
  refine⟨⟨hb.size,λr c e fz h=>⟨c,j r _ h,rfl,λ_ _=>rfl⟩,λr x h _=>j r x h,hb.os,hb.output⟩,λ_ _ h=>h,λ_ _ h=>.inl h,λr o ⟨b,hb⟩=>.inl ⟨b,hb⟩,zQ0 _,λ_ cs h=>⟨⟨cs,h,rfl⟩,rfl⟩,
   λ_ wm _ rows h=>⟨wm,rows,h,id,zQ0 _,λ_=>rfl⟩⟩
 exact⟨nU hi t (λ_=>False) (λ_ _=>⟨rfl,rfl⟩) (λ_ r o v _ _ h=>hc r o v h) (λ_ _ h=>h.elim) (λ_ _ _ _ h=>h.elim)
  (λ_ _ _ _ h=>h.elim) (λr o h=>Nat.lt_of_lt_of_le (hi.const r o h).1 hb.size) (λ_ _ _ _ h=>h.elim) (λ_ _ _ h k=>(k h).elim),t⟩
def qK:PV->Option Value| .b x=>some (.bool x)| .i k n=>some (.int k n)| .s l=>some (.string ⟨l.toArray⟩)|_=>none
theorem p9{x:PV}{v:Value}(h:qK x=some v)(w:World)(C:Nat->Nat->Prop):J09 w C x v:=by
 cases x<;>simp only[qK,Option.some.injEq,reduceCtorEq]at h<;>subst h
 exact .b _;exact .i _ _;exact .s _
theorem Gd{x:PV}{v e:Value}{w:World}{C:Nat->Nat->Prop}(h:J09 w C x v)(hv:qK x=some e):v=e:=by cases x<;>simp only[qK,Option.some.injEq,reduceCtorEq]at hv<;>subst hv<;>cases h<;>rfl
theorem JCA{P:Program}{f:FuncId}{xs:List PV}{vs:List Value}{r:PV}{v:Value}{blks:List Blk}
  (hf: ∃fn,P.funcs[f]?=some fn∧fn.body.isSome=true∧(fn.name== "runtime.NumGoroutine")=false)
  (hx:xs.mapM qK=some vs) (hr:qK r=some v)
  (hc: ∀w,Calls P f vs.toArray w λe w'=>e=.returned v/\Below w.heap.size w w'):
  J5f P f (xs.map .p) blks (.p r,blks):=by
 refine⟨hf,λg w vals hi C E=>?_⟩;have h:vals=vs.toArray:=by
  have n: ∀(xs:List PV) (vs vl:List Value),xs.mapM qK=some vs->xs.length=vl.length->
    (∀(i:Nat) x v,(xs.map AV.p)[i]?=some x->vl[i]?=some v->JH ⟨blks,g,w⟩ x v)->vl=vs:=by
   intro xs
   induction xs with
   |nil=>grind
   |cons x r ih=>
    intro vs vl h1 h2 q;simp only[List.mapM_cons,Option.pure_def,Option.bind_eq_bind]at h1;obtain⟨F,o,h1⟩:=bK.1 h1;obtain⟨z,k,h1⟩:=bK.1 h1;simp only[Option.some.injEq]at h1;subst h1;cases vl with
    |nil=>simp at h2
    |cons u y=>
     have:=q 0 (.p x) u rfl rfl;cases this with
     |p _ _ B=>rw[Gd B o,ih z y k (by simpa using h2) (λi x v hx D=>q (i+1) x v hx D)]
  apply DD;rw[n xs vs vals.toList hx (by simpa using C) (λi x v h1 h2=>E i x v h1 (by simpa using h2))]
 subst h;refine(hc w).mono ?_;rintro e w' ⟨rfl,A⟩;obtain⟨j,t⟩:=o3 hi A;exact⟨v,g,rfl,j,t,.p _ _ (p9 hr _ _)⟩
theorem ZT{T:dK}{f:FuncId}{g:List AV->List Blk->Option Res}(h:T f=some (.prim g))(args blks):AF T f args blks=g args blks:=by simp_all [AF,qW]
def B7(a:Option AFn)(k:Option oV)(g q:Option (List AV->List Blk->Option Res)):Option Entry:=
 match a with
 |some a=>some (.fn a)
 |none=>match k with|some k=>some (.fork k)|none=>match g with|some g=>some (.prim g)|none=>q.map .prim
theorem GI{a:Option AFn}{k:Option oV}{g q:Option (List AV->List Blk->Option Res)}{e:Entry}(h:B7 a k g q=some e):
  (∃x,a=some x/\e=.fn x)\/(∃x,k=some x/\e=.fork x)\/(∃x,g=some x/\e=.prim x)\/(∃x,q=some x/\e=.prim x):=by
 cases a with
 |some a=>exact .inl ⟨a,rfl,by injection h with h;exact h.symm⟩
 |none=>
  cases k with
  |some k=>exact .inr (.inl ⟨k,rfl,by injection h with h;exact h.symm⟩)
  |none=>
   cases g with
   |some g=>exact .inr (.inr (.inl ⟨g,rfl,by injection h with h;exact h.symm⟩))
   |none=>
    cases q with
    |some q=>exact .inr (.inr (.inr ⟨q,rfl,by injection h with h;exact h.symm⟩))
    |none=>cases h
def J7e(n:Int)(i:Nat):Int:=IntKind.wrap .u8 ((IntKind.wrap .u64 n).fdiv (2^(8*i)))
def J0E(n:Int)(k:Nat):List UInt8:=toStr ((List.range k).map (J7e n))
def Jl9(l:List UInt8)(n size:Int):Option (List UInt8):=if size<1\/8<size then some l else if l.length+8<=140737488355328 then some (l++J0E n size.toNat)else none
def JDa:List AV->List Blk->Option Res|[.p (.s l),.p (.i .i64 n),.p (.i .i64 k)],blks=>(Jl9 l n k).map λr=>(.p (.s r),blks)|_,_=>none
theorem JKP(x:Int):0<=IntKind.wrap .u8 x/\IntKind.wrap .u8 x<256:=by have h:IntKind.wrap .u8 x=x%256:=rfl;rw[h];omega
theorem Joc(n:Int)(i:Nat):((UInt8.ofNat (J7e n i).toNat).toNat:Int)=J7e n i:=by
 have h:0<=J7e n i/\J7e n i<256:=JKP _;grind [UInt8.toNat_ofNat_of_lt']
theorem JrX(n:Int)(k:Nat):J0E n (k+1)=J0E n k++[UInt8.ofNat (J7e n k).toNat]:=by simp[J0E,toStr,List.range_succ]
theorem JT(n:Int)(k:Nat):(J0E n k).length=k:=by simp[J0E,toStr]
theorem JOd(x y:Bool):cA [.b] [.b x] [.b y]=some (decide (x=y)):=by
 grind [cA,vM]
theorem JO5(k:IntKind)(x y:Int):cA [.i k] [.i k x] [.i k y]=some (decide (x=y)):=by
 grind [cA,vM]
theorem JO3(x y:List UInt8):cA [.s] [.s x] [.s y]=some (decide (x=y)):=by
 grind [cA,vM]
theorem F5{p q:Prop} [Decidable p] [Decidable q]: ∀{e g:List KD} {a1 a2 b1 b2:List PV},cA e a1 b1=some (decide p)->cA g a2 b2=some (decide q)->cA (e++g) (cat a1 a2) (cat b1 b2)=some (decide (p/\q)):=by
 have h: ∀(e g:List KD) (a1 a2 b1 b2:List PV) (r s:Bool),cA e a1 b1=some r->cA g a2 b2=some s->cA (e++g) (a1++a2) (b1++b2)=some (r&&s):=by
  intro e
  induction e with
  |nil=>
   grind [cA]
  |cons k ks ih=>
   intro g a1 a2 b1 b2 r s h1 h2;cases a1 with
   |nil=>grind [cA]
   |cons a a1=>
    cases b1 with
    |nil=>grind [cA]
    |cons b b1=>
     simp only[cA]at h1;split at h1;rename_i u c j hc;injection h1 with h1;subst h1;simp only[mY,cA,j,ih _ _ _ _ _ _ _ hc h2,Bool.and_assoc];cases h1
 intro e g a1 a2 b1 b2 h1 h2;rw[h _ _ _ _ _ _ _ _ h1 h2,Bool.decide_and]
theorem JML{α:Type} [DecidableEq α]{n:Nat}{ks:List KD}{r:α->List PV}(h: ∀x y,cA ks (r x) (r y)=some (decide (x=y)))(v w:Vector α n):
  cA (List.replicate n ks).flatten (oR r v) (oR r w)=some (decide (v=w)):=by
 have e: ∀(l l':List α),l.length=l'.length->cA (List.replicate l.length ks).flatten (l.map r).flatten (l'.map r).flatten=some (decide (l=l')):=by
  intro l
  induction l with
  |nil=>grind [cA]
  |cons a l ih=>
   intro l' h1;cases l' with
   |nil=>simp at h1
   |cons b l'=>
    have h2:=F5 (h a b) (ih l' (by simpa using h1));grind [decide]
 have g:=e v.toList w.toList (by simp);rw[show v.toList.length=n by simp]at g;rw[show decide (v=w)=decide (v.toList=w.toList) by simp[Vector.toList_inj]];exact g
end Go.Am
end
section
namespace Go.Am
def J1(k:IntKind)(a c:Int):Int:=k.wrap (a+c)
def Jx(k:IntKind)(a c:Int):Int:=k.wrap (a-c)
def cB(k:IntKind)(a c:Int):Int:=k.wrap (a*c)
def JOJ(k:IntKind)(n:Int):Int:=k.wrap (0-n)
def aU(k:IntKind)(n:Int):Int:=k.wrap n
def aI(a c:Int):Bool:=decide (a=c)
def aM(a c:Int):Bool:= !decide (a=c)
def aJ(a c:Int):Bool:=decide (a<c)
def aW(a c:Int):Bool:=decide (a<=c)
def aN(a c:Int):Bool:=decide (a>c)
def aO(a c:Int):Bool:=decide (a>=c)
def eqS(a c:List UInt8):Bool:=decide (a=c)
def neS(a c:List UInt8):Bool:= !decide (a=c)
def ltS(a c:List UInt8):Bool:=Op.bytesLess a c
def leS(a c:List UInt8):Bool:=Op.bytesLess a c||decide (a=c)
def gtS(a c:List UInt8):Bool:= !(Op.bytesLess a c||decide (a=c))
def geS(a c:List UInt8):Bool:= !Op.bytesLess a c
def eqB(a c:Bool):Bool:=decide (a=c)
def Jm(x:Bool):Bool:= !x
def J0{α:Type}(l:List α):Int:=l.length
def Z3{α:Type}(c:Bool)(x y:α):α:=if c=true then x else y
def bF{α:Type}(l:List α)(i:Nat):Option α:=l[i]?
def aX{α:Type}(l:List α)(i:Nat)(x:α):List α:=l.set i x
def vat{α:Type}{n:Nat}(l:Vector α n)(i:Nat):Option α:=l[i]?
def bH{α:Type}{n:Nat}(l:Vector α n)(i:Nat)(x:α):Vector α n:=l.setIfInBounds i x
inductive Ty where
 |b
 |i (k:IntKind)
 |s
 |l (t:Ty)
 |pr (a c:Ty)
 |ar (n:Nat) (t:Ty)
 |u
 |f
 deriving DecidableEq
@[reducible] def Ty.D:Ty->Type
 | .b=>Bool
 | .i _=>Int
 | .s=>List UInt8
 | .l t=>List t.D
 | .pr a c=>a.D×c.D
 | .ar n t=>Vector t.D n
 | .u=>Unit
 | .f=>Unit
def Ty.sz:Ty->Nat| .b=>1| .i _=>1| .s=>1| .l _=>1| .pr a c=>a.sz+c.sz| .ar n t=>n*t.sz| .u=>0| .f=>1
def cel:(t:Ty)->t.D->List PV| .b,x=>[.b x]| .i k,x=>[.i k x]| .s,x=>[.s x]| .l t,x=>[.sl t.sz (x.map (cel t))]| .pr a c,x=>cel a x.1++cel c x.2| .ar _ t,x=>oR (cel t) x| .u,_=>[]| .f,_=>[.nf]
theorem eD: ∀(t:Ty) (x:t.D),(cel t x).length=t.sz| .b,_=>rfl| .i _,_=>rfl| .s,_=>rfl| .l _,_=>rfl| .pr a c,x=>by simp only[cel,eC,eD a,eD c,Ty.sz]| .ar n t,x=>by simp only[cel,Ty.sz];exact JMv (eD t) x| .u,_=>rfl| .f,_=>rfl
def Ty.eqd:(t:Ty)->DecidableEq t.D| .b=>inferInstanceAs (DecidableEq Bool)| .i _=>inferInstanceAs (DecidableEq Int)| .s=>inferInstanceAs (DecidableEq (List UInt8))| .l t=>have:=t.eqd;inferInstanceAs (DecidableEq (List t.D))| .pr a c=>have:=a.eqd;have:=c.eqd;inferInstanceAs (DecidableEq (a.D×c.D))| .ar n t=>have:=t.eqd;inferInstanceAs (DecidableEq (Vector t.D n))| .u=>inferInstanceAs (DecidableEq Unit)| .f=>inferInstanceAs (DecidableEq Unit)
def eqT(t:Ty)(x y:t.D):Bool:=have:=t.eqd;decide (x=y)
theorem dJ{t:Ty}{x y:t.D}:eqT t x y=true↔x=y:=by simp[eqT]
def Ty.zero:(t:Ty)->t.D| .b=>false| .i _=>(0:Int)| .s=>[]| .l _=>[]| .pr a c=>(a.zero,c.zero)| .ar n t=>Vector.replicate n t.zero| .u=>()| .f=>()
def Ty.ks:Ty->Option (List KD)
 | .b=>some [.b]
 | .i k=>some [.i k]
 | .s=>some [.s]
 | .l _=>none
 | .pr a c=>match a.ks,c.ks with|some x,some y=>some (x++y)|_,_=>none
 | .ar n t=>match t.ks with|some x=>some (List.replicate n x).flatten|none=>none
 | .u=>some []
 | .f=>none
theorem QS: ∀(t:Ty) {ks:List KD} (x y:t.D),t.ks=some ks->cA ks (cel t x) (cel t y)=some (eqT t x y)
 | .b,ks,x,y,h=>by injection h with h;subst h;exact JOd x y
 | .i k,ks,x,y,h=>by injection h with h;subst h;exact JO5 k x y
 | .s,ks,x,y,h=>by injection h with h;subst h;exact JO3 x y
 | .l _,_,_,_,h=>by cases h
 | .pr a c,ks,x,y,h=>by
  simp only[Ty.ks]at h;split at h;rename_i p q e g;injection h with h;subst h;have h1:=QS a x.1 y.1 e;have h2:=QS c x.2 y.2 g;unfold eqT at h1 h2;have j:(have:=a.eqd;decide (x.1=y.1))= @decide _ (a.eqd x.1 y.1):=rfl;have:= @F5 _ _ (a.eqd x.1 y.1) (c.eqd x.2 y.2) _ _ _ _ _ _ h1 h2;simp only[cel];refine this.trans (congrArg some ?_);grind [eqT];cases h
 | .ar n t,ks,x,y,h=>by
  simp only[Ty.ks]at h;split at h;rename_i p e;injection h with h;subst h;have:= @JML t.D t.eqd n p (cel t) (λx y=>by have:=QS t x y e;exact this) x y;grind [cel,eqT];cases h
 | .u,ks,x,y,h=>by injection h with h;subst h;rfl
 | .f,_,_,_,h=>by cases h
inductive Sp where
 |f (off:Nat)
 |a (i esz:Nat)
 deriving DecidableEq
def spo:List Sp->Nat|[]=>0| .f o::r=>o+spo r| .a i e::r=>i*e+spo r
def spf:Nat->List Sp->Nat×List Sp|o,.f k::r=>spf (o+k) r|o,r=>(o,r)
theorem OP: ∀(o:Nat) (p:List Sp),(spf o p).1+spo (spf o p).2=o+spo p|o,[]=>rfl|o,.f k::r=>by simp only[spf,OP,spo];omega|o,.a i e::r=>rfl
section
variable {R:Type}
def prt:(t:Ty)->t.D->(off:Nat)->List Sp->(w:Ty)->(w.D->Option R)->Option R
 |t,x,off,p,w,k=>
  if h:t=w/\off=0/\p=[]then k (h.1▸x)
  else match t,x with
   | .pr a c,x=>if off+(if p=[]then w.sz else 1)<=a.sz then prt a x.1 off p w k
    else if a.sz<=off then prt c x.2 (off-a.sz) p w k
    else none
   | .ar _ t,x=>if p=[]then(vat x (off/t.sz)).bind λy=>prt t y (off%t.sz) p w k
    else match off,p with|0,.a i e::r=>if e=t.sz then(vat x i).bind λy=>prt t y (spf 0 r).1 (spf 0 r).2 w k else none|_,_=>none
   |_,_=>none
def pst:(t:Ty)->t.D->(off:Nat)->List Sp->(w:Ty)->w.D->(t.D->Option R)->Option R
 |t,x,off,p,w,v,k=>
  if h:t=w/\off=0/\p=[]then k (h.1.symm▸v)
  else match t,x,k with
   | .pr a c,x,k=>if off+(if p=[]then w.sz else 1)<=a.sz then pst a x.1 off p w v λy=>k (y,x.2)
    else if a.sz<=off then pst c x.2 (off-a.sz) p w v λy=>k (x.1,y)
    else none
   | .ar _ t,x,k=>if p=[]then(vat x (off/t.sz)).bind λy=>pst t y (off%t.sz) p w v λy=>k (bH x (off/t.sz) y)
    else match off,p with|0,.a i e::r=>if e=t.sz then(vat x i).bind λy=>pst t y (spf 0 r).1 (spf 0 r).2 w v λy=>k (bH x i y)else none|_,_=>none
   |_,_,_=>none
end
theorem JIl{α:Type}{a b v:List α}{off n:Nat}(h:sub a off n=some v):sub (a++b) off n=some v:=by
 grind [zS]
theorem JGA{α:Type}{a b v:List α}{off n:Nat}(h0:a.length<=off)(h:sub b (off-a.length) n=some v):sub (a++b) off n=some v:=by
 grind [zS,List.drop_append,List.drop_of_length_le]
theorem JJb{α:Type}{a b v e:List α}{off:Nat}(h:spl a off v=some e):spl (a++b) off v=some (e++b):=by
 grind [FY]
theorem JFG{α:Type}{a b v e:List α}{off:Nat}(h0:a.length<=off)(h:spl b (off-a.length) v=some e):spl (a++b) off v=some (a++e):=by
 rw[FY]at h⊢;split at h;injection h with h;rw[if_pos (by simp;omega),<-h,List.take_append,List.take_of_length_le h0,List.drop_append,List.drop_of_length_le (by omega)];simp;omega;cases h
theorem Ef{α:Type}{n i:Nat}{x:Vector α n}{y:α}(h:x[i]?=some y):i<n:=by
 grind
theorem wU{R:Type}{t w:Ty}{x:t.D}{off:Nat}{p:List Sp}{k:w.D->Option R}{r:R}(h0:t=w/\off=0/\p=[])(h:k (h0.1▸x)=some r):
  ∃y,sub (cel t x) (off+spo p) w.sz=some (cel w y)/\k y=some r:=by
 obtain⟨rfl,rfl,rfl⟩:=h0;grind [spo,ZY,eD]
theorem wV{R:Type}{t w:Ty}{x:t.D}{off:Nat}{p:List Sp}{v:w.D}{k:t.D->Option R}{r:R}(h0:t=w/\off=0/\p=[])(h:k (h0.1.symm▸v)=some r):
  ∃y,spl (cel t x) (off+spo p) (cel w v)=some (cel t y)/\k y=some r:=by
 obtain⟨rfl,rfl,rfl⟩:=h0;grind [spo,Gv,eD]
theorem wT{R:Type}: ∀{t:Ty} {x:t.D} {off:Nat} {p:List Sp} {w:Ty} {k:w.D->Option R} {r:R},prt t x off p w k=some r->
  ∃y,sub (cel t x) (off+spo p) w.sz=some (cel w y)/\k y=some r
 | .pr a c,x,off,p,w,k,r,h=>by
  unfold prt at h;by_cases g:Ty.pr a c=w/\off=0/\p=[];rw[dif_pos g]at h;exact wU g h;rw[dif_neg g]at h;dsimp only at h;by_cases h1:off+(if p=[]then w.sz else 1)<=a.sz;rw[if_pos h1]at h;obtain⟨y,v,o⟩:=wT h;exact⟨y,JIl v,o⟩;rw[if_neg h1]at h;by_cases h2:a.sz<=off;rw[if_pos h2]at h;obtain⟨y,v,o⟩:=wT h;refine⟨y,JGA (by grind [eD]) ?_,o⟩;grind [eD];simp_all
 | .ar n t,x,off,p,w,k,r,h=>by
  unfold prt at h;by_cases g:Ty.ar n t=w/\off=0/\p=[];rw[dif_pos g]at h;exact wU g h;rw[dif_neg g]at h;dsimp only at h;by_cases A:p=[];rw[if_pos A]at h;obtain⟨z,j,h⟩:=bK.1 h;obtain⟨y,h1,h2⟩:=wT h;refine⟨y,?_,h2⟩;have:=F7 (LU (eD t) j) h1;grind [cel,Nat.div_add_mod];rw[if_neg A]at h;split at h;rename_i _ i e q _;split at h;rename_i B;obtain⟨z,j,h⟩:=bK.1 h;obtain⟨y,h1,h2⟩:=wT h;refine⟨y,?_,h2⟩;have:=F7 (LU (eD t) j) h1;grind [cel,OP,spo];cases h;cases h
 | .b,x,off,p,w,k,r,h=>by
  unfold prt at h;split at h
  next g=>exact wU g h
  next=>cases h
 | .i _,x,off,p,w,k,r,h=>by
  unfold prt at h;split at h
  next g=>exact wU g h
  next=>cases h
 | .s,x,off,p,w,k,r,h=>by
  unfold prt at h;split at h
  next g=>exact wU g h
  next=>cases h
 | .l _,x,off,p,w,k,r,h=>by
  unfold prt at h;split at h
  next g=>exact wU g h
  next=>cases h
 | .u,x,off,p,w,k,r,h=>by
  unfold prt at h;split at h
  next g=>exact wU g h
  next=>cases h
 | .f,x,off,p,w,k,r,h=>by
  unfold prt at h;split at h
  next g=>exact wU g h
  next=>cases h
theorem zT{R:Type}: ∀{t:Ty} {x:t.D} {off:Nat} {p:List Sp} {w:Ty} {v:w.D} {k:t.D->Option R} {r:R},pst t x off p w v k=some r->
  ∃y,spl (cel t x) (off+spo p) (cel w v)=some (cel t y)/\k y=some r
 | .pr a c,x,off,p,w,v,k,r,h=>by
  unfold pst at h;by_cases g:Ty.pr a c=w/\off=0/\p=[];rw[dif_pos g]at h;exact wV g h;rw[dif_neg g]at h;dsimp only at h;by_cases h1:off+(if p=[]then w.sz else 1)<=a.sz;rw[if_pos h1]at h;obtain⟨y,B,A⟩:=zT h;exact⟨(y,x.2),JJb B,A⟩;rw[if_neg h1]at h;by_cases h2:a.sz<=off;rw[if_pos h2]at h;obtain⟨y,B,A⟩:=zT h;refine⟨(x.1,y),JFG (by grind [eD]) ?_,A⟩;grind [eD];simp_all
 | .ar n t,x,off,p,w,v,k,r,h=>by
  unfold pst at h;by_cases g:Ty.ar n t=w/\off=0/\p=[];rw[dif_pos g]at h;exact wV g h;rw[dif_neg g]at h;dsimp only at h;by_cases o:p=[];rw[if_pos o]at h;obtain⟨z,j,h⟩:=bK.1 h;obtain⟨y,h1,h2⟩:=zT h;refine⟨_,?_,h2⟩;have:=Fk (LU (eD t) j) h1 (Do (eD t) (Ef j) y);subst o;simp only[spo,tC]at this⊢;rw[IL,Nat.div_add_mod]at this;exact this;rw[if_neg o]at h;split at h;rename_i _ i e q _;split at h;rename_i C;obtain⟨z,j,h⟩:=bK.1 h;obtain⟨y,h1,h2⟩:=zT h;refine⟨_,?_,h2⟩;have:=Fk (LU (eD t) j) h1 (Do (eD t) (Ef j) y);have E:=OP 0 q;simp only[spo,C];rw[show i*t.sz+((spf 0 q).1+spo (spf 0 q).2)=0+(i*t.sz+spo q) by omega]at this;exact this;cases h;cases h
 | .b,x,off,p,w,v,k,r,h=>by
  unfold pst at h;split at h
  next g=>exact wV g h
  next=>cases h
 | .i _,x,off,p,w,v,k,r,h=>by
  unfold pst at h;split at h
  next g=>exact wV g h
  next=>cases h
 | .s,x,off,p,w,v,k,r,h=>by
  unfold pst at h;split at h
  next g=>exact wV g h
  next=>cases h
 | .l _,x,off,p,w,v,k,r,h=>by
  unfold pst at h;split at h
  next g=>exact wV g h
  next=>cases h
 | .u,x,off,p,w,v,k,r,h=>by
  unfold pst at h;split at h
  next g=>exact wV g h
  next=>cases h
 | .f,x,off,p,w,v,k,r,h=>by
  unfold pst at h;split at h
  next g=>exact wV g h
  next=>cases h
end Go.Am
end
section
namespace Go.Am
inductive TC where|d (t:Ty) (x:t.D)|sc (t:Ty) (rows:List t.D)|np|nf|un|ptr (b:Nat) (p:List Sp)|cp (t:Ty) (x:t.D) (p:List Sp)|slr (b:Nat)|slo (b n:Nat)|ep (b i:Nat) (p:List Sp)|epo (b e i:Nat) (p:List Sp)|fn (f:FuncId)
inductive TA where|c (x:TC)|dt (t:Ty) (x:t.D)|m (t:Ty) (cs:List TC)|fn (f:FuncId) (first caps:List TC)
inductive TV where|a (x:TA)|tup (vs:List TA)
inductive TB where|dead|box (t:Ty) (x:t.D)|mbox (t:Ty) (cs:List TC)|arr (w:Bool) (t:Ty) (rows:List t.D)
structure TSt where
 env:List (Nat×TV)
 sto:List TB
def hdP:List PV->PV|[c]=>c|_=>.np
def lnB:TB->Nat| .arr _ _ rows=>rows.length|_=>0
def lnO:Option TB->Nat|some x=>lnB x|none=>0
def lns(sto:List TB)(b:Nat):Nat:=lnO sto[b]?
section
variable (L:Nat->Nat)
def aZ:TC->AV| .d t x=>.p (hdP (cel t x))| .sc t rows=>.p (.slc t.sz (rows.map (cel t)))| .np=>.p .np| .nf=>.p .nf| .un=>.unk| .ptr b p=>.ptr b (spo p)| .cp t x p=>.cp (cel t x) (spo p)| .slr b=>.slr b 0 (L b)| .slo b n=>.slr b 0 n| .ep b i p=>.ep b (L b) i (spo p)| .epo b e i p=>.ep b e i (spo p)| .fn f=>.fn f [] []
def bQ:TA->AV| .c x=>aZ L x| .dt t x=>.data (cel t x)| .m _ cs=>.agg (cs.map (aZ L))| .fn f a c=>.fn f (a.map (aZ L)) (c.map (aZ L))
def aT:TV->AV| .a x=>bQ L x| .tup vs=>.tup (vs.map (bQ L))
def aY:TB->Blk| .dead=>.dead| .box t x=>.box ((cel t x).map .p)| .mbox _ cs=>.box (cs.map (aZ L))| .arr w t rows=>.arr w t.sz (rows.map (cel t))
end
def fO(L:Nat->Nat)(env:List (Nat×TV)):List (Nat×AV):=env.map λx=>(x.1,aT L x.2)
def Jy(s:TSt):St:=⟨fO (lns s.sto) s.env,s.sto.map (aY (lns s.sto))⟩
section
variable (L:Nat->Nat)
theorem FJ(t x):aY L (.box t x)=.box ((cel t x).map .p):=rfl
theorem MD(t cs):aY L (.mbox t cs)=.box (cs.map (aZ L)):=rfl
theorem YQ(w t rows):aY L (.arr w t rows)=.arr w t.sz (rows.map (cel t)):=rfl
theorem kJ(b p):aT L (.a (.c (.ptr b p)))=.ptr b (spo p):=rfl
theorem mB(t x p):aT L (.a (.c (.cp t x p)))=.cp (cel t x) (spo p):=rfl
theorem gV(b):aT L (.a (.c (.slr b)))=.slr b 0 (L b):=rfl
theorem lX(b i p):aT L (.a (.c (.ep b i p)))=.ep b (L b) i (spo p):=rfl
theorem e_i(k x):aT L (.a (.c (.d (.i k) x)))=.p (.i k x):=rfl
theorem e_b(x):aT L (.a (.c (.d .b x)))=.p (.b x):=rfl
theorem e_s(x):aT L (.a (.c (.d .s x)))=.p (.s x):=rfl
theorem e_l(t x):aT L (.a (.c (.d (.l t) x)))=.p (.sl t.sz (x.map (cel t))):=rfl
theorem B1(f):aT L (.a (.c (.fn f)))=.fn f [] []:=rfl
theorem kr(t x):aT L (.a (.dt t x))=.data (cel t x):=rfl
theorem mc(f a c):aT L (.a (.fn f a c))=.fn f (a.map (aZ L)) (c.map (aZ L)):=rfl
theorem e_m(t cs):aT L (.a (.m t cs))=.agg (cs.map (aZ L)):=rfl
end
theorem IW{t:Ty}(h:t.sz=1)(x:t.D):cel t x=[hdP (cel t x)]:=by
 have:=eD t x;rw[h]at this
 match hc:cel t x,this with
 |[c],_=>rfl
def kC(b n:Nat):TC->TC| .slr c=>if c=b then .slo b n else .slr c| .ep c i p=>if c=b then .epo b n i p else .ep c i p|x=>x
def kA(b n:Nat):TA->TA| .c x=>.c (kC b n x)| .dt t x=>.dt t x| .m t cs=>.m t (cs.map (kC b n))| .fn f a c=>.fn f (a.map (kC b n)) (c.map (kC b n))
def kV(b n:Nat):TV->TV| .a x=>.a (kA b n x)| .tup vs=>.tup (vs.map (kA b n))
def kB(b n:Nat):TB->TB| .mbox t cs=>.mbox t (cs.map (kC b n))|x=>x
def wS(b:Nat)(x:TB)(s:TSt):TSt:=⟨s.env,s.sto.set b x⟩
def wN(b:Nat)(x:TB)(s:TSt):TSt:=⟨s.env.map λy=>(y.1,kV b (lns s.sto b) y.2),(s.sto.map (kB b (lns s.sto b))).set b x⟩
def bC(d:Option Nat)(v:TV)(s:TSt):TSt:=
 match d with
 |some d=>⟨(d,v)::s.env,s.sto⟩
 |none=>s
section
variable {L L':Nat->Nat} {b:Nat}
theorem k_C(h: ∀c,c≠b->L' c=L c)(x:TC):aZ L' (kC b (L b) x)=aZ L x:=by cases x<;>grind [kC,aZ]
theorem A2(h: ∀c,c≠b->L' c=L c)(xs:List TC):(xs.map (kC b (L b))).map (aZ L')=xs.map (aZ L):=by simp_all [k_C]
theorem k_A(h: ∀c,c≠b->L' c=L c)(x:TA):bQ L' (kA b (L b) x)=bQ L x:=by cases x<;>simp only[kA,bQ,k_C h,A2 h]
theorem k_V(h: ∀c,c≠b->L' c=L c)(x:TV):aT L' (kV b (L b) x)=aT L x:=by cases x<;>simp only[kV,aT,k_A h,yR,Function.comp_def]
theorem k_B(h: ∀c,c≠b->L' c=L c)(x:TB):aY L' (kB b (L b) x)=aY L x:=by cases x<;>simp only[kB,aY,A2 h]
theorem JN6(b n:Nat)(x:TB):lnB (kB b n x)=lnB x:=by cases x<;>rfl
theorem JLL(sto:List TB)(b n c:Nat):lns (sto.map (kB b n)) c=lns sto c:=by
 unfold lns;rw[fT];cases sto[c]? with
 |none=>rfl
 |some x=>exact JN6 b n x
theorem Ej(sto:List TB)(b:Nat)(x:TB)(c:Nat)(h:c≠b):lns (sto.set b x) c=lns sto c:=by
 grind [lns]
theorem YP{sto:List TB}{b:Nat}(h:b<sto.length)(x:TB):lns (sto.set b x) b=lnB x:=by unfold lns;rw[DX h];rfl
theorem Cq(b:Nat)(x:TB)(s:TSt):Jy (wN b x s)=⟨(Jy s).env,(Jy s).sto.set b (aY (lns (wN b x s).sto) x)⟩:=by
 have h: ∀c,c≠b->lns (wN b x s).sto c=lns s.sto c:=λc hc=>by
  grind [wN,Ej,JLL]
 unfold Jy
 congr 1
 show fO _ (s.env.map λy=>(y.1,kV b (lns s.sto b) y.2))=fO _ s.env;simp_all [fO,k_V];show((s.sto.map (kB b (lns s.sto b))).set b x).map _=_;grind [List.map_set,List.map_congr_left,k_B]
theorem FO{b:Nat}{x:TB}{s:TSt}(h:lnB x=lns s.sto b):lns (wS b x s).sto=lns s.sto:=by
 grind [wS,YP,List.set_eq_of_length_le,Ej]
theorem zG{b:Nat}{x:TB}{s:TSt}(h:lnB x=lns s.sto b):Jy (wS b x s)=⟨(Jy s).env,(Jy s).sto.set b (aY (lns s.sto) x)⟩:=by
 grind [Jy,FO,wS,List.map_set]
theorem rF{s s1:TSt}{ws:List (Nat×Blk)}(h:Jy s1=⟨(Jy s).env,upd ws (Jy s).sto⟩)(d:Option Nat)(v:TV):put d ⟨aT (lns s1.sto) v,ws⟩ (Jy s)=Jy (bC d v s1):=by cases d<;>simp_all [bC,Jy,fO]
end
theorem MK{s:TSt}(d:Option Nat)(v:TV):put d ⟨aT (lns s.sto) v,[]⟩ (Jy s)=Jy (bC d v s):=rF rfl d v
def tlk(n:Nat):List (Nat×TV)->Option TV|[]=>none|(m,v)::r=>if n=m then some v else tlk n r
theorem zQ(L:Nat->Nat)(n:Nat): ∀env:List (Nat×TV),lk n (fO L env)=(tlk n env).map (aT L)
 |[]=>rfl
 |(m,v)::r=>by
  simp only[fO,bT,lk,tlk];split;rfl;exact zQ L n r
theorem eM(s:TSt)(b:Nat):(Jy s).sto[b]?=(s.sto[b]?).map (aY (lns s.sto)):=by simp[Jy]
theorem nZ{sto:List TB}{b:Nat}{w:Bool}{t:Ty}{rows:List t.D}(h:sto[b]?=some (.arr w t rows)):lns sto b=rows.length:=by unfold lns;rw[h];rfl
inductive TO where|t (n:Nat)|c (x:TV)
def erO:TO->Opd| .t n=>.t n| .c x=>.c (aT (λ_=>0) x)
def Cz:TC->Bool| .d _ _| .sc _ _| .np| .nf| .un| .fn _=>true|_=>false
def OT:TA->Bool| .c x=>Cz x| .dt _ _=>true| .m _ _=>false| .fn _ a c=>a.isEmpty&&c.isEmpty
def EY:TV->Bool| .a x=>OT x| .tup vs=>vs.isEmpty
theorem JIn{L L':Nat->Nat}{v:TV}(h:EY v=true):aT L v=aT L' v:=by
 cases v with
 |a x=>
  cases x with
  |c x=>cases x<;>first|rfl|grind [EY,OT,Cz]
  |dt t x=>rfl
  |m t cs=>grind [EY,OT]
  |fn f a c=>simp[EY,OT]at h;obtain⟨rfl,rfl⟩:=h;rfl
 |tup vs=>simp[EY]at h;subst h;rfl
def tev:TO->TSt->Option TV| .t n,s=>tlk n s.env| .c x,_=>if EY x=true then some x else none
theorem bR{x:TO}{s:TSt}{v:TV}(h:tev x s=some v):(ev (erO x)).run (Jy s)=some (aT (lns s.sto) v):=by
 cases x with
 |t n=>simp only[erO,ev,xB];show(lk n (fO (lns s.sto) s.env)).bind _=_;rw[zQ,show tlk n s.env=some v from h];rfl
 |c x=>
  grind [tev,erO,ev,bI,JIn]
end Go.Am
end
section
namespace Go.Am
@[reducible] def vi(k:IntKind)(n:Int):TV:=.a (.c (.d (.i k) n))
@[reducible] def vb(x:Bool):TV:=.a (.c (.d .b x))
@[reducible] def vs(l:List UInt8):TV:=.a (.c (.d .s l))
@[reducible] def vl(t:Ty)(l:List t.D):TV:=.a (.c (.d (.l t) l))
def uv:TV:=.tup []
def mkv(agg:Bool)(t:Ty)(x:t.D):TV:=if agg=true then .a (.dt t x)else .a (.c (.d t x))
def Ok{R:Type}(m:RM Eff)(d:Option Nat)(s:TSt)(k:TSt->Option R)(r:R):Prop:= ∃e s',m.run (Jy s)=some e/\put d e (Jy s)=Jy s'/\k s'=some r
def asm:(t:Ty)->List TC->Option t.D
 | .pr a c,l=>match asm a (l.take a.sz),asm c (l.drop a.sz)with|some x,some y=>some (x,y)|_,_=>none
 | .ar _ _,_=>none
 | .u,l=>if l.isEmpty=true then some ()else none
 |t,l=>match l with|[.d t' x]=>if h:t'=t then some (h▸x)else none|_=>none
def yQ:(t:Ty)->t.D->Option (List TC)
 | .pr a c,x=>match yQ a x.1,yQ c x.2 with|some l,some q=>some (l++q)|_,_=>none
 | .ar _ _,_=>none
 | .u,_=>some []
 |t,x=>some [.d t x]
theorem LP(L:Nat->Nat): ∀{t:Ty} {l:List TC} {x:t.D},asm t l=some x->l.map (aZ L)=(cel t x).map .p
 | .pr a c,l,x,h=>by
  simp only[asm]at h;split at h;rename_i y z g j;injection h with h;subst h;have h1:=LP L g;have h2:=LP L j;grind [cel,List.take_append_drop];cases h
 | .ar _ _,_,_,h=>by cases h
 | .u,l,x,h=>by
  simp only[asm]at h;split at h;rename_i e;rw[List.isEmpty_iff.1 e];rfl;cases h
 | .b,l,x,h=>by
  simp only[asm]at h;split at h;split at h;rename_i e;subst e;injection h with h;subst h;rfl;cases h;cases h
 | .i _,l,x,h=>by
  simp only[asm]at h;split at h;split at h;rename_i e;subst e;injection h with h;subst h;rfl;cases h;cases h
 | .s,l,x,h=>by
  simp only[asm]at h;split at h;split at h;rename_i e;subst e;injection h with h;subst h;rfl;cases h;cases h
 | .l _,l,x,h=>by
  simp only[asm]at h;split at h;split at h;rename_i e;subst e;injection h with h;subst h;rfl;cases h;cases h
 | .f,l,x,h=>by
  simp only[asm]at h;split at h;split at h;rename_i e;subst e;injection h with h;subst h;rfl;cases h;cases h
theorem MC(L:Nat->Nat): ∀{t:Ty} {x:t.D} {l:List TC},yQ t x=some l->l.map (aZ L)=(cel t x).map .p
 | .pr a c,x,l,h=>by
  simp only[yQ]at h;split at h;rename_i y z e g;injection h with h;subst h;have h1:=MC L e;have h2:=MC L g;grind [cel];cases h
 | .ar _ _,_,_,h=>by cases h
 | .u,x,l,h=>by injection h with h;subst h;rfl
 | .b,x,l,h=>by injection h with h;subst h;rfl
 | .i _,x,l,h=>by injection h with h;subst h;rfl
 | .s,x,l,h=>by injection h with h;subst h;rfl
 | .l _,x,l,h=>by injection h with h;subst h;rfl
 | .f,x,l,h=>by injection h with h;subst h;rfl
def zcs:Ty->List TC| .pr a c=>zcs a++zcs c| .ar n t=>(List.replicate n (zcs t)).flatten| .u=>[]|t=>[.d t t.zero]
theorem FM(L:Nat->Nat): ∀t:Ty,(zcs t).map (aZ L)=(cel t t.zero).map .p| .pr a c=>by simp only[zcs,DH,FM L a,FM L c,Ty.zero,cel]| .ar n t=>by have ih:=FM L t;simp_all [cel,oR,Ty.zero,zcs]| .u=>rfl| .b=>rfl| .i _=>rfl| .s=>rfl| .l _=>rfl| .f=>rfl
def mkb(t:Ty)(cs:List TC):TB:=match asm t cs with|some x=>.box t x|none=>.mbox t cs
theorem RK(L:Nat->Nat)(t:Ty)(cs:List TC):aY L (mkb t cs)=.box (cs.map (aZ L)):=by
 unfold mkb;split;grind [FJ,LP];rfl
theorem RB(t:Ty)(cs:List TC):lnB (mkb t cs)=0:=by unfold mkb;split<;>rfl
def VO:TC->Bool| .ptr _ _| .cp _ _ _| .slr _| .slo _ _| .ep _ _ _| .epo _ _ _ _| .un| .fn _=>true|_=>false
theorem cl(L:Nat->Nat): ∀{cs:List TC},cs.any VO=true->unp (cs.map (aZ L))=none
 |[],h=>by simp at h
 |x::r,h=>by
  simp only[List.any_cons,yO]at h;rcases h with h|h;cases x<;>simp[VO]at h<;>rfl
  have:=cl L h;cases x<;>simp[aZ,unp,this]
def mka(agg:Bool)(t:Ty)(cs:List TC):Option TV:=
 if agg=true then
  match asm t cs with
  |some x=>some (.a (.dt t x))
  |none=>if cs.any VO=true then some (.a (.m t cs))else none
 else match cs with|[c]=>some (.a (.c c))|_=>none
theorem FL(L:Nat->Nat){agg:Bool}{t:Ty}{cs:List TC}{v:TV}(h:mka agg t cs=some v):kR agg (cs.map (aZ L))=some (aT L v):=by
 unfold mka at h;split at h;rename_i e;subst e;split at h;rename_i x j;injection h with h;subst h;rw[LP L j,uk];rfl;split at h;rename_i g;injection h with h;subst h;simp only[kR,cl L g,if_true];rfl;cases h;rename_i e;split at h;injection h with h;subst h;have:agg=false:=by simpa using e
 subst this;rfl;cases h
def tcs:TV->Option (List TC)| .a (.c .un)=>none| .a (.c x)=>some [x]| .a (.dt t x)=>yQ t x| .a (.m _ cs)=>some cs| .a (.fn f [] [])=>some [.fn f]|_=>none
theorem LR(L:Nat->Nat){v:TV}{cs:List TC}(h:tcs v=some cs):cellsOf (aT L v)=some (cs.map (aZ L)):=by
 cases v with
 |a x=>
  cases x with
  |c x=>cases x<;>cases h<;>rfl
  |dt t x=>simp only[aT,bQ,cellsOf];rw[MC L h]
  |m t cs=>injection h with h;subst h;rfl
  |fn f a c=>
   cases a with
   |nil=>cases c with
    |nil=>injection h with h;subst h;rfl
    |cons y c=>cases h
   |cons y a=>cases h
 |tup vs=>cases h
def tdv(t:Ty):TV->Option t.D| .a (.c (.d t' x))=>if h:t'=t then some (h▸x)else none| .a (.dt t' x)=>if h:t'=t then some (h▸x)else none|_=>none
def agv:TV->Bool| .a (.dt _ _)=>true|_=>false
theorem JN8(L:Nat->Nat){t:Ty}{v:TV}{x:t.D}(h:tdv t v=some x):aT L v=if agv v=true then .data (cel t x)else .p (hdP (cel t x)):=by
 unfold tdv at h;split at h;split at h;rename_i e;subst e;injection h with h;subst h;rfl;cases h;split at h;rename_i e;subst e;injection h with h;subst h;rfl;cases h;cases h
def tA:List Sp->Option Nat
 |[]=>some 0
 | .f o::r=>match tA r with|some n=>some (o+n)|none=>none
 | .a _ _::_=>none
theorem FH: ∀{p:List Sp} {n:Nat},tA p=some n->spo p=n
 |[],n,h=>by injection h with h
 | .f o::r,n,h=>by
  simp only[tA]at h;split at h;rename_i m e;injection h with h;simp only[spo,FH e,h];cases h
 | .a _ _::_,_,h=>by cases h
section
variable {R:Type}
def nn(agg:Bool)(t:Ty)(v:TV)(d:Option Nat)(s:TSt)(k:TSt->Option R):Option R:=
 if agg=true\/t.sz=1 then
  match v with
  | .a (.c (.cp e x p))=>prt e x (spf 0 p).1 (spf 0 p).2 t λy=>k (bC d (mkv agg t y) s)
  | .a (.c (.ptr b p))=>match s.sto[b]? with
   |some (.box e x)=>prt e x (spf 0 p).1 (spf 0 p).2 t λy=>k (bC d (mkv agg t y) s)
   |some (.mbox _ cs)=>match tA p with
    |some off=>match sub cs off t.sz with
     |some l=>match mka agg t l with|some v=>k (bC d v s)|none=>none
     |none=>none
    |none=>none
   |_=>none
  | .a (.c (.ep b i p))=>match s.sto[b]? with|some (.arr _ e rows)=>(bF rows i).bind λrow=>prt e row (spf 0 p).1 (spf 0 p).2 t λy=>k (bC d (mkv agg t y) s)|_=>none
  |_=>none
 else none
theorem FG(L:Nat->Nat){agg:Bool}{t:Ty}(h:agg=true\/t.sz=1)(y:t.D):oB agg (cel t y)=some (aT L (mkv agg t y)):=by
 unfold mkv;split;rename_i e;subst e;rfl;rename_i e;have:agg=false:=by simpa using e
 subst this;have:=h.resolve_left (by simp);rw[IW this];rfl
theorem ID(p:List Sp):(spf 0 p).1+spo (spf 0 p).2=spo p:=by simp[OP]
theorem JJ0{agg:Bool}{t:Ty}{v:TV}{d:Option Nat}{s:TSt}{k:TSt->Option R}{r:R}(h:nn agg t v d s k=some r):Ok (gE agg t.sz (aT (lns s.sto) v)) d s k r:=by
 unfold nn at h;split at h;rename_i j;split at h;rename_i n x p;obtain⟨y,h1,h2⟩:=wT h;rw[ID]at h1;refine⟨_,_,?_,MK d (mkv agg t y),h2⟩;simp only[kJ,mB,lX,gV,gE,h1,FG (lns s.sto) j,val];rfl;rename_i b p;split at h;rename_i n x e;obtain⟨y,h1,h2⟩:=wT h;rw[ID]at h1;refine⟨_,_,?_,MK d (mkv agg t y),h2⟩;have hc:kR agg ((cel t y).map .p)=oB agg (cel t y):=by
  unfold kR oB;split;rw[MP];cases hcel:cel t y with
  |nil=>rfl
  |cons a l=>cases l<;>rfl
 simp only[kJ,mB,lX,gV,gE,eG,eM,e,cU,JO,aY,GE,h1,hc,FG (lns s.sto) j,val];rfl;rename_i cs e;split at h;rename_i off o;split at h;rename_i l q;split at h;rename_i v z;refine⟨_,_,?_,MK d v,h⟩;simp only[kJ,mB,lX,gV,gE,eG,eM,e,cU,JO,aY,GE,FH o,q,FL (lns s.sto) z,val];rfl;cases h;cases h;cases h;cases h;rename_i b i p;split at h;rename_i w n rows e;obtain⟨row,g,h⟩:=bK.1 h;have g:rows[i]?=some row:=g;obtain⟨y,h1,h2⟩:=wT h;rw[ID]at h1;refine⟨_,_,?_,MK d (mkv agg t y),h2⟩;simp only[kJ,mB,lX,gV,gE,eG,eM,e,cU,JO,aY,nZ e,fK,if_true,fT,g,h1,FG (lns s.sto) j,val];rfl;cases h;cases h;cases h
end
end Go.Am
end
section
namespace Go.Am
section
variable {R:Type}
def fzC:(t:Ty)->List TC->TSt->(t.D->TSt->Option R)->Option R
 | .pr a c,l,s,k=>fzC a (l.take a.sz) s λx s=>fzC c (l.drop a.sz) s λy s=>k (x,y) s
 | .ar _ _,_,_,_=>none
 | .u,l,s,k=>if l.isEmpty=true then k () s else none
 | .l e,l,s,k=>match l with
  |[.d t' x]=>if h:t'=.l e then k (h▸x) s else none
  |[.slr b]=>match s.sto[b]? with|some (.arr _ e' rows)=>if h:e'=e then k (h▸rows) (wS b (.arr false e' rows) s)else none|_=>none
  |_=>none
 |t,l,s,k=>match l with|[.d t' x]=>if h:t'=t then k (h▸x) s else none|_=>none
def tfz(t:Ty)(v:TV)(s:TSt)(k:t.D->TSt->Option R):Option R:=
 match v with
 | .a (.dt t' x)=>if h:t'=t then k (h▸x) s else none
 | .a (.c x)=>fzC t [x] s k
 | .a (.m _ cs)=>fzC t cs s k
 |_=>none
def Fzd(s s':TSt)(ws:List (Nat×Blk)):Prop:=s'.env=s.env/\lns s'.sto=lns s.sto/\Jy s'=⟨(Jy s).env,upd ws (Jy s).sto⟩/\(∀(b:Nat) (t:Ty) (rows:List t.D) (w:Bool),s'.sto[b]?=some (TB.arr w t rows)-> ∃w',s.sto[b]?=some (TB.arr w' t rows))/\(∀(b:Nat) (t:Ty) (rows:List t.D),s.sto[b]?=some (TB.arr false t rows)->s'.sto[b]?=some (TB.arr false t rows))/\ ∀x∈ws,∃(t:Ty) (rows:List t.D),s'.sto[x.1]?=some (TB.arr false t rows)
theorem Fzd.refl(s:TSt):Fzd s s []:=⟨rfl,rfl,rfl,λb t rows w h=>⟨w,h⟩,λb t rows h=>h,λx h=>by cases h⟩
theorem Fzd.trans{s1 e g:TSt}{a c:List (Nat×Blk)}(h:Fzd s1 e a)(j:Fzd e g c):Fzd s1 g (a++c):=by
 obtain⟨h1,h2,B,z,o,y⟩:=h;obtain⟨n,q,A,v,k,r⟩:=j;refine⟨n.trans h1,q.trans h2,?_,λb t rows w h=>?_,λb t rows h=>k b t rows (o b t rows h),λx C=>?_⟩
 all_goals grind [eR]
theorem cm{s:TSt}{b:Nat}{w:Bool}{t:Ty}{rows:List t.D}(hb:s.sto[b]?=some (.arr w t rows)):Fzd s (wS b (.arr false t rows) s) [(b,.arr false t.sz (rows.map (cel t)))]:=by
 have e:lnB (.arr false t rows)=lns s.sto b:=by rw[nZ hb];rfl
 have k:(wS b (.arr false t rows) s).sto[b]?=some (.arr false t rows):=by grind [wS]
 have j: ∀c,c≠b->(wS b (.arr false t rows) s).sto[c]?=s.sto[c]?:=λc hc=>by grind [wS]
 refine⟨rfl,FO e,zG e,λc t' g w' h=>?_,λc t' g h=>?_,λx n=>?_⟩
 all_goals grind
theorem JKs(x y:List AV)(st:St):(fz.fzL (x++y)).run st=((fz.fzL x).run st).bind λa=>((fz.fzL y).run st).map λc=>(a.1++c.1,a.2++c.2):=by
 induction x with
 |nil=>simp_all
 |cons v x ih=>
  simp only[mY,fz.fzL,run_bind,ih];cases(fz.fz1 v).run st with
  |none=>rfl
  |some a=>
   simp only[JO];cases(fz.fzL x).run st with
   |none=>rfl
   |some c=>simp only[JO];cases(fz.fzL y).run st<;>simp_all
theorem LG{L:Nat->Nat}{t t':Ty}{x:t'.D}(h:t'=t)(h1:t.sz=1)(st:St):(fz.fzL ([TC.d t' x].map (aZ L))).run st=some (cel t (h▸x),[]):=by
 grind [IW,aZ,fz.fzL,fz.fz1,run_bind,bI]
theorem LV: ∀{t:Ty} {l:List TC} {s0 s:TSt} {w0:List (Nat×Blk)} {k:t.D->TSt->Option R} {r:R},Fzd s0 s w0->fzC t l s k=some r->
  ∃y s' ws,(fz.fzL (l.map (aZ (lns s0.sto)))).run (Jy s0)=some (cel t y,ws)/\Fzd s0 s' (w0++ws)/\k y s'=some r
 | .pr a c,l,s0,s,w0,k,r,j,h=>by simp only[fzC]at h;obtain⟨x,s1,z,B,q,h⟩:=LV j h;obtain⟨y,v,C,A,E,h⟩:=LV q h;refine⟨(x,y),v,z++C,?_,by simp_all,h⟩;have:=JKs ((l.take a.sz).map (aZ (lns s0.sto))) ((l.drop a.sz).map (aZ (lns s0.sto))) (Jy s0);rw[<-DH,qJ,B,A]at this;exact this
 | .ar _ _,_,_,_,_,_,_,_,h=>by cases h
 | .u,l,s0,s,w0,k,r,j,h=>by
  simp only[fzC]at h;split at h;rename_i g;refine⟨(),s,[],?_,by simp_all,h⟩;rw[List.isEmpty_iff.1 g];rfl;cases h
 | .l e,l,s0,s,w0,k,r,j,h=>by
  simp only[fzC]at h;split at h;split at h;rename_i g;exact⟨_,s,[],LG g rfl _,by simp_all,h⟩;cases h;rename_i b;split at h;rename_i w e' rows o;split at h;rename_i g;subst g;obtain⟨w',n⟩:=j.2.2.2.1 b _ rows w o;refine⟨rows,_,[(b,.arr false e'.sz (rows.map (cel e')))],?_,j.trans (cm o),h⟩;simp only[bT,List.map_nil,aZ,fz.fzL,fz.fz1,run_bind,eG,eM,n,cU,JO,aY,nZ n,fK,nA,if_true,DL,bI];rfl;cases h;cases h;cases h
 | .b,l,s0,s,w0,k,r,j,h=>by
  simp only[fzC]at h;split at h;split at h;rename_i g;exact⟨_,s,[],LG g rfl _,by simp_all,h⟩;cases h;cases h
 | .i _,l,s0,s,w0,k,r,j,h=>by
  simp only[fzC]at h;split at h;split at h;rename_i g;exact⟨_,s,[],LG g rfl _,by simp_all,h⟩;cases h;cases h
 | .s,l,s0,s,w0,k,r,j,h=>by
  simp only[fzC]at h;split at h;split at h;rename_i g;exact⟨_,s,[],LG g rfl _,by simp_all,h⟩;cases h;cases h
 | .f,l,s0,s,w0,k,r,j,h=>by
  simp only[fzC]at h;split at h;split at h;rename_i g;exact⟨_,s,[],LG g rfl _,by simp_all,h⟩;cases h;cases h
theorem JOE(x:AV)(hx:(∀cs,x≠.data cs)/\ ∀cs,x≠.agg cs)(st:St){y:List PV}{ws:List (Nat×Blk)}(h:(fz.fzL [x]).run st=some (y,ws)):(fz x).run st=some (y,ws):=by simp only[fz.fzL,run_bind,bI]at h;cases x<;>simp_all [bK]
theorem C8{t:Ty}{v:TV}{s0 s:TSt}{w0:List (Nat×Blk)}{k:t.D->TSt->Option R}{r:R}(g:Fzd s0 s w0)(h:tfz t v s k=some r):
  ∃y s' ws,(fz (aT (lns s0.sto) v)).run (Jy s0)=some (cel t y,ws)/\Fzd s0 s' (w0++ws)/\k y s'=some r:=by
 unfold tfz at h;split at h;split at h;rename_i j;subst j;exact⟨_,s,[],rfl,by simp_all,h⟩;cases h;rename_i x;obtain⟨y,s',ws,h1,h2,e⟩:=LV g h;refine⟨y,s',ws,JOE _ ⟨λcs=>?_,λcs=>?_⟩ _ h1,h2,e⟩<;>cases x<;>simp[aZ,aT,bQ]
 obtain⟨y,s',ws,h1,h2,e⟩:=LV g h;exact⟨y,s',ws,h1,h2,e⟩;cases h
end
end Go.Am
end
section
namespace Go.Am
section
variable {R:Type}
theorem gr(L:Nat->Nat){t:Ty}{v:TV}{x:t.D}(h:tdv t v=some x)(ha:agv v=true\/t.sz=1):cellsOf (aT L v)=some ((cel t x).map .p):=by
 rw[JN8 L h];split;rfl;rename_i e;rw[IW (ha.resolve_left e)];rfl
def YW(t:Ty)(x u:TV)(d:Option Nat)(s:TSt)(k:TSt->Option R):Option R:=
 match x with
 | .a (.c (.ptr b p))=>match s.sto[b]? with
  |some (.box e y)=>match tdv t u with
   |some z=>if agv u=true\/t.sz=1 then pst e y (spf 0 p).1 (spf 0 p).2 t z λh=>k (bC d uv (wS b (.box e h) s))else none
   |none=>match tA p,yQ e y,tcs u with
    |some off,some cs,some l=>if l.length=t.sz then
     match spl cs off l with
     |some cs'=>k (bC d uv (wS b (mkb e cs') s))
     |none=>none
     else none
    |some off,none,some l=>if off=0/\l.length=e.sz/\l.length=t.sz then k (bC d uv (wS b (mkb e l) s))else none
    |_,_,_=>none
  |some (.mbox e cs)=>match tA p,tcs u with
   |some off,some l=>if l.length=t.sz then
    match spl cs off l with
    |some cs'=>k (bC d uv (wS b (mkb e cs') s))
    |none=>none
    else none
   |_,_=>none
  |_=>none
 | .a (.c (.ep b i p))=>tfz t u s λz s1=>match s1.sto[b]? with|some (.arr true e rows)=>(bF rows i).bind λrow=>pst e row (spf 0 p).1 (spf 0 p).2 t z λg=>k (bC d uv (wS b (.arr true e (aX rows i g)) s1))|_=>none
 |_=>none
theorem JNa(L:Nat->Nat):aT L uv=gG:=rfl
theorem QT{s:TSt}{b:Nat}{t:Ty}{x:t.D}(h:s.sto[b]?=some (.box t x)):lns s.sto b=0:=by unfold lns;rw[h];rfl
theorem p8{s:TSt}{b:Nat}{t:Ty}{cs:List TC}(h:s.sto[b]?=some (.mbox t cs)):lns s.sto b=0:=by unfold lns;rw[h];rfl
theorem AC{s:TSt}{b:Nat}(h:s.sto[b]?=some .dead):lns s.sto b=0:=by unfold lns;rw[h];rfl
theorem KR{m:RM Eff}{d:Option Nat}{s:TSt}{k:TSt->Option R}{r:R}{b:Nat}{x:TB}{v:TV}(hl:lnB x=lns s.sto b)(hm:m.run (Jy s)=some ⟨aT (lns s.sto) v,[(b,aY (lns s.sto) x)]⟩)
  (h:k (bC d v (wS b x s))=some r):Ok m d s k r:=by
 refine⟨_,_,hm,?_,h⟩;have e:=FO hl;rw[<-e];refine rF ?_ d v;simp_all [zG]
theorem nd{m:RM Eff}{d:Option Nat}{s:TSt}{k:TSt->Option R}{r:R}{b:Nat}{x:TB}{v:TV}(hm:m.run (Jy s)=some ⟨aT (lns (wN b x s).sto) v,[(b,aY (lns (wN b x s).sto) x)]⟩)
  (h:k (bC d v (wN b x s))=some r):Ok m d s k r:=
 ⟨_,_,hm,rF (Cq b x s) d v,h⟩
theorem fF{m:RM Eff}{d:Option Nat}{s:TSt}{k:TSt->Option R}{r:R}{v:TV}(hm:m.run (Jy s)=some ⟨aT (lns s.sto) v,[]⟩)(h:k (bC d v s)=some r):Ok m d s k r:=
 ⟨_,_,hm,MK d v,h⟩
theorem YM{m:RM Eff}{d:Option Nat}{s s':TSt}{ws:List (Nat×Blk)}{k:TSt->Option R}{r:R}{v:TV}(f:Fzd s s' ws)(hm:m.run (Jy s)=some ⟨aT (lns s.sto) v,ws⟩)(h:k (bC d v s')=some r):Ok m d s k r:=by refine⟨_,_,hm,?_,h⟩;rw[<-f.2.1];exact rF f.2.2.1 d v
theorem JFl{t:Ty}{x u:TV}{d:Option Nat}{s:TSt}{k:TSt->Option R}{r:R}(h:YW t x u d s k=some r):Ok (iA t.sz (aT (lns s.sto) x) (aT (lns s.sto) u)) d s k r:=by
 unfold YW at h;split at h;rename_i b p;split at h;rename_i g y e;split at h;rename_i z G;split at h;rename_i J;obtain⟨E,h1,h2⟩:=zT h;rw[ID]at h1;refine KR (x:=.box g E) (v:=uv) (QT e).symm ?_ h2;simp only[kJ,mB,lX,gV,iA,eG,eM,e,cU,JO,aY,gr (lns s.sto) G J,fK,eD,if_true,GD,h1,bI];rfl;cases h;split at h;rename_i off cs l q hc n;split at h;rename_i C;split at h;rename_i cs' B;refine KR (x:=mkb g cs') (v:=uv) ((RB _ _).trans (QT e).symm) ?_ h;rw[RK];simp only[kJ,mB,lX,gV,iA,eG,eM,e,cU,JO,aY,LR (lns s.sto) n,fK,C,if_true,FH q,<-MC (lns s.sto) hc,GD,B,bI];rfl;cases h;cases h;rename_i off l q _ n;split at h;rename_i F;obtain⟨rfl,h1,h2⟩:=F;refine KR (x:=mkb g l) (v:=uv) ((RB _ _).trans (QT e).symm) ?_ h;rw[RK];have K:spl ((cel g y).map AV.p) 0 (l.map (aZ (lns s.sto)))=some (l.map (aZ (lns s.sto))):=Gv (by grind [eD]);simp only[kJ,mB,lX,gV,iA,eG,eM,e,cU,JO,aY,LR (lns s.sto) n,fK,h2,if_true,FH q,K,bI];rfl;cases h;cases h;rename_i g cs e;split at h;rename_i off l q n;split at h;rename_i C;split at h;rename_i cs' B;refine KR (x:=mkb g cs') (v:=uv) ((RB _ _).trans (p8 e).symm) ?_ h;rw[RK];simp only[kJ,mB,lX,gV,iA,eG,eM,e,cU,JO,aY,LR (lns s.sto) n,fK,C,if_true,FH q,GD,B,bI];rfl;cases h;cases h;cases h;cases h;rename_i b i p;obtain⟨z,s1,ws,h1,f,h⟩:=C8 (Fzd.refl s) h;rw[jA]at f;split at h;rename_i g rows e;obtain⟨row,A,h⟩:=bK.1 h;have A:rows[i]?=some row:=A;obtain⟨j,D,L⟩:=zT h;rw[ID]at D;obtain⟨w',o⟩:=f.2.2.2.1 b _ rows true e;have H:w'=true:=by
  cases w' with
  |true=>rfl
  |false=>have:=f.2.2.2.2.1 b _ rows o;simp_all
 subst H;have w:(ws.all λy=>y.1 !=b)=true:=(by rw[VA];intro y I;obtain⟨t',rows',M⟩:=f.2.2.2.2.2 y I;grind);have n:lnB (.arr true g (aX rows i j))=lns s1.sto b:=by grind [nZ,lnB,aX]
 refine⟨⟨gG,ws++[(b,.arr true g.sz ((aX rows i j).map (cel g)))]⟩,_,?_,?_,L⟩;simp only[kJ,mB,lX,gV,iA,eG,eM,o,cU,JO,aY,nZ o,fK,if_true,fT,A,run_bind,h1,eD,w,and_self,D,bI,List.map_set,aX];rw[<-JNa (lns (wS b (.arr true g (aX rows i j)) s1).sto)];refine rF ?_ d uv;rw[zG n,f.2.2.1,eR];rfl;cases h;cases h
def tpv:List (Nat×Ty×TO)->TSt->Option (List (Nat×(w:Ty)×w.D))
 |[],_=>some []
 |(off,w,o)::r,s=>match tev o s with
  |some v=>match tdv w v with
   |some z=>if agv v=true\/w.sz=1 then
    match tpv r s with
    |some l=>some ((off,⟨w,z⟩)::l)
    |none=>none
    else none
   |none=>none
  |none=>none
def OY(t:Ty):t.D->List (Nat×(w:Ty)×w.D)->(t.D->Option R)->Option R|x,[],k=>k x|x,(off,⟨w,z⟩)::r,k=>pst t x off [] w z λe=>OY t e r k
def tpc:List (Nat×Ty×TO)->TSt->Option (List (Nat×Nat×List TC))
 |[],_=>some []
 |(off,w,o)::r,s=>match tev o s with
  |some v=>match tcs v with
   |some l=>match tpc r s with|some q=>some ((off,w.sz,l)::q)|none=>none
   |none=>none
  |none=>none
def KF:List (Nat×Nat×List TC)->List TC->Option (List TC)
 |[],cs=>some cs
 |(off,n,c)::r,cs=>if c.length=n then
  match spl cs off c with
  |some cs'=>KF r cs'
  |none=>none
  else none
def erP(parts:List (Nat×Ty×TO)):List (Nat×Nat×Opd):=parts.map λx=>(x.1,x.2.1.sz,erO x.2.2)
theorem ZG{s:TSt}: ∀{parts:List (Nat×Ty×TO)} {l:List (Nat×Nat×List TC)},tpc parts s=some l->
  (kM (erP parts)).run (Jy s)=some (l.map λx=>(x.1,x.2.1,x.2.2.map (aZ (lns s.sto))))
 |[],l,h=>by injection h with h;subst h;rfl
 |(off,w,o)::r,l,h=>by
  simp only[tpc]at h;split at h;rename_i v g;split at h;rename_i c hc;split at h;rename_i q e;injection h with h;subst h;have ih:=ZG e;simp only[erP,bT,kM,run_bind,bR g,JO,LR (lns s.sto) hc];simp_all [erP];cases h;cases h;cases h
theorem C1{s:TSt}: ∀{parts:List (Nat×Ty×TO)} {l:List (Nat×(w:Ty)×w.D)},tpv parts s=some l->
  (kM (erP parts)).run (Jy s)=some (l.map λx=>(x.1,x.2.1.sz,(cel x.2.1 x.2.2).map .p))
 |[],l,h=>by injection h with h;subst h;rfl
 |(off,w,o)::r,l,h=>by
  simp only[tpv]at h;split at h;rename_i v g;split at h;rename_i z k;split at h;rename_i j;split at h;rename_i q e;injection h with h;subst h;have ih:=C1 e;simp only[erP,bT,kM,run_bind,bR g,JO,gr (lns s.sto) k j];simp_all [erP];cases h;cases h;cases h;cases h
theorem qn{t:Ty}: ∀{l:List (Nat×(w:Ty)×w.D)} {x:t.D} {k:t.D->Option R} {r:R},OY t x l k=some r->
  ∃y,pM (l.map λx=>(x.1,x.2.1.sz,(cel x.2.1 x.2.2).map .p)) ((cel t x).map .p)=some ((cel t y).map .p)/\k y=some r
 |[],x,k,r,h=>⟨x,rfl,h⟩
 |(off,⟨w,z⟩)::q,x,k,r,h=>by
  simp only[OY]at h;obtain⟨e,h1,h2⟩:=zT h;obtain⟨y,j,g⟩:=qn h2;grind [pM,eD,GD,spo]
theorem fb(L:Nat->Nat): ∀{l:List (Nat×Nat×List TC)} {cs cs':List TC},KF l cs=some cs'->
  pM (l.map λx=>(x.1,x.2.1,x.2.2.map (aZ L))) (cs.map (aZ L))=some (cs'.map (aZ L))
 |[],cs,cs',h=>by injection h with h;subst h;rfl
 |(off,n,c)::q,cs,cs',h=>by
  simp only[KF]at h;split at h;rename_i e;split at h;rename_i j g;simp only[bT,pM,fK,e,if_true,GD,g,cU];exact fb L h;cases h;cases h
def YY(t:Ty)(parts:List (Nat×Ty×TO))(d:Option Nat)(s:TSt)(k:TSt->Option R):Option R:=
 match tpv parts s with
 |some l=>OY t t.zero l λy=>k (bC d (.a (.dt t y)) s)
 |none=>match tpc parts s with
  |some l=>match KF l (zcs t)with
   |some cs'=>match mka true t cs' with|some v=>k (bC d v s)|none=>none
   |none=>none
  |none=>none
theorem JG3(F:Orc)(new:Nat){t:Ty}{parts:List (Nat×Ty×TO)}{d:Option Nat}{s:TSt}{k:TSt->Option R}{r:R}(h:YY t parts d s k=some r):Ok (opR F (.build (cel t t.zero) (erP parts)) new) d s k r:=by
 unfold YY at h;split at h;rename_i l e;obtain⟨y,h1,h2⟩:=qn h;refine fF (v:=.a (.dt t y)) ?_ h2;simp only[opR,run_bind,C1 e,JO,h1,uk,val,bI];rfl;split at h;rename_i l e;split at h;rename_i cs' g;split at h;rename_i v j;refine fF (v:=v) ?_ h;simp only[opR,run_bind,ZG e,JO,<-FM (lns s.sto) t,fb (lns s.sto) g,FL (lns s.sto) j,val,bI];cases h;cases h;cases h
def YZ(agg:Bool)(off:Nat)(t:Ty)(v:TV)(d:Option Nat)(s:TSt)(k:TSt->Option R):Option R:=
 if agg=true\/t.sz=1 then
  match v with
  | .a (.dt e x)=>prt e x off [] t λy=>k (bC d (mkv agg t y) s)
  | .a (.m _ cs)=>match sub cs off t.sz with
   |some l=>match mka agg t l with|some v=>k (bC d v s)|none=>none
   |none=>none
  |_=>none
 else none
theorem JFD{agg:Bool}{off:Nat}{t:Ty}{v:TV}{d:Option Nat}{s:TSt}{k:TSt->Option R}{r:R}(h:YZ agg off t v d s k=some r):Ok (val (rC agg off t.sz (aT (lns s.sto) v))) d s k r:=by
 unfold YZ at h;split at h;rename_i n;split at h;rename_i e x;obtain⟨y,h1,h2⟩:=wT h;refine fF (v:=mkv agg t y) ?_ h2;grind [spo,kr,rC,FG,val,bI];rename_i cs;split at h;rename_i l g;split at h;rename_i v j;refine fF (v:=v) ?_ h;grind [e_m,rC,GE,FL,val,bI];cases h;cases h;cases h;cases h
end
end Go.Am
end
section
namespace Go.Am
section
variable {R:Type}
theorem di{α:Type} [BEq α] [LawfulBEq α] [DecidableEq α](x y:α):(x==y)=decide (x=y):=by
 grind
def Vl(m:Option AV)(s:TSt)(kk:TV->Option R)(r:R):Prop:= ∃v,m=some (aT (lns s.sto) v)/\kk v=some r
theorem Vl.ok{m:Option AV}{d:Option Nat}{s:TSt}{k:TSt->Option R}{r:R}(h:Vl m s (λv=>k (bC d v s)) r):Ok (val m) d s k r:=by obtain⟨v,h1,h2⟩:=h;refine fF (v:=v) ?_ h2;rw[h1];rfl
def lh(op:BinOp)(k:IntKind)(a c:Int)(kk:TV->Option R):Option R:=
 match op with
 | .add=>kk (vi k (J1 k a c))
 | .sub=>kk (vi k (Jx k a c))
 | .mul=>kk (vi k (cB k a c))
 | .quo=>(Bx k a c).bind λq=>kk (vi k q)
 | .rem=>(mA a c).bind λq=>kk (vi k q)
 | .and=>kk (vi k (qP k a c))
 | .or=>kk (vi k (orI k a c))
 | .xor=>kk (vi k (fM k a c))
 | .eql=>kk (vb (aI a c))
 | .neq=>kk (vb (aM a c))
 | .lss=>kk (vb (aJ a c))
 | .leq=>kk (vb (aW a c))
 | .gtr=>kk (vb (aN a c))
 | .geq=>kk (vb (aO a c))
 |_=>none
def mg(op:BinOp)(a c:List UInt8)(kk:TV->Option R):Option R:=
 match op with
 | .add=>(dY a c).bind λq=>kk (vs q)
 | .eql=>kk (vb (eqS a c))
 | .neq=>kk (vb (neS a c))
 | .lss=>kk (vb (ltS a c))
 | .leq=>kk (vb (leS a c))
 | .gtr=>kk (vb (gtS a c))
 | .geq=>kk (vb (geS a c))
 |_=>none
inductive TBT where|plain|bool|flat (t:Ty)|nilp|nilf
def erT:TBT->BT| .plain=>.plain| .bool=>.bool| .flat t=>.flat (t.ks.getD [])| .nilp=>.nilp| .nilf=>.nilf
def mX(op:BinOp)(x:Bool)(kk:TV->Option R):Option R:=
 match op with
 | .eql=>kk (vb x)
 | .neq=>kk (vb (Jm x))
 |_=>none
def mb(op:BinOp)(bt:TBT)(x y:TV)(kk:TV->Option R):Option R:=
 match bt with
 | .plain=>match x,y with
  | .a (.c (.d (.i k) a)),.a (.c (.d (.i k') c))=>match op with| .shl=>(sY k a c).bind λq=>kk (vi k q)| .shr=>(kE k a c).bind λq=>kk (vi k q)|_=>if k=k' then lh op k a c kk else none
  | .a (.c (.d .s a)),.a (.c (.d .s c))=>mg op a c kk
  |_,_=>none
 | .bool=>match x,y with| .a (.c (.d .b a)),.a (.c (.d .b c))=>mX op (eqB a c) kk|_,_=>none
 | .flat t=>match x,y with| .a (.dt g a),.a (.dt e c)=>if h:g=t/\e=t/\t.ks.isSome=true then mX op (eqT t (h.1▸a) (h.2.1▸c)) kk else none|_,_=>none
 | .nilp=>match x with| .a (.c .np)=>mX op true kk| .a (.c (.ptr _ _))=>mX op false kk| .a (.c (.cp _ _ _))=>mX op false kk| .a (.c (.ep _ _ _))=>mX op false kk|_=>none
 | .nilf=>match x with| .a (.c .nf)=>mX op true kk| .a (.fn _ _ _)=>mX op false kk| .a (.c (.fn _))=>mX op false kk| .a (.c (.d .f _))=>mX op true kk|_=>none
theorem QV{op:BinOp}{x:Bool}{s:TSt}{kk:TV->Option R}{r:R}(h:mX op x kk=some r):Vl (iZ op (some x)) s kk r:=by
 unfold mX at h;split at h;exact⟨_,rfl,h⟩;exact⟨_,rfl,h⟩;cases h
theorem JJE{op:BinOp}{k:IntKind}{a c:Int}{s:TSt}{kk:TV->Option R}{r:R}(h:lh op k a c kk=some r):Vl ((yB op k a c).map .p) s kk r:=by
 unfold lh at h;split at h<;>first
  |exact⟨_,rfl,h⟩
  |(obtain⟨q,h1,h⟩:=bK.1 h
    refine⟨_,?_,h⟩
    first|unfold Bx at h1|unfold mA at h1
    split at h1;cases h1;rename_i e;injection h1 with h1;simp only[yB,if_neg e,h1,cU,e_i])
  |(refine⟨_,?_,h⟩;simp only[yB,di,cU,e_b,bne,aI,aM,aJ,aW,aN,aO];done)
  |cases h
theorem JL5{op:BinOp}{a c:List UInt8}{s:TSt}{kk:TV->Option R}{r:R}(h:mg op a c kk=some r):Vl ((yG op a c).map .p) s kk r:=by
 unfold mg at h;split at h<;>first
  |(obtain⟨q,h1,h⟩:=bK.1 h
    refine⟨_,?_,h⟩;unfold dY at h1;split at h1;rename_i e;injection h1 with h1;simp only[yG,if_pos e,h1,cU,e_s];cases h1)
  |(refine⟨_,?_,h⟩;simp only[yG,di,cU,e_b,eqS,neS,ltS,leS,gtS,geS];done)
  |cases h
theorem JKy{op:BinOp}{bt:TBT}{x y:TV}{s:TSt}{kk:TV->Option R}{r:R}(h:mb op bt x y kk=some r):Vl (nG op (erT bt) (aT (lns s.sto) x) (aT (lns s.sto) y)) s kk r:=by
 unfold mb at h;split at h;split at h;rename_i k a k' c;simp only[e_i,erT,nG];split at h;obtain⟨q,h1,h⟩:=bK.1 h;unfold sY at h1;split at h1;cases h1;rename_i e;injection h1 with h1;exact⟨_,by simp_all [e_i],h⟩;obtain⟨q,h1,h⟩:=bK.1 h;unfold kE at h1;split at h1;cases h1;rename_i e;injection h1 with h1;exact⟨_,by simp_all [e_i],h⟩;grind [JJE];exact JL5 h;cases h;split at h;rename_i a c;simp only[e_b,erT,nG,di];exact QV h;cases h;grind [Option.isSome_iff_exists,kr,erT,nG,QS,QV];split at h<;>first|exact QV h|cases h
 split at h<;>first|exact QV h|cases h
def tUn(op:UnOp)(x:TV)(kk:TV->Option R):Option R:=
 match op,x with
 | .neg,.a (.c (.d (.i k) n))=>kk (vi k (JOJ k n))
 | .xor,.a (.c (.d (.i k) n))=>kk (vi k (WU k n))
 | .not,.a (.c (.d .b x))=>kk (vb (Jm x))
 |_,_=>none
theorem JMR{op:UnOp}{x:TV}{s:TSt}{kk:TV->Option R}{r:R}(h:tUn op x kk=some r):Vl (unP op (aT (lns s.sto) x)) s kk r:=by unfold tUn at h;split at h<;>first|exact⟨_,rfl,h⟩|cases h
def tMm(mx:Bool)(x y:TV)(kk:TV->Option R):Option R:=
 match x,y with
 | .a (.c (.d (.i k) a)),.a (.c (.d (.i _) c))=>kk (vi k (if mx=true then cP a c else lV a c))
 |_,_=>none
theorem JNi{mx:Bool}{x y:TV}{s:TSt}{kk:TV->Option R}{r:R}(h:tMm mx x y kk=some r):Vl (mmP mx (aT (lns s.sto) x) (aT (lns s.sto) y)) s kk r:=by
 unfold tMm at h;split at h;exact⟨_,by cases mx<;>rfl,h⟩;cases h
def tls(t:Ty)(v:TV)(s:TSt):Option (List t.D):=
 match v with
 | .a (.c (.d (.l t') l))=>if h:t'=t then some (h▸l)else none
 | .a (.c (.d .s l))=>if h:t=.i .u8 then some (h▸(aR l:List (Ty.i .u8).D))else none
 | .a (.c (.slr b))=>match s.sto[b]? with|some (.arr _ t' rows)=>if h:t'=t then some (h▸rows)else none|_=>none
 |_=>none
theorem QL{t:Ty}{v:TV}{s:TSt}{l:List t.D}(h:tls t v s=some l):(fG t.sz (aT (lns s.sto) v)).run (Jy s)=some (l.map (cel t)):=by
 unfold tls at h;split at h;grind [e_l,fG,bI];split at h;rename_i e;subst e;injection h with h;subst h;simp only[e_s,fG,Ty.sz,if_true,bI,d7];rfl;cases h;rename_i b;split at h;rename_i w t' rows g;split at h;rename_i e;subst e;injection h with h;subst h;simp only[gV,fG,eG,eM,g,cU,JO,aY,nZ g,fK,nA,and_self,if_true,bI,DL];cases h;cases h;cases h
def ni(k:CK)(x:TV)(d:Option Nat)(new:Nat)(s:TSt)(kk:TSt->Option R):Option R:=
 match k with
 | .int k=>match x with| .a (.c (.d (.i _) n))=>kk (bC d (vi k (aU k n)) s)|_=>none
 | .same=>match x with| .a (.c (.d .s l))=>kk (bC d (vs l) s)|_=>none
 | .toStr=>match tls (.i .u8) x s with|some l=>kk (bC d (vs (toStr l)) s)|none=>none
 | .toBytes own=>match x with| .a (.c (.d .s l))=>if own=true then kk (bC d (.a (.c (.slr new))) (wN new (.arr true (.i .u8) (aR l)) s))else kk (bC d (vl (.i .u8) (aR l)) s)|_=>none
theorem JHT(F:Orc){k:CK}{x:TO}{v:TV}{d:Option Nat}{new:Nat}{s:TSt}{kk:TSt->Option R}{r:R}(hx:tev x s=some v)(hn:k=.toBytes true->new<s.sto.length)(h:ni k v d new s kk=some r):Ok (opR F (.conv k (erO x)) new) d s kk r:=by
 unfold ni at h;split at h;split at h;refine fF (v:=vi _ _) ?_ h;simp only[opR,run_bind,bR hx,JO,e_i,bI,aU];cases h;split at h;refine fF (v:=vs _) ?_ h;grind [opR,run_bind,bR,e_s,bI];cases h;split at h;rename_i l j;refine fF (v:=vs _) ?_ h;have:=QL j;have e:l.map (cel (.i .u8))=l.map (r_i .u8):=rfl;rw[e]at this;simp only[opR,run_bind,bR hx,JO,this,g6,e_s,bI,Ty.sz];rw[show(fG 1 (aT (lns s.sto) v)).run (Jy s)=some (l.map (r_i .u8))from this];simp[g6];cases h;rename_i own;split at h;rename_i l;split at h;rename_i g;subst g;refine nd (x:=.arr true (.i .u8) (aR l)) (v:=.a (.c (.slr new))) ?_ h;simp only[opR,run_bind,bR hx,JO,e_s,if_true,bI,gV,aY,d7];have e:lns (wN new (TB.arr true (Ty.i IntKind.u8) (aR l)) s).sto new=l.length:=(by grind [wN,YP,lnB,aR]);rw[e];rfl;rename_i g;have:own=false:=by simpa using g
 subst this;refine fF (v:=vl _ _) ?_ h;simp only[opR,run_bind,bR hx,JO,e_s,eJ,if_false,bI,e_l,d7];rfl;cases h
end
end Go.Am
end
section
namespace Go.Am
section
variable {R:Type}
theorem Gg(p q:List Sp):spo (p++q)=spo p+spo q:=by
 induction p with
 |nil=>simp[spo]
 |cons x p ih=>cases x<;>simp only[mY,spo,ih]<;>omega
def ZK(off:Nat)(x:TV)(kk:TV->Option R):Option R:=
 match x with
 | .a (.c (.ptr b p))=>kk (.a (.c (.ptr b (p++[.f off]))))
 | .a (.c (.cp t x p))=>kk (.a (.c (.cp t x (p++[.f off]))))
 | .a (.c (.ep b i p))=>kk (.a (.c (.ep b i (p++[.f off]))))
 |_=>none
theorem JFT{off:Nat}{x:TV}{s:TSt}{kk:TV->Option R}{r:R}(h:ZK off x kk=some r):Vl (LD off (aT (lns s.sto) x)) s kk r:=by
 unfold ZK at h;split at h<;>first
  |(refine⟨_,?_,h⟩;simp only[kJ,mB,lX,LD,Gg,spo,tC];done)
  |cases h
def ZH(len esz:Nat)(x i:TV)(kk:TV->Option R):Option R:=
 match i with
 | .a (.c (.d (.i _) n))=>(aV len n).bind λ_=>match x with| .a (.c (.ptr b p))=>kk (.a (.c (.ptr b (p++[.a n.toNat esz]))))| .a (.c (.cp t x p))=>kk (.a (.c (.cp t x (p++[.a n.toNat esz]))))| .a (.c (.ep b i p))=>kk (.a (.c (.ep b i (p++[.a n.toNat esz]))))|_=>none
 |_=>none
theorem JG7{len esz:Nat}{x i:TV}{s:TSt}{kk:TV->Option R}{r:R}(h:ZH len esz x i kk=some r):Vl (LK len esz (aT (lns s.sto) x) (aT (lns s.sto) i)) s kk r:=by
 unfold ZH at h;split at h;obtain⟨_,h1,h⟩:=bK.1 h;have e:=Eh h1;split at h<;>first
  |(refine⟨_,?_,h⟩;simp only[kJ,mB,lX,e_i,LK,if_pos e,Gg,spo,tC];done)
  |cases h
 cases h
def YX(t:Ty)(x i:TV)(s:TSt)(kk:TV->Option R):Option R:=
 match i with
 | .a (.c (.d (.i _) n))=>match x with
  | .a (.c (.d (.l t') l))=>if t'=t then(idx l n).bind λy=>kk (.a (.c (.cp t' y [])))else none
  | .a (.c (.slr b))=>match s.sto[b]? with|some (.arr _ t' rows)=>if t'=t then(aV rows.length n).bind λ_=>kk (.a (.c (.ep b n.toNat [])))else none|_=>none
  |_=>none
 |_=>none
theorem JFy{t:Ty}{x i:TV}{d:Option Nat}{s:TSt}{k:TSt->Option R}{r:R}(h:YX t x i s (λv=>k (bC d v s))=some r):Ok (mE t.sz (aT (lns s.sto) x) (aT (lns s.sto) i)) d s k r:=by
 unfold YX at h;split at h;split at h;split at h;rename_i e;subst e;obtain⟨y,h1,h⟩:=bK.1 h;refine fF (v:=.a (.c (.cp _ y []))) ?_ h;grind [e_l,e_i,mB,mE,JFt,bI,spo];cases h;rename_i b;split at h;rename_i w t' rows g;split at h;rename_i e;subst e;obtain⟨_,h1,h⟩:=bK.1 h;have e:=Eh h1;refine fF (v:=.a (.c (.ep b _ []))) ?_ h;simp only[gV,e_i,lX,mE,eG,eM,g,cU,JO,aY,nZ g,fK,nA,true_and];rw[if_pos e];rfl;cases h;cases h;cases h;cases h
def n3(x i:TV)(kk:TV->Option R):Option R:=
 match x,i with
 | .a (.c (.d .s l)),.a (.c (.d (.i _) n))=>(oT l n).bind λu=>kk (vi .u8 u)
 |_,_=>none
theorem JJi(F:Orc){x i:TO}{g e:TV}{d:Option Nat}{new:Nat}{s:TSt}{k:TSt->Option R}{r:R}(hx:tev x s=some g)(hi:tev i s=some e)(h:n3 g e (λv=>k (bC d v s))=some r):Ok (opR F (.sidx (erO x) (erO i)) new) d s k r:=by
 unfold n3 at h;split at h
 ·rename_i l k' n;obtain⟨u,h1,h⟩:=bK.1 h;refine fF (v:=vi .u8 u) ?_ h;simp only[opR,run_bind,bR hx,bR hi,JO,e_s,e_i];unfold oT at h1;split at h1
  ·rename_i j;rw[if_pos j];split at h1
   all_goals simp_all
  cases h1
 cases h
def VN(j:Int)(k:Nat->Option R):Nat->Option R|0=>none|m+1=>if aI j m=true then k m else VN j k m
theorem Ey{j:Int}{k:Nat->Option R}{r:R}: ∀{n:Nat},VN j k n=some r-> ∃m,m<n/\j=m/\k m=some r
 |0,h=>by cases h
 |n+1,h=>by
  simp only[VN]at h;split at h;grind [aI];obtain⟨m,h1,h2,e⟩:=Ey h;grind
def ng(agg:Bool)(len:Nat)(t:Ty)(x i:TV)(d:Option Nat)(s:TSt)(k:TSt->Option R):Option R:=
 if agg=true\/t.sz=1 then
  match x,i with
  | .a (.dt (.ar n t') v),.a (.c (.d (.i _) j))=>if h:t'=t/\n=len then(kj v j).bind λy=>k (bC d (mkv agg t (h.1▸y)) s)else none
  | .a (.m _ cs),.a (.c (.d (.i _) j))=>VN j (λm=>match sub cs (m*t.sz) t.sz with
   |some l=>match mka agg t l with|some v=>k (bC d v s)|none=>none
   |none=>none) len
  |_,_=>none
 else none
theorem JIj(F:Orc){agg:Bool}{len:Nat}{t:Ty}{x i:TO}{o g:TV}{d:Option Nat}{new:Nat}{s:TSt}{k:TSt->Option R}{r:R}(hx:tev x s=some o)(hi:tev i s=some g)(h:ng agg len t o g d s k=some r):
  Ok (opR F (.aidx agg len t.sz (erO x) (erO i)) new) d s k r:=by
 unfold ng at h;split at h;rename_i C;split at h;rename_i n t' v k' j;split at h;rename_i w;obtain⟨rfl,rfl⟩:=w;obtain⟨y,h1,h⟩:=bK.1 h;obtain⟨h2,e⟩:=JGX h1;refine fF (v:=mkv agg t' y) ?_ h;simp only[opR,run_bind,bR hx,bR hi,JO,kr,e_i,if_pos h2,rC];grind [cel,LU,eD,FG,val,bI];cases h;rename_i B cs k' j;obtain⟨m,h1,q,e⟩:=Ey h;clear h;subst q;split at e;rename_i l z;split at e;rename_i v A;refine fF (v:=v) ?_ e;have h2:(0:Int)<=m/\(m:Int)<len:=by omega
 simp only[opR,run_bind,bR hx,bR hi,JO,e_m,e_i,if_pos h2,rC,Int.toNat_natCast,GE,z,cU,FL (lns s.sto) A,val,bI];cases e;cases e;cases h;cases h
def nq(x:TV)(i:Nat)(kk:TV->Option R):Option R:=
 match x with
 | .tup vs=>match vs[i]? with|some v=>kk (.a v)|none=>none
 |_=>none
theorem JJ5{x:TV}{i:Nat}{s:TSt}{kk:TV->Option R}{r:R}(h:nq x i kk=some r):Vl (PR i (aT (lns s.sto) x)) s kk r:=by
 unfold nq at h;split at h;split at h;rename_i v e;refine⟨_,?_,h⟩;simp_all [aT];cases h;cases h
def l3(str:Bool)(x:TV)(s:TSt)(kk:TV->Option R):Option R:=
 match str,x with
 |true,.a (.c (.d .s l))=>kk (vi .i64 (J0 l))
 |false,.a (.c (.d (.l _) l))=>kk (vi .i64 (J0 l))
 |false,.a (.c (.slr b))=>match s.sto[b]? with|some (.arr _ _ rows)=>kk (vi .i64 (J0 rows))|_=>none
 |false,.a (.c (.slo _ n))=>kk (vi .i64 n)
 |_,_=>none
theorem JJM{str:Bool}{x:TV}{s:TSt}{kk:TV->Option R}{r:R}(h:l3 str x s kk=some r):Vl (KB str (aT (lns s.sto) x)) s kk r:=by
 unfold l3 at h;split at h;exact⟨_,rfl,h⟩;exact⟨_,by simp[e_l,e_i,J0],h⟩;split at h;rename_i e;exact⟨_,by grind [gV,KB,nZ,e_i,J0],h⟩;cases h;exact⟨_,rfl,h⟩;cases h
theorem dc{s:TSt}{new:Nat}(hn:new<s.sto.length){w:Bool}{t:Ty}{rows:List t.D}:lns (wN new (TB.arr w t rows) s).sto new=rows.length:=by unfold wN;rw[YP (by simpa using hn)];rfl
theorem QM{m:RM Eff}{d:Option Nat}{s:TSt}{k:TSt->Option R}{r:R}{new:Nat}{t:Ty}{rows:List t.D}(hn:new<s.sto.length)
  (hm:m.run (Jy s)=some ⟨.slr new 0 rows.length,[(new,.arr true t.sz (rows.map (cel t)))]⟩) (h:k (bC d (.a (.c (.slr new))) (wN new (.arr true t rows) s))=some r):Ok m d s k r:=by
 refine nd (x:=.arr true t rows) (v:=.a (.c (.slr new))) ?_ h;rw[hm,gV,dc hn];rfl
def d6(own:Bool)(t:Ty)(bytes:Nat)(l c:TV)(d:Option Nat)(new:Nat)(s:TSt)(k:TSt->Option R):Option R:=
 match l,c with
 | .a (.c (.d (.i _) n)),.a (.c (.d (.i _) m))=>(mkS bytes n m t.zero).bind λrows=>
  if own=true then k (bC d (.a (.c (.slr new))) (wN new (.arr true t rows) s))else k (bC d (vl t rows) s)
 |_,_=>none
theorem JAO(F:Orc){own:Bool}{t:Ty}{bytes:Nat}{l c:TO}{e n:TV}{d:Option Nat}{new:Nat}{s:TSt}{k:TSt->Option R}{r:R}(hl:tev l s=some e)(hc:tev c s=some n)(hn:own=true->new<s.sto.length)
  (h:d6 own t bytes e n d new s k=some r):Ok (opR F (.mkslice own t.sz bytes (cel t t.zero) (erO l) (erO c)) new) d s k r:=by
 unfold d6 at h;split at h;obtain⟨rows,h1,j⟩:=bK.1 h;obtain⟨h2,rfl⟩:=JKQ h1;clear h;split at j;rename_i g;subst g;refine QM (hn rfl) ?_ j;simp only[opR,run_bind,bR hl,bR hc,JO,e_i,if_pos h2,if_true,bI,EM,VP];rename_i g;have:own=false:=by simpa using g
 subst this;refine fF (v:=vl t _) ?_ j;simp only[opR,run_bind,bR hl,bR hc,JO,e_i,if_pos h2,eJ,if_false,bI,e_l,VP];cases h
def VI(t:Ty)(bytes:Nat)(x y:TV)(d:Option Nat)(s:TSt)(k:TSt->Option R):Option R:=
 match x with
 | .a (.c (.slr b))=>match s.sto[b]? with
  |some (.arr w t' rows)=>if h:t'=t then
   match tls t' y s with
   |some l=>(JB bytes rows l).bind λm=>k (bC d (.a (.c (.slr b))) (wN b (.arr w t' m) s))
   |none=>none
   else none
  |_=>none
 |_=>none
theorem Ff{t:Ty}{bytes:Nat}{x y:TV}{d:Option Nat}{s:TSt}{k:TSt->Option R}{r:R}(h:VI t bytes x y d s k=some r):Ok (iM t.sz bytes (aT (lns s.sto) x) (aT (lns s.sto) y)) d s k r:=by
 unfold VI at h;split at h;rename_i b;split at h;rename_i w t' rows e;split at h;rename_i j;subst j;split at h;rename_i l n;obtain⟨m,h1,h⟩:=bK.1 h;refine nd (x:=.arr w t' m) (v:=.a (.c (.slr b))) ?_ h;have g:(Jy s).sto[b]?=some (.arr w t'.sz (rows.map (cel t'))):=by rw[eM,e];rfl
 have:=JKD h1 g (QL n);rw[gV,nZ e,this,gV,dc (Jw e)];rfl;cases h;cases h;cases h;cases h
def mr(t:Ty)(bytes:Nat)(y:TV)(d:Option Nat)(new:Nat)(s:TSt)(k:TSt->Option R):Option R:=
 match tls t y s with
 |some l=>(cM bytes l).bind λm=>k (bC d (.a (.c (.slr new))) (wN new (.arr true t m) s))
 |none=>none
theorem JHr(F:Orc){t:Ty}{bytes:Nat}{z:List PV}{y:TO}{e:TV}{d:Option Nat}{new:Nat}{s:TSt}{k:TSt->Option R}{r:R}(hy:tev y s=some e)(hn:new<s.sto.length)(h:mr t bytes e d new s k=some r):Ok (opR F (.appn t.sz bytes z (erO y)) new) d s k r:=by
 unfold mr at h;split at h;rename_i l g;obtain⟨m,h1,j⟩:=bK.1 h;obtain⟨h2,rfl⟩:=JGS h1;refine QM hn ?_ j;simp only[opR,run_bind,bR hy,JO,QL g,fK,h2,if_true,bI];cases h
def mq(t:Ty)(bytes:Nat)(x y:TV)(d:Option Nat)(s:TSt)(k:TSt->Option R):Option R:=
 match y with
 | .a (.c (.d (.i _) n))=>if 0<=n then VI t bytes x (vl t (List.replicate n.toNat t.zero)) d s k else none
 |_=>none
theorem JIh(F:Orc){t:Ty}{bytes:Nat}{x y:TO}{g j:TV}{d:Option Nat}{new:Nat}{s:TSt}{k:TSt->Option R}{r:R}(hx:tev x s=some g)(hy:tev y s=some j)(h:mq t bytes g j d s k=some r):Ok (opR F (.appz t.sz bytes (cel t t.zero) (erO x) (erO y)) new) d s k r:=by
 unfold mq at h;split at h;rename_i n;split at h;rename_i o;obtain⟨e,s',h1,h2,q⟩:=Ff h;refine⟨e,s',?_,h2,q⟩;simp only[opR,run_bind,bR hx,bR hy,JO,e_i,zrs,if_pos o];simp_all [e_l];cases h;cases h
def nv(t:Ty)(bytes:Nat)(x y:TV)(d:Option Nat)(new:Nat)(s:TSt)(k:TSt->Option R):Option R:=
 match x with
 | .a (.c (.sc t' rows))=>if h:t'=t then
   match tls t' y s with
   |some l=>(A1 bytes rows l).bind λm=>k (bC d (.a (.c (.slr new))) (wN new (.arr true t' m) s))
   |none=>none
  else none
 |_=>none
theorem JI6(F:Orc){t:Ty}{bytes:Nat}{z:List PV}{x y:TO}{e g:TV}{d:Option Nat}{new:Nat}{s:TSt}{k:TSt->Option R}{r:R}(hx:tev x s=some e)(hy:tev y s=some g)(hn:new<s.sto.length)(h:nv t bytes e g d new s k=some r):
  Ok (opR F (.appc t.sz bytes z (erO x) (erO y)) new) d s k r:=by
 unfold nv at h;split at h;rename_i t' rows;split at h;rename_i j;subst j;split at h;rename_i l n;obtain⟨m,h1,h⟩:=bK.1 h;unfold A1 at h1;split at h1;rename_i h2;injection h1 with h1;subst h1;refine QM hn ?_ h;simp only[opR,run_bind,bR hx,bR hy,JO];show(IN t'.sz bytes (.p (.slc t'.sz (rows.map (cel t')))) _ new).run _=_;grind [IN,run_bind,QL,bI];cases h1;cases h;cases h;cases h
def tbn(x:Option TO)(s:TSt):Option (Option (IntKind×Int)):=
 match x with
 |none=>some none
 |some o=>match tev o s with|some (.a (.c (.d (.i k) n)))=>some (some (k,n))|_=>none
def bv(x:Option (IntKind×Int)):Option AV:=x.map λy=>.p (.i y.1 y.2)
theorem FF{x:Option TO}{s:TSt}{y:Option (IntKind×Int)}(h:tbn x s=some y):(evo (x.map erO)).run (Jy s)=some (bv y):=by
 cases x with
 |none=>injection h with h;subst h;rfl
 |some o=>
  simp only[tbn]at h;split at h;rename_i k n e;injection h with h;subst h;simp only[cU,evo,run_bind,bR e,JO,bI,bv,e_i];cases h
theorem JMK(x:Option (IntKind×Int))(top d:Nat):pP (bv x) top d=tF (x.map (·.2)) top d:=by cases x<;>rfl
theorem D1(n:Nat)(lo hi:Option (IntKind×Int)):vQ n (bv lo) (bv hi)=qM n (lo.map (·.2)) (hi.map (·.2)):=by
 grind [vQ,qM,JMK]
inductive TSK where|str|sl (t:Ty)
def erK:TSK->SK| .str=>.str| .sl t=>.sl t.sz
def kx(t:Ty)(x:TV)(s:TSt)(kk:List t.D->TSt->Option R):Option R:=
 match x with
 | .a (.c (.d (.l t') l))=>if h:t'=t then kk (h▸l) s else none
 | .a (.c (.slr b))=>match s.sto[b]? with|some (.arr _ t' rows)=>if h:t'=t then kk (h▸rows) (wS b (.arr false t' rows) s)else none|_=>none
 |_=>none
theorem JKH{t:Ty}{x:TV}{s:TSt}{kk:List t.D->TSt->Option R}{r:R}(h:kx t x s kk=some r):
  ∃l s' ws,Fzd s s' ws/\kk l s'=some r/\((aT (lns s.sto) x=.p (.sl t.sz (l.map (cel t)))/\ws=[])\/
   ∃b,aT (lns s.sto) x=.slr b 0 l.length/\(fz (.slr b 0 l.length)).run (Jy s)=some ([.sl t.sz (l.map (cel t))],ws)):=by
 unfold kx at h;split at h;grind [Fzd.refl,e_l];rename_i b;split at h;rename_i w t' rows e;split at h;rename_i g;subst g;refine⟨_,_,_,cm e,h,.inr ⟨b,by rw[gV,nZ e],?_⟩⟩;simp_all [eM,aY];cases h;cases h;cases h
def YJ(e:TSK)(x:TV)(lo hi mx:Option (IntKind×Int))(d:Option Nat)(s:TSt)(k:TSt->Option R):Option R:=
 match e with
 | .str=>match x,mx with| .a (.c (.d .s l)),none=>(bD l (lo.map (·.2)) (hi.map (·.2))).bind λq=>k (bC d (vs q) s)|_,_=>none
 | .sl t=>kx t x s λl s1=>match mx with|none=>(bD l (lo.map (·.2)) (hi.map (·.2))).bind λq=>k (bC d (vl t q) s1)|some (_,n)=>match lo,hi with|none,some (_,h)=>if h=l.length/\n=l.length then k (bC d (.a (.c (.sc t l))) s1)else none|_,_=>none
theorem Gl{α:Type}{l q:List α}{lo hi:Option Int}(h:bD l lo hi=some q): ∃c,qM l.length lo hi=some c/\q=(l.drop c.1).take (c.2-c.1):=by
 grind [bD]
theorem JFV(F:Orc){n:TSK}{x:TO}{j:TV}{lo hi mx:Option TO}{l g m:Option (IntKind×Int)}{d:Option Nat}{new:Nat}{s:TSt}{k:TSt->Option R}{r:R}(hx:tev x s=some j)(hl:tbn lo s=some l)(o:tbn hi s=some g)(hm:tbn mx s=some m)
  (h:YJ n j l g m d s k=some r):Ok (opR F (.slice (erK n) (erO x) (lo.map erO) (hi.map erO) (mx.map erO)) new) d s k r:=by
 unfold YJ at h;split at h;split at h;rename_i A;obtain⟨q,h1,h⟩:=bK.1 h;obtain⟨c,hc,rfl⟩:=Gl h1;refine fF (v:=vs _) ?_ h;have w:bv none=none:=rfl;simp only[opR,run_bind,bR hx,FF hl,FF o,FF hm,JO,e_s,erK,w,kO,wP,val,D1,hc,bI];cases h;rename_i t;obtain⟨y,s1,ws,f,h,C⟩:=JKH h;have e: ∀(res:AV),kO (.sl t.sz) (.p (.sl t.sz (y.map (cel t)))) (bv l) (bv g) (bv m)=some res->
   (opR F (.slice (erK (.sl t)) (erO x) (lo.map erO) (hi.map erO) (mx.map erO)) new).run (Jy s)=some ⟨res,ws⟩:=by
  intro res B;simp only[opR,run_bind,bR hx,FF hl,FF o,FF hm,JO,erK];grind [val,bI,run_bind]
 split at h;obtain⟨q,h2,h⟩:=bK.1 h;obtain⟨c,hc,rfl⟩:=Gl h2;refine YM (v:=vl t _) f (e _ ?_) h;grind [bv,kO,wM,D1,e_l,List.map_take,List.map_drop];split at h;split at h;rename_i z;refine YM (v:=.a (.c (.sc t y))) f (e _ ?_) h;simp only[bv,Option.map_none,cU,kO,PO,fK,z,and_self,if_true];rfl;cases h;cases h
end
end Go.Am
end
section
namespace Go.Am
section
variable {R:Type}
def UV(t:Ty):List (Nat×TO)->TSt->TSt->(List (Nat×t.D)->TSt->Option R)->Option R|[],_,s,k=>k [] s|(i,o)::r,s0,s,k=>match tev o s0 with|some v=>tfz t v s λz s'=>UV t r s0 s' λl e=>k ((i,z)::l) e|none=>none
theorem G1{t:Ty}: ∀{parts:List (Nat×TO)} {s0 s:TSt} {w0:List (Nat×Blk)} {k:List (Nat×t.D)->TSt->Option R} {r:R},Fzd s0 s w0->UV t parts s0 s k=some r->
  ∃l s' ws,(fzs (parts.map λx=>erO x.2)).run (Jy s0)=some (l.map λx=>cel t x.2,ws)/\Fzd s0 s' (w0++ws)/\l.map (·.1)=parts.map (·.1)/\k l s'=some r
 |[],s0,s,w0,k,r,f,h=>⟨[],s,[],rfl,by simp_all,rfl,h⟩
 |(i,o)::q,s0,s,w0,k,r,f,h=>by
  simp only[UV]at h;split at h;rename_i v w;obtain⟨z,s1,j,h1,e,h⟩:=C8 f h;obtain⟨l,g,y,h2,A,n,h⟩:=G1 e h;refine⟨(i,z)::l,g,j++y,?_,by simp_all,by simp[n],h⟩;simp only[bT,fzs,run_bind,bR w,JO,h1,h2,bI];cases h
def QB{α:Type}:List (Nat×α)->List α->Option (List α)|[],rows=>some rows|(i,c)::r,rows=>if i<rows.length then QB r (rows.set i c)else none
theorem sw{t:Ty}: ∀{l:List (Nat×t.D)} {rows rows':List t.D},QB l rows=some rows'->
  AB t.sz ((l.map (·.1)).zip (l.map λx=>cel t x.2)) (rows.map (cel t))=some (rows'.map (cel t))/\rows'.length=rows.length
 |[],rows,rows',h=>by injection h with h;simp_all
 |(i,c)::q,rows,rows',h=>by
  simp only[QB]at h;split at h;rename_i e;obtain⟨h1,h2⟩:=sw h;simp_all [eD];cases h
def ns(own:Bool)(t:Ty)(n:Nat)(parts:List (Nat×TO))(d:Option Nat)(new:Nat)(s:TSt)(k:TSt->Option R):Option R:=
 UV t parts s s λl s1=>match QB l (List.replicate n t.zero)with|some rows=>if own=true then k (bC d (.a (.c (.slr new))) (wN new (.arr true t rows) s1))else k (bC d (vl t rows) s1)|none=>none
theorem JHH(F:Orc){own:Bool}{t:Ty}{n:Nat}{parts:List (Nat×TO)}{d:Option Nat}{new:Nat}{s:TSt}{k:TSt->Option R}{r:R}(hn:own=true->new<s.sto.length)
  (h:ns own t n parts d new s k=some r):Ok (opR F (.lits own t.sz n (cel t t.zero) (parts.map λx=>(x.1,erO x.2))) new) d s k r:=by
 unfold ns at h;obtain⟨l,s1,ws,h1,f,h2,e⟩:=G1 (Fzd.refl s) h;rw[jA]at f;clear h;split at e;rename_i rows o;obtain⟨j,q⟩:=sw o;rw[EM]at q;rw[VP]at j;have z:(parts.map λx=>(x.1,erO x.2)).map (·.2)=parts.map λx=>erO x.2:=by simp
 have y:(parts.map λx=>(x.1,erO x.2)).map (·.1)=l.map (·.1):=by rw[h2];simp
 split at e;rename_i g;subst g;have w:new<s1.sto.length:=(by have:=congrArg (λst=>st.sto.length) f.2.2.1;grind [Jy,zU]);refine⟨⟨aT (lns (wN new (.arr true t rows) s1).sto) (.a (.c (.slr new))),ws++[(new,.arr true t.sz (rows.map (cel t)))]⟩,_,?_,rF ?_ d _,e⟩;grind [gV,dc,opR,run_bind,bI];rw[Cq,f.2.2.1,eR];rfl;rename_i g;have:own=false:=by simpa using g
 subst this;refine YM (v:=vl t rows) f ?_ e;grind [opR,run_bind,bI,e_l];cases e
def nK(s:TSt):Nat->Nat->Bool
 |_,0=>true
 |new,k+1=>(match s.sto[new]? with
  |some .dead=>true
  |_=>false)&&nK s (new+1) k
theorem po{s:TSt}: ∀{k new:Nat},nK s new k=true->(tO new k).run (Jy s)=some ()
 |0,_,_=>rfl
 |k+1,new,h=>by
  simp only[nK,aS]at h;obtain⟨h1,h2⟩:=h;split at h1;rename_i hd;simp only[tO,eG,eM,hd,cU,JO,aY];exact po h2;cases h1
theorem wZ{s:TSt}: ∀{k new:Nat},nK s new k=true-> ∀j,j<k->s.sto[new+j]?=some .dead
 |0,_,_,j,hj=>by omega
 |k+1,new,h,j,hj=>by
  simp only[nK,aS]at h;obtain⟨h1,h2⟩:=h;cases j with
  |zero=>
   grind
  |succ j=>
   have:=wZ h2 j (by omega);grind
theorem ZV{m:RM Eff}{d:Option Nat}{s:TSt}{k:TSt->Option R}{r:R}{new:Nat}{x:TB}(hd:s.sto[new]?=some .dead)(h0:lnB x=0)
  (hm:m.run (Jy s)=some ⟨.ptr new 0,[(new,aY (lns s.sto) x)]⟩) (h:k (bC d (.a (.c (.ptr new []))) (wS new x s))=some r):Ok m d s k r:=by
 refine KR (x:=x) (v:=.a (.c (.ptr new []))) (h0.trans (AC hd).symm) ?_ h;rw[hm];rfl
def Gy(t:Ty)(d:Option Nat)(new:Nat)(s:TSt)(k:TSt->Option R):Option R:=k (bC d (.a (.c (.ptr new []))) (wS new (.box t t.zero) s))
theorem JD9(F:Orc){t:Ty}{d:Option Nat}{new:Nat}{s:TSt}{k:TSt->Option R}{r:R}(hd:s.sto[new]?=some .dead)(h:Gy t d new s k=some r):Ok (opR F (.newbox (cel t t.zero)) new) d s k r:=
 ZV hd (x:=.box t t.zero) rfl rfl h
def kn(t:Ty)(x:TV)(d:Option Nat)(new:Nat)(s:TSt)(k:TSt->Option R):Option R:=
 match tdv t x with
 |some z=>if agv x=true\/t.sz=1 then k (bC d (.a (.c (.ptr new []))) (wS new (.box t z) s))else none
 |none=>match tcs x with|some cs=>if cs.length=t.sz then k (bC d (.a (.c (.ptr new []))) (wS new (.mbox t cs) s))else none|none=>none
theorem JJO(F:Orc){t:Ty}{x:TO}{v:TV}{d:Option Nat}{new:Nat}{s:TSt}{k:TSt->Option R}{r:R}(hd:s.sto[new]?=some .dead)(hx:tev x s=some v)(h:kn t v d new s k=some r):Ok (opR F (.box t.sz (erO x)) new) d s k r:=by
 unfold kn at h;split at h;rename_i z j;split at h;rename_i e;refine ZV hd (x:=.box t z) rfl ?_ h;simp only[opR,run_bind,bR hx,JO,gr (lns s.sto) j e,fK,eD,if_true,bI,aY];cases h;split at h;rename_i cs hc;split at h;rename_i g;refine ZV hd (x:=.mbox t cs) rfl ?_ h;simp only[opR,run_bind,bR hx,JO,LR (lns s.sto) hc,fK,g,if_true,bI,aY];cases h;cases h
def pE:List (Nat×Ty)->Nat->TSt->TSt|[],_,s=>s|(_,t)::r,n,s=>pE r (n+1) (wS n (.arr true t []) s)
def yP:List (Nat×Ty)->Nat->List TC->List TC|[],_,cs=>cs|(off,_)::r,n,cs=>yP r (n+1) (cs.set off (.slr n))
def kZ(os:List (Nat×Ty)):List (Nat×Nat):=os.map λx=>(x.1,x.2.sz)
theorem ef: ∀{os:List (Nat×Ty)} {new:Nat} {s:TSt},(∀j,j<os.length->s.sto[new+j]?=some .dead)->
  lns (pE os new s).sto=lns s.sto/\Jy (pE os new s)=⟨(Jy s).env,upd (gU (kZ os) new) (Jy s).sto⟩/\(∀b,(∀j,j<os.length->b≠new+j)->(pE os new s).sto[b]?=s.sto[b]?)
 |[],_,s,_=>⟨rfl,rfl,λ_ _=>rfl⟩
 |(off,t)::q,new,s,h=>by
  have hd:s.sto[new]?=some .dead:=h 0 (by simp);have k:lnB (.arr true t [])=lns s.sto new:=(AC hd).symm;have e:=FO k;have g: ∀c,c≠new->(wS new (.arr true t []) s).sto[c]?=s.sto[c]?:=λc hc=>by grind [wS]
  obtain⟨h1,h2,r⟩:=ef (os:=q) (new:=new+1) (s:=wS new (.arr true t []) s) (λj o=>by
   rw[g _ (by omega)];have:=h (j+1) (by simp;omega);grind)
  refine⟨h1.trans e,?_,λb n=>?_⟩;simp only[pE];rw[h2,zG k];simp only[kZ,bT,gU];rfl;simp only[pE];rw[r b (λj o=>by have:=n (j+1) (by simp;omega);omega),g b (by have:=n 0 (by simp);omega)]
theorem dz{L:Nat->Nat}: ∀{os:List (Nat×Ty)} {new:Nat} {cs:List TC},(∀j,j<os.length->L (new+j)=0)->(yP os new cs).map (aZ L)=lY (kZ os) new (cs.map (aZ L))
 |[],_,_,_=>rfl
 |(off,t)::q,new,cs,h=>by
  simp only[yP,kZ,bT,lY];rw[dz (os:=q) (new:=new+1) (λj e=>by have:=h (j+1) (by simp;omega);grind),List.map_set];have:aZ L (.slr new)=.slr new 0 0:=by simp only[aZ];rw[show L new=0 from h 0 (by simp)]
  rw[this];rfl
def e8(t:Ty)(os:List (Nat×Ty))(d:Option Nat)(new:Nat)(s:TSt)(k:TSt->Option R):Option R:=k (bC d (.a (.c (.ptr (new+os.length) []))) (wS (new+os.length) (.mbox t (yP os new (zcs t))) (pE os new s)))
theorem JAM(F:Orc){t:Ty}{os:List (Nat×Ty)}{d:Option Nat}{new:Nat}{s:TSt}{k:TSt->Option R}{r:R}(hd:nK s new (os.length+1)=true)(h:e8 t os d new s k=some r):
  Ok (opR F (.newboxo (cel t t.zero) (kZ os)) new) d s k r:=by
 unfold e8 at h;generalize hc:zcs t=cs at h;have g:=wZ hd;obtain⟨h1,h2,q⟩:=ef (os:=os) (new:=new) (s:=s) (λj o=>g j (by omega));have n:lnB (.mbox t (yP os new cs))=lns (pE os new s).sto (new+os.length):=by rw[h1,AC (g os.length (by omega))];rfl
 have e:=FO n;have el:(kZ os).length=os.length:=by simp[kZ]
 refine⟨⟨aT (lns (wS (new+os.length) (.mbox t (yP os new cs)) (pE os new s)).sto) (.a (.c (.ptr (new+os.length) []))),gU (kZ os) new++[(new+os.length,.box (lY (kZ os) new ((cel t t.zero).map .p)))]⟩,_,?_,rF ?_ d _,h⟩;simp only[opR,bI,el];rfl;rw[zG n,h2,eR];simp only[aY];rw[dz (λj o=>by rw[h1];grind [AC]),<-hc,FM];rfl
def dy(t:Ty)(parts:List (Nat×Ty×TO))(os:List (Nat×Ty))(d:Option Nat)(new:Nat)(s:TSt)(k:TSt->Option R):Option R:=
 match tpc parts s with
 |some l=>match KF l (yP os new (zcs t))with
  |some cs'=>match mka true t cs' with|some v=>k (bC d v (pE os new s))|none=>none
  |none=>none
 |none=>none
theorem JD4(F:Orc){t:Ty}{parts:List (Nat×Ty×TO)}{os:List (Nat×Ty)}{d:Option Nat}{new:Nat}{s:TSt}{k:TSt->Option R}{r:R}(hd:nK s new os.length=true)(h:dy t parts os d new s k=some r):
  Ok (opR F (.buildo (cel t t.zero) (erP parts) (kZ os)) new) d s k r:=by
 unfold dy at h;split at h;rename_i l w;have e:=wZ hd;obtain⟨h1,h2,x⟩:=ef (os:=os) (new:=new) (s:=s) (λj o=>e j (by omega));split at h;rename_i cs' g;split at h;rename_i v y;refine⟨⟨aT (lns (pE os new s).sto) v,gU (kZ os) new⟩,_,?_,rF h2 d _,h⟩;have n:=dz (L:=lns s.sto) (os:=os) (new:=new) (cs:=zcs t) (λj o=>AC (e j (by omega)));rw[FM]at n;have q:=fb (lns s.sto) g;grind [opR,run_bind,ZG,FL,bI];cases h;cases h;cases h
def C5(t:Ty)(d:Option Nat)(new:Nat)(s:TSt)(k:TSt->Option R):Option R:=k (bC d (.a (.c (.slr new))) (wN new (.arr true t []) s))
theorem JFi(F:Orc){t:Ty}{x:Opd}{d:Option Nat}{new:Nat}{s:TSt}{k:TSt->Option R}{r:R}(hn:new<s.sto.length)(h:C5 t d new s k=some r):Ok (opR F (.mkarr t.sz x) new) d s k r:=
 QM (rows:=[]) hn rfl h
def tyB:Option TB->Ty|some (.box t _)=>t|some (.mbox t _)=>t|_=>.u
def dk(t:Ty)(x:TV)(d:Option Nat)(new:Nat)(s:TSt)(k:TSt->Option R):Option R:=
 match x with
 | .a (.c (.ptr b p))=>match tA p,(match s.sto[b]? with
   |some (.box e y)=>yQ e y
   |some (.mbox _ cs)=>some cs
   |_=>none)with
  |some off,some cs=>match spl cs off [.slr new]with|some cs'=>k (bC d uv (wS b (.mbox (tyB s.sto[b]?) cs') (wS new (.arr true t []) s)))|none=>none
  |_,_=>none
 |_=>none
theorem JD3(F:Orc){t:Ty}{x:TO}{v:TV}{d:Option Nat}{new:Nat}{s:TSt}{k:TSt->Option R}{r:R}(hd:s.sto[new]?=some .dead)(hx:tev x s=some v)(h:dk t v d new s k=some r):Ok (opR F (.storen t.sz (erO x)) new) d s k r:=by
 unfold dk at h;split at h;rename_i b p;split at h;rename_i off cs B hc;split at h;rename_i cs' G;have o:lnB (.arr true t [])=lns s.sto new:=(AC hd).symm;have n:b≠new/\lns s.sto b=0/\(Jy s).sto[b]?=some (.box (cs.map (aZ (lns s.sto)))):=(by split at hc;rename_i A y g;refine⟨λe=>?_,QT g,?_⟩;simp_all;rw[eM,g,MC _ hc];rfl;rename_i A E g;injection hc with hc;subst hc;refine⟨λe=>?_,p8 g,?_⟩;simp_all;rw[eM,g];rfl;cases hc);obtain⟨D,w,g⟩:=n;have q:=FO o;have j:lnB (.mbox (tyB s.sto[b]?) cs')=lns (wS new (.arr true t []) s).sto b:=by rw[q,w];rfl
 refine⟨⟨aT (lns (wS b (.mbox (tyB s.sto[b]?) cs') (wS new (.arr true t []) s)).sto) uv,(new,.arr true t.sz [])::[(b,.box (cs'.map (aZ (lns s.sto))))]⟩,_,?_,rF ?_ d _,h⟩;have z:aZ (lns s.sto) (.slr new)=.slr new 0 0:=by grind [aZ,AC]
 have C:spl (cs.map (aZ (lns s.sto))) (spo p) [.slr new 0 0]=some (cs'.map (aZ (lns s.sto))):=by rw[<-z,FH B];have:=GD (aZ (lns s.sto)) cs off [TC.slr new];simp_all
 simp only[opR,run_bind,bR hx,JO,kJ,iA,eG,g,cellsOf,DV,List.length_nil,nA,if_true,C,bI];rfl;rw[zG j,zG o,q];rfl;cases h;cases h;cases h
def m9(c:Bool)(a b:Option TV)(kk:TV->Option R):Option R:=
 match a,b with
 |some (.a (.c (.d t x))),some (.a (.c (.d t' y)))=>if h:t'=t then kk (.a (.c (.d t (Z3 c x (h▸y)))))else none
 |some x,some y=>if c=true then kk x else kk y
 |some x,none=>if c=true then kk x else none
 |none,some y=>if c=true then none else kk y
 |none,none=>none
theorem JJ2(F:Orc){c a b:TO}{x:Bool}{d:Option Nat}{new:Nat}{s:TSt}{k:TSt->Option R}{r:R}(hc:tev c s=some (vb x))(h:m9 x (tev a s) (tev b s) (λv=>k (bC d v s))=some r):Ok (opR F (.pick (erO c) (erO a) (erO b)) new) d s k r:=by
 have e: ∃v,(if x=true then tev a s else tev b s)=some v/\k (bC d v s)=some r:=by
  unfold m9 at h;split at h;rename_i t y t' z n j;split at h;rename_i g;subst g;refine⟨_,?_,h⟩;rw[n,j];cases x<;>rfl
  cases h
  all_goals grind
 obtain⟨v,h1,h2⟩:=e;refine fF (v:=v) ?_ h2;simp only[opR,run_bind,bR hc,JO,e_b];grind [run_bind,bR,bI]
def tcl:List TO->TSt->Option (List TC)
 |[],_=>some []
 |o::r,s=>match tev o s with
  |some (.a (.c x))=>match tcl r s with|some l=>some (x::l)|none=>none
  |_=>none
theorem Ea{s:TSt}: ∀{xs:List TO} {l:List TC},tcl xs s=some l->(evs (xs.map erO)).run (Jy s)=some (l.map (aZ (lns s.sto)))
 |[],l,h=>by injection h with h;subst h;rfl
 |o::q,l,h=>by
  simp only[tcl]at h;split at h;rename_i x g;split at h;rename_i l' e;injection h with h;subst h;simp only[bT,evs,run_bind,bR g,JO,Ea e,bI];rfl;cases h;cases h
def l9(x:TV)(kk:TV->Option R):Option R:=
 match x with
 | .a (.c (.ptr b p))=>kk (.a (.c (.ptr b p)))
 | .a (.c (.cp t y p))=>kk (.a (.c (.cp t y p)))
 | .a (.c (.ep b i p))=>kk (.a (.c (.ep b i p)))
 | .a (.fn f a c)=>kk (.a (.fn f a c))
 | .a (.c (.fn f))=>kk (.a (.c (.fn f)))
 |_=>none
theorem JJS(F:Orc){x:TO}{v:TV}{d:Option Nat}{new:Nat}{s:TSt}{k:TSt->Option R}{r:R}(hx:tev x s=some v)(h:l9 v (λv=>k (bC d v s))=some r):Ok (opR F (.nilchk (erO x)) new) d s k r:=by
 unfold l9 at h;split at h<;>first
  |(refine fF (v:=_) ?_ h
    simp only[opR,run_bind,bR hx,JO,kJ,mB,lX,mc,B1,bI];done)
  |cases h
end
end Go.Am
end
section
namespace Go.Am
section
variable {R:Type}
def li(keep:Bool)(v:TV)(s:TSt)(kk:TA->TSt->Option R):Option R:=
 match v with
 | .a x=>if keep=true then kk x s else
  match x with
  | .c (.slr b)=>match s.sto[b]? with|some (.arr _ t' rows)=>kk (.c (.d (.l t') rows)) (wS b (.arr false t' rows) s)|_=>none
  | .c (.slo _ _)=>none
  | .m t cs=>fzC t cs s λx s'=>kk (.dt t x) s'
  |x=>kk x s
 | .tup _=>none
def KH:List (TV×Bool)->TSt->(List TA->TSt->Option R)->Option R|[],s,kk=>kk [] s|(v,keep)::r,s,kk=>li keep v s λx s=>KH r s λl s=>kk (x::l) s
theorem JKB{keep:Bool}{v:TV}{s0 s:TSt}{w0:List (Nat×Blk)}{kk:TA->TSt->Option R}{r:R}(f:Fzd s0 s w0)(h:li keep v s kk=some r):
  ∃x s' ws,(if keep=true then RM.ret (aT (lns s0.sto) v,[])else jB (aT (lns s0.sto) v)).run (Jy s0)=some (bQ (lns s0.sto) x,ws)/\Fzd s0 s' (w0++ws)/\kk x s'=some r:=by
 unfold li at h;split at h;rename_i x;split at h;rename_i g;subst g;exact⟨x,s,[],rfl,by simp_all,h⟩;rename_i g;have:keep=false:=by simpa using g
 subst this;simp only[eJ,if_false];split at h;rename_i b;split at h;rename_i w t' rows j;obtain⟨w',e⟩:=f.2.2.2.1 b _ rows w j;refine⟨_,_,[(b,.arr false t'.sz (rows.map (cel t')))],?_,f.trans (cm j),h⟩;simp only[gV,jB,fz,run_bind,eG,eM,e,cU,JO,aY,nZ e,fK,nA,if_true,DL,bI];rfl;cases h;cases h;obtain⟨y,s',ws,h1,h2,k⟩:=LV f h;refine⟨_,s',ws,?_,h2,k⟩;simp only[e_m,jB,fz,run_bind,h1,JO,bI];rfl;rename_i q z o;refine⟨x,s,[],?_,by simp_all,h⟩;cases x with
 |c x=>
  cases x with
  |slr b=>simp_all
  |slo b n=>simp_all
  |_=>rfl
 |m t cs=>simp_all
 |_=>rfl
 cases h
theorem eh: ∀{vs:List (TV×Bool)} {s0 s:TSt} {w0:List (Nat×Blk)} {kk:List TA->TSt->Option R} {r:R},Fzd s0 s w0->KH vs s kk=some r->
  ∃xs s' ws,(fC (vs.map (·.2)) (vs.map λx=>aT (lns s0.sto) x.1)).run (Jy s0)=some (xs.map (bQ (lns s0.sto)),ws)/\Fzd s0 s' (w0++ws)/\kk xs s'=some r
 |[],s0,s,w0,kk,r,f,h=>⟨[],s,[],rfl,by simp_all,h⟩
 |(v,keep)::q,s0,s,w0,kk,r,f,h=>by simp only[KH]at h;obtain⟨x,s1,j,h1,e,h⟩:=JKB f h;obtain⟨xs,g,k,h2,n,h⟩:=eh e h;refine⟨x::xs,g,j++k,?_,by simp_all,h⟩;cases keep<;>simp_all [fC]
theorem TM: ∀(vs:List AV),fC [] vs=kK vs|[]=>rfl|x::r=>by simp only[fC,kK,TM r]
theorem NH: ∀(m:List Bool) (vs:List AV),(∀x∈m,x=false)->fC m vs=kK vs|[],vs,_=>TM vs|b::m,[],_=>rfl|b::m,x::r,h=>by have:b=false:=h b (by simp);subst this;simp only[fC,kK,NH m r (λx e=>h x (by simp[e]))]
def IV(b:Nat)(l:List Nat):List Nat:=if l.any (λx=>x==b)=true then l else l++[b]
def OW(x:TC)(l:List Nat):Option (List Nat):=
 match x with
 | .ptr b _=>some (IV b l)
 | .slr b=>some (IV b l)
 | .slo b _=>some (IV b l)
 | .ep _ _ _=>none
 | .epo _ _ _ _=>none
 |_=>some l
def vW:List TC->List Nat->Option (List Nat)|[],l=>some l|x::r,l=>match OW x l with|some l=>vW r l|none=>none
def ny(x:TA)(l:List Nat):Option (List Nat):=
 match x with
 | .c x=>OW x l
 | .dt _ _=>some l
 | .m _ cs=>vW cs l
 | .fn _ a c=>match vW a l with|some l=>vW c l|none=>none
def FK:List TA->List Nat->Option (List Nat)|[],l=>some l|x::r,l=>match ny x l with|some l=>FK r l|none=>none
def wI(s:TSt):List Nat->List Nat->Option (List Nat)
 |[],acc=>some acc
 |b::r,acc=>match s.sto[b]? with
  |some (.mbox _ cs)=>match vW cs acc with|some acc=>wI s r acc|none=>none
  |some _=>wI s r acc
  |none=>none
theorem He(b:Nat)(l:List Nat):wO (.whole b) (l.map .whole)=(IV b l).map .whole:=by
 grind [wO,IV]
section
variable (L:Nat->Nat)
theorem qo{x:TC}{l l':List Nat}(h:OW x l=some l'):cJ (aZ L x) (l.map .whole)=l'.map .whole:=by
 unfold OW at h;split at h<;>first
  |(injection h with h;subst h;simp only[aZ,cJ,He];done)
  |(cases h;done)
  |skip
 injection h with h;subst h;rename_i j k o q g;cases x with
 |ptr b p=>simp_all
 |slr b=>simp_all
 |slo b n=>simp_all
 |ep b i p=>simp_all
 |epo b e i p=>grind
 |_=>rfl
theorem MT: ∀{xs:List TC} {l l':List Nat},vW xs l=some l'->cJ.entsOfL (xs.map (aZ L)) (l.map .whole)=l'.map .whole
 |[],l,l',h=>by injection h with h;subst h;rfl
 |x::r,l,l',h=>by
  simp only[vW]at h;split at h;rename_i e h1;simp only[bT,cJ.entsOfL,qo L h1];exact MT h;cases h
theorem JIq{x:TA}{l l':List Nat}(h:ny x l=some l'):cJ (bQ L x) (l.map .whole)=l'.map .whole:=by
 cases x with
 |c x=>exact qo L h
 |dt t x=>injection h with h;subst h;rfl
 |m t cs=>exact MT L h
 |fn f a c=>
  simp only[ny]at h;split at h
  all_goals simp_all [bQ,MT]
theorem SN: ∀{xs:List TA} {l l':List Nat},FK xs l=some l'->cJ.entsOfL (xs.map (bQ L)) (l.map .whole)=l'.map .whole
 |[],l,l',h=>by injection h with h;subst h;rfl
 |x::r,l,l',h=>by
  simp only[FK]at h;split at h;rename_i e h1;simp only[bT,cJ.entsOfL,JIq L h1];exact SN h;cases h
end
theorem eu{s0 s1:TSt}{ws:List (Nat×Blk)}(f:Fzd s0 s1 ws){b:Nat}{y:TB}(h:s1.sto[b]?=some y):(qO ws b).run (Jy s0)=some (aY (lns s0.sto) y):=by
 have h1:(Jy s1).sto[b]?=some (aY (lns s0.sto) y):=by rw[eM,h,f.2.1];rfl
 rw[f.2.2.1]at h1;grind [zU,wR,qO,eG,bI]
theorem AH{s0 s1:TSt}{ws:List (Nat×Blk)}(f:Fzd s0 s1 ws): ∀{r acc l:List Nat},wI s1 r acc=some l->(eB ws (r.map .whole) (acc.map .whole)).run (Jy s0)=some (l.map .whole)
 |[],acc,l,h=>by injection h with h;subst h;rfl
 |b::r,acc,l,h=>by
  simp only[wI]at h;split at h;rename_i cs e;split at h;rename_i g j;simp only[bT,eB,run_bind,eu f e,JO,aY,MT (lns s0.sto) j];exact AH f h;cases h;rename_i x k e;simp only[bT,eB,run_bind,eu f e,JO];cases x with
  |mbox t cs=>simp_all
  |box t x=>simp only[aY];rw[ss];exact AH f h
  |_=>exact AH f h
  cases h
end
end Go.Am
end
section
namespace Go.Am
def kCs(K:List Nat)(L:Nat->Nat):TC->TC| .slr c=>if K.any (λx=>x==c)=true then .slo c (L c)else .slr c| .ep c i p=>if K.any (λx=>x==c)=true then .epo c (L c) i p else .ep c i p|x=>x
def kAs(K:List Nat)(L:Nat->Nat):TA->TA| .c x=>.c (kCs K L x)| .dt t x=>.dt t x| .m t cs=>.m t (cs.map (kCs K L))| .fn f a c=>.fn f (a.map (kCs K L)) (c.map (kCs K L))
def kVs(K:List Nat)(L:Nat->Nat):TV->TV| .a x=>.a (kAs K L x)| .tup vs=>.tup (vs.map (kAs K L))
def kBs(K:List Nat)(L:Nat->Nat):TB->TB| .mbox t cs=>.mbox t (cs.map (kCs K L))|x=>x
section
variable {K:List Nat} {L L':Nat->Nat} (h: ∀c,K.any (λx=>x==c)=false->L' c=L c)
include h
theorem A6(x:TC):aZ L' (kCs K L x)=aZ L x:=by cases x<;>grind [kCs,aZ]
theorem Ci(xs:List TC):(xs.map (kCs K L)).map (aZ L')=xs.map (aZ L):=by
 grind [List.map_congr_left,A6]
theorem Zz(x:TA):bQ L' (kAs K L x)=bQ L x:=by cases x<;>simp only[kAs,bQ,A6 h,Ci h]
theorem JOK(x:TV):aT L' (kVs K L x)=aT L x:=by cases x<;>simp only[kVs,aT,Zz h,yR,Function.comp_def]
theorem Z1(x:TB):aY L' (kBs K L x)=aY L x:=by cases x<;>simp only[kBs,aY,Ci h]
end
theorem JKS(K:List Nat)(L:Nat->Nat)(x:TB):lnB (kBs K L x)=lnB x:=by cases x<;>rfl
theorem JKA(sto:List TB)(K:List Nat)(L:Nat->Nat)(c:Nat):lns (sto.map (kBs K L)) c=lns sto c:=by
 unfold lns;rw[fT];cases sto[c]? with
 |none=>rfl
 |some x=>exact JKS K L x
def vL(ws:List (Nat×Bool×TB))(sto:List TB):List TB:=ws.foldl (λσ x=>σ.set x.1 x.2.2) sto
def mZ(ws:List (Nat×Bool×TB))(s:TSt):TSt:=
 match ws with
 |[]=>s
 |ws=>
  let K:=(ws.filter λx=> !x.2.1).map (·.1)
  ⟨s.env.map λy=>(y.1,kVs K (lns s.sto) y.2),vL ws (s.sto.map (kBs K (lns s.sto)))⟩
theorem fm: ∀{ws:List (Nat×Bool×TB)} {sto:List TB} {c:Nat},c∉ws.map (·.1)->(vL ws sto)[c]?=sto[c]?|[],_,_,_=>rfl|x::ws,sto,c,h=>by simp only[bT,cS,not_or]at h;show(vL ws (sto.set x.1 x.2.2))[c]?=_;rw[fm h.2,HU (λe=>h.1 e.symm)]
theorem Eu: ∀{ws:List (Nat×Bool×TB)} {sto:List TB},(ws.map (·.1)).Nodup-> ∀x∈ws,x.1<sto.length->(vL ws sto)[x.1]?=some x.2.2
 |[],_,_,x,e,_=>by cases e
 |y::ws,sto,g,x,e,h=>by
  simp only[bT,List.nodup_cons]at g;show(vL ws (sto.set y.1 y.2.2))[x.1]?=_;rcases cS.1 e with rfl|e;grind [fm];exact Eu g.2 x e (by simpa using h)
theorem qc(f:TB->Blk): ∀(ws:List (Nat×Bool×TB)) (sto:List TB),(vL ws sto).map f=upd (ws.map λx=>(x.1,f x.2.2)) (sto.map f)
 |[],_=>rfl
 |x::ws,sto=>by show(vL ws (sto.set x.1 x.2.2)).map f=upd (ws.map λx=>(x.1,f x.2.2)) ((sto.map f).set x.1 (f x.2.2));rw[qc f ws,List.map_set]
theorem JKW{ws:List (Nat×Bool×TB)}{s:TSt}(hn:(ws.map (·.1)).Nodup)(hl: ∀x∈ws,x.1<s.sto.length)(hf: ∀x∈ws,x.2.1=true->lnB x.2.2=lns s.sto x.1):
  Jy (mZ ws s)=⟨(Jy s).env,upd (ws.map λx=>(x.1,aY (lns (mZ ws s).sto) x.2.2)) (Jy s).sto⟩/\ ∀x∈ws,lns (mZ ws s).sto x.1=lnB x.2.2:=by
 cases ws with
 |nil=>exact⟨rfl,λx g=>by cases g⟩
 |cons x0 j=>
  generalize k:x0::j=ws at*;have e:mZ ws s=⟨s.env.map λy=>(y.1,kVs ((ws.filter λx=> !x.2.1).map (·.1)) (lns s.sto) y.2),vL ws (s.sto.map (kBs ((ws.filter λx=> !x.2.1).map (·.1)) (lns s.sto)))⟩:=by subst k;rfl
  have h: ∀x∈ws,lns (mZ ws s).sto x.1=lnB x.2.2:=λx g=>by rw[e];unfold lns;rw[Eu hn x g (by grind)];rfl
  have o: ∀c,((ws.filter λx=> !x.2.1).map (·.1)).any (λx=>x==c)=false->lns (mZ ws s).sto c=lns s.sto c:=(by intro c hc;by_cases n:c∈ws.map (·.1);obtain⟨x,g,rfl⟩:=jC.1 n;grind;rw[e];have:=JKA s.sto ((ws.filter λx=> !x.2.1).map (·.1)) (lns s.sto) c;grind [lns,fm]);refine⟨?_,h⟩;generalize hL:lns (mZ ws s).sto=L' at*;unfold Jy;rw[hL,e];grind [fO,List.map_congr_left,JOK,qc,Z1]
theorem Ep(b:Nat): ∀(ids:List Nat) (k:Nat),dG (.whole b) (ids.map .whole) k=eI b ids k
 |[],_=>rfl
 |x::r,k=>by
  simp only[bT,dG,eI];by_cases h:x=b;subst h;simp;simp[h,Ep b r (k+1)]
def PB(ids:List Nat):TC->Option TC| .ptr b p=>(eI b ids 0).bind λk=>some (.ptr k p)| .slr b=>(eI b ids 0).bind λk=>some (.slr k)| .slo b n=>(eI b ids 0).bind λk=>some (.slo k n)| .ep _ _ _=>none| .epo _ _ _ _=>none|x=>some x
def zD(ids:List Nat):List TC->Option (List TC)|[]=>some []|x::r=>match PB ids x,zD ids r with|some y,some l=>some (y::l)|_,_=>none
def KP(ids:List Nat):TA->Option TA
 | .c x=>match PB ids x with|some y=>some (.c y)|none=>none
 | .dt t x=>some (.dt t x)
 | .m t cs=>match zD ids cs with|some l=>some (.m t l)|none=>none
 | .fn f a c=>match zD ids a,zD ids c with|some a,some c=>some (.fn f a c)|_,_=>none
def QA(ids:List Nat):List TA->Option (List TA)|[]=>some []|x::r=>match KP ids x,QA ids r with|some y,some l=>some (y::l)|_,_=>none
def YT(ids:List Nat):TB->Option TB
 | .box t x=>some (.box t x)
 | .mbox t cs=>match zD ids cs with|some l=>some (.mbox t l)|none=>none
 | .arr w t rows=>some (.arr w t rows)
 | .dead=>none
def wQ(ids:List Nat)(s:TSt):List Nat->Option (List TB)
 |[]=>some []
 |b::r=>match s.sto[b]? with
  |some x=>match YT ids x,wQ ids s r with|some y,some l=>some (y::l)|_,_=>none
  |none=>none
section
variable {ids:List Nat} {L L':Nat->Nat} (hL: ∀b k,eI b ids 0=some k->L' k=L b)
include hL
theorem pq{x y:TC}(h:PB ids x=some y):ren (λe=>dG e (ids.map .whole) 0) (aZ L x)=some (aZ L' y):=by
 cases x<;>simp only[PB]at h<;>first
  |(obtain⟨k,g,h⟩:=bK.1 h
    injection h with h;subst h;simp only[aZ,ren,Ep,g,cU]
    try rw[hL _ _ g]
    done)
  |(injection h with h;subst h;rfl)
  |cases h
theorem SB: ∀{xs g:List TC},zD ids xs=some g->ren.renL (λe=>dG e (ids.map .whole) 0) (xs.map (aZ L))=some (g.map (aZ L'))
 |[],g,h=>by injection h with h;subst h;rfl
 |x::r,g,h=>by
  simp only[zD]at h;split at h;rename_i y l k j;injection h with h;subst h;simp only[bT,ren.renL,pq hL k,SB j];cases h
theorem JI8{x y:TA}(h:KP ids x=some y):ren (λe=>dG e (ids.map .whole) 0) (bQ L x)=some (bQ L' y):=by
 cases x with
 |c x=>
  simp only[KP]at h;split at h;rename_i y g;injection h with h;subst h;exact pq hL g;cases h
 |dt t x=>injection h with h;subst h;rfl
 |m t cs=>
  grind [KP,bQ,ren,SB]
 |fn f a c=>
  grind [KP,bQ,ren,SB]
theorem r9: ∀{xs g:List TA},QA ids xs=some g->ren.renL (λe=>dG e (ids.map .whole) 0) (xs.map (bQ L))=some (g.map (bQ L'))
 |[],g,h=>by injection h with h;subst h;rfl
 |x::r,g,h=>by
  simp only[QA]at h;split at h;rename_i y l k j;injection h with h;subst h;simp only[bT,ren.renL,JI8 hL k,r9 j];cases h
theorem ta{s0 s1:TSt}{ws:List (Nat×Blk)}(f:Fzd s0 s1 ws)(j:lns s0.sto=L): ∀{k:List Nat} {bl:List TB},wQ ids s1 k=some bl->
  (kQ ws (λe=>dG e (ids.map .whole) 0) (k.map .whole)).run (Jy s0)=some (bl.map (aY L'))
 |[],bl,h=>by injection h with h;subst h;rfl
 |b::r,bl,h=>by
  simp only[wQ]at h;split at h;rename_i x o;split at h;rename_i y l g q;injection h with h;subst h;have ih:=ta f j q;have n:=eu f o;rw[j]at n;simp only[bT,kQ,zC,run_bind,n,JO];cases x with
  |dead=>cases g
  |box t x=>injection g with g;grind [r6,XE,aY,bI]
  |mbox t cs=>
   grind [YT,aY,SB,bI]
  |arr w t rows=>injection g with g;grind [aY,bI]
  cases h;cases h
end
theorem ug{ids:List Nat}{s:TSt}: ∀{g:List Nat} {bl:List TB},wQ ids s g=some bl->bl.length=g.length/\ ∀(k b:Nat),g[k]?=some b->lns bl k=lns s.sto b
 |[],bl,h=>by injection h with h;simp_all
 |b::r,bl,h=>by
  simp only[wQ]at h;split at h;rename_i x n;split at h;rename_i y l e o;injection h with h;subst h;obtain⟨h1,h2⟩:=ug o;refine⟨by simp[h1],λk c j=>?_⟩;cases k with
  |zero=>
   simp at j;subst j;unfold lns;rw[n];show lnB y=lnB x;cases x with
   |dead=>cases e
   |box t x=>injection e with e;subst e;rfl
   |mbox t cs=>
    simp only[YT]at e;split at e;injection e with e;subst e;rfl;cases e
   |arr w t rows=>injection e with e;subst e;rfl
  |succ k=>
   grind [lns]
  cases h;cases h
def eX(ids:List Nat)(new m k:Nat):Option Nat:=if k<ids.length then ids[k]? else if k<m then some (new+(k-ids.length))else none
def WD(ids:List Nat)(new m:Nat):TC->Option TC| .ptr k p=>(eX ids new m k).bind λb=>some (.ptr b p)| .slr k=>(eX ids new m k).bind λb=>some (.slr b)| .slo k n=>(eX ids new m k).bind λb=>some (.slo b n)| .ep k i p=>(eX ids new m k).bind λb=>some (.ep b i p)| .epo k e i p=>(eX ids new m k).bind λb=>some (.epo b e i p)|x=>some x
def yX(ids:List Nat)(new m:Nat):List TC->Option (List TC)|[]=>some []|x::r=>match WD ids new m x,yX ids new m r with|some y,some l=>some (y::l)|_,_=>none
def WT(ids:List Nat)(new m:Nat):TA->Option TA
 | .c x=>match WD ids new m x with|some y=>some (.c y)|none=>none
 | .dt t x=>some (.dt t x)
 | .m t cs=>match yX ids new m cs with|some l=>some (.m t l)|none=>none
 | .fn f a c=>match yX ids new m a,yX ids new m c with|some a,some c=>some (.fn f a c)|_,_=>none
def PL(ids:List Nat)(new m:Nat):List TA->Option (List TA)|[]=>some []|x::r=>match WT ids new m x,PL ids new m r with|some y,some l=>some (y::l)|_,_=>none
def l8(ids:List Nat)(new m:Nat):TV->Option TV
 | .a x=>match WT ids new m x with|some y=>some (.a y)|none=>none
 | .tup vs=>match PL ids new m vs with|some l=>some (.tup l)|none=>none
def yT(ids:List Nat)(new m:Nat):TB->Option TB
 | .box t x=>some (.box t x)
 | .mbox t cs=>match yX ids new m cs with|some l=>some (.mbox t l)|none=>none
 | .arr w t rows=>some (.arr w t rows)
 | .dead=>none
section
variable {ids:List Nat} {new m:Nat} {L Lp:Nat->Nat} (hL: ∀k b,eX ids new m k=some b->Lp b=L k)
theorem JNg{k b o:Nat}(h:eX ids new m k=some b):bk (ids.map .whole) new (.ptr k o)=some (.ptr b o):=by
 grind [eX,bk]
theorem JMu{k b i n:Nat}(h:eX ids new m k=some b):bk (ids.map .whole) new (.slr k i n)=some (.slr b i n):=by
 grind [eX,bk]
theorem JNx{k b e i o:Nat}(h:eX ids new m k=some b):bk (ids.map .whole) new (.ep k e i o)=some (.ep b e i o):=by
 grind [eX,bk]
include hL
theorem Fg{x y:TC}(h:WD ids new m x=some y):bk (ids.map .whole) new (aZ L x)=some (aZ Lp y):=by
 cases x<;>simp only[WD]at h<;>first
  |(obtain⟨b,e,h⟩:=bK.1 h
    injection h with h;subst h;simp only[aZ,JNg e,JMu e,JNx e,hL _ _ e]
    done)
  |(injection h with h;subst h;rfl)
theorem RD: ∀{xs e:List TC},yX ids new m xs=some e->bk.bkL (ids.map .whole) new (xs.map (aZ L))=some (e.map (aZ Lp))
 |[],e,h=>by injection h with h;subst h;rfl
 |x::r,e,h=>by
  simp only[yX]at h;split at h;rename_i y l j g;injection h with h;subst h;simp only[bT,bk.bkL,Fg hL j,RD g];cases h
theorem Ga{x y:TA}(h:WT ids new m x=some y):bk (ids.map .whole) new (bQ L x)=some (bQ Lp y):=by cases x<;>grind [WT,Fg,bQ,bk,RD]
theorem o8: ∀{xs e:List TA},PL ids new m xs=some e->bk.bkL (ids.map .whole) new (xs.map (bQ L))=some (e.map (bQ Lp))
 |[],e,h=>by injection h with h;subst h;rfl
 |x::r,e,h=>by
  simp only[PL]at h;split at h;rename_i y l j g;injection h with h;subst h;simp only[bT,bk.bkL,Ga hL j,o8 g];cases h
theorem JJK{x y:TV}(h:l8 ids new m x=some y):bk (ids.map .whole) new (aT L x)=some (aT Lp y):=by cases x<;>grind [l8,Ga,aT,bk,o8]
end
end Go.Am
end
section
namespace Go.Am
structure TG where
 go: ∀{R:Type},FuncId->List TA->List TB->(TV->List (Bool×TB)->Option R)->Option R
def oN(out:List (Bool×TB)):Nat->Nat:=lns (out.map (·.2))
structure GOk(F:Orc)(G:TG):Prop where
 ok: ∀{R:Type} {f:FuncId} {xs:List TA} {bl:List TB} {kk:TV->List (Bool×TB)->Option R} {r:R},G.go f xs bl kk=some r->
  ∃v out,F f (xs.map (bQ (lns bl))) (bl.map (aY (lns bl)))=some (aT (oN out) v,out.map λx=>aY (oN out) x.2)/\
   (∀(k:Nat) x,out[k]?=some (true,x)->k<bl.length->lnB x=lns bl k)/\kk v out=some r
def pB(ids:List Nat)(new m:Nat):Nat->List (Bool×TB)->Option (List (Nat×Bool×TB))|_,[]=>some []|k,(s,x)::r=>match eX ids new m k,yT ids new m x,pB ids new m (k+1) r with|some b,some y,some l=>some ((b,s&&decide (k<ids.length),y)::l)|_,_,_=>none
section
variable {R:Type}
def nb(e:Bool)(a b n:Nat):Bool:=if e=true then decide (a<=b/\b<=a+n)else decide (b=a+n)
theorem JFJ{e:Bool}{a b n:Nat}(h:nb e a b n=true):(if e=true then a<=b/\b<=a+n else b=a+n)/\a<=b/\b<=a+n:=by
 grind [nb]
def EP(G:TG)(f:FuncId)(args:List (TV×Bool))(e:Bool)(n:Nat)(d:Option Nat)(new:Nat)(s:TSt)(kk:TSt->Option R):Option R:=
 KH args s λxs s1=>
 match FK xs []with
 |none=>none
 |some g=>match wI s1 g g with
  |none=>none
  |some i1=>match wI s1 i1 i1 with
   |none=>none
   |some ids=>if jL ids=true then
    match QA ids xs,wQ ids s1 ids with
    |some j,some bl=>G.go f j bl λv out=>
     if nb e ids.length out.length n=true then
      match l8 ids new out.length v,pB ids new out.length 0 out with
      |some h,some ws=>if jL (ws.map (·.1))=true then kk (bC d h (mZ ws s1))else none
      |_,_=>none
     else none
    |_,_=>none
    else none
theorem o5{ids:List Nat}{new m:Nat}{x y:TB}(h:yT ids new m x=some y):lnB y=lnB x:=by
 cases x with
 |dead=>cases h
 |box t x=>injection h with h;subst h;rfl
 |mbox t cs=>
  simp only[yT]at h;split at h;injection h with h;subst h;rfl;cases h
 |arr w t rows=>injection h with h;subst h;rfl
theorem qp{ids:List Nat}{new m:Nat}: ∀{k:Nat} {out:List (Bool×TB)} {ws:List (Nat×Bool×TB)},pB ids new m k out=some ws->
  ws.length=out.length/\ ∀(j:Nat) s x,out[j]?=some (s,x)-> ∃b y,eX ids new m (k+j)=some b/\yT ids new m x=some y/\ws[j]?=some (b,s&&decide (k+j<ids.length),y)
 |k,[],ws,h=>by injection h with h;simp_all
 |k,(s,x)::r,ws,h=>by
  simp only[pB]at h;split at h;rename_i b y l q o e;injection h with h;subst h;obtain⟨h1,h2⟩:=qp e;refine⟨by simp[h1],λj s' g n=>?_⟩;cases j<;>grind
  cases h
theorem JJ1{l:List Nat}(h:jL l=true):l.Nodup:=TI h
theorem JB4{ids:List Nat}(h:jL ids=true):jL ((ids.map Ent.whole).map Ent.id)=true:=by rw[yR,show Ent.id∘Ent.whole=id from rfl,List.map_id];exact h
theorem px{ids:List Nat}{new m:Nat}{L Lp:Nat->Nat}(hL: ∀k b,eX ids new m k=some b->Lp b=L k){ws0:List (Nat×Blk)}{st:St}: ∀{j:Nat} {es:List Nat} {out:List (Bool×TB)} {ws:List (Nat×Bool×TB)},
  (∀(i:Nat) b,es[i]?=some b->ids[j+i]?=some b)->j+es.length=ids.length->es.length<=out.length->pB ids new m j out=some ws->
  (iS ws0 (ids.map .whole) new (es.map .whole) (out.map λx=>aY L x.2)).run st=some ((ws.take es.length).map λx=>(x.1,aY Lp x.2.2))
 |j,[],out,ws,_,_,_,h=>by simp[iS]
 |j,b::es,[],ws,_,_,hl,h=>by simp at hl
 |j,b::es,(s,x)::out,ws,he,hj,hl,h=>by
  simp only[pB]at h;split at h;rename_i e y l r v n;injection h with h;subst h;have ih:=px hL (ws0:=ws0) (st:=st) (j:=j+1) (es:=es) (out:=out) (ws:=l) (λi c hc=>by
   have:=he (i+1) c (by simpa using hc);grind) (by grind) (by simpa using hl) n
  have g:e=b:=(by have q:=he 0 b (by simp);grind [eX]);subst g;simp only[bT,iS,run_bind];have o:(tY ws0 (ids.map .whole) new (.whole e) (aY L x)).run st=some (e,aY Lp y):=by cases x<;>grind [FJ,tY,gq,XE,bI,yT,MD,RD,YQ]
  simp_all;cases h
theorem pv{ids:List Nat}{new m:Nat}{L Lp:Nat->Nat}(hL: ∀k b,eX ids new m k=some b->Lp b=L k): ∀{j:Nat} {out:List (Bool×TB)} {ws:List (Nat×Bool×TB)},
  pB ids new m (ids.length+j) out=some ws->gW (ids.map .whole) new (new+j) (out.map λx=>aY L x.2)=some (ws.map λx=>(x.1,aY Lp x.2.2))
 |j,[],ws,h=>by injection h with h;subst h;rfl
 |j,(s,x)::out,ws,h=>by
  simp only[pB]at h;split at h;rename_i o y l q e n;injection h with h;subst h;have ih:=pv hL (j:=j+1) n;have g:o=new+j:=(by grind [eX]);subst g;cases x with
  |dead=>cases e
  |box t x=>injection e with e;grind [FJ,gW,gq,XE]
  |mbox t cs=>
   grind [yT,MD,gW,RD]
  |arr w t rows=>injection e with e;grind [YQ,gW]
  cases h
theorem tv{ids:List Nat}{new m:Nat}: ∀{n k:Nat} {out:List (Bool×TB)} {ws:List (Nat×Bool×TB)},pB ids new m k out=some ws->pB ids new m (k+n) (out.drop n)=some (ws.drop n)
 |0,k,out,ws,h=>h
 |n+1,k,[],ws,h=>by injection h with h;subst h;rfl
 |n+1,k,(s,x)::out,ws,h=>by
  simp only[pB]at h;split at h;rename_i b y l j g e;injection h with h;subst h;have:=tv (n:=n) e;grind;cases h
theorem TS{F:Orc}{G:TG}(hG:GOk F G){f:FuncId}{args:List (TV×Bool)}{A:Bool}{n:Nat}{d:Option Nat}{new:Nat}{s:TSt}{kk:TSt->Option R}{r:R}
  (hd:nK s new n=true) (h:EP G f args A n d new s kk=some r):
  ∃xs ws B es z blks v res E fresh,(fC (args.map (·.2)) (args.map λx=>aT (lns s.sto) x.1)).run (Jy s)=some (xs,ws)/\
   (eB ws (cJ.entsOfL xs []) (cJ.entsOfL xs [])).run (Jy s)=some B/\(eB ws B B).run (Jy s)=some es/\jL (es.map Ent.id)=true/\
   ren.renL (λe=>dG e es 0) xs=some z/\(kQ ws (λe=>dG e es 0) es).run (Jy s)=some blks/\F f z blks=some res/\
   (if A=true then es.length<=res.2.length/\res.2.length<=es.length+n else res.2.length=es.length+n)/\bk es new res.1=some v/\gW es new new (res.2.drop es.length)=some fresh/\
   (iS ws es new es res.2).run (Jy s)=some E/\ ∃s',put d ⟨v,ws++E++fresh⟩ (Jy s)=Jy s'/\kk s'=some r:=by
 unfold EP at h;obtain⟨xs,s1,ws,h1,q,h⟩:=eh (Fzd.refl s) h;rw[jA]at q;split at h;cases h;rename_i i0 V;split at h;cases h;rename_i i1 S;split at h;cases h;rename_i ids M;split at h;rename_i Y;split at h;rename_i ys bl U L;obtain⟨v,out,hF,a1,h⟩:=hG.ok h;split at h;rename_i hlen;split at h;rename_i O g W o;split at h;rename_i N;have e0:cJ.entsOfL (xs.map (bQ (lns s.sto))) []=i0.map .whole:=SN (lns s.sto) (l:=[]) V;have e1:=AH q S;have e2:=AH q M;obtain⟨ak,Z⟩:=ug L;have hL: ∀b k,eI b ids 0=some k->lns bl k=lns s.sto b:=by intro b k P;obtain⟨_,P⟩:=SR P;rw[Z k b (by simpa using P),q.2.1]
 have e3:=r9 hL U;have e4:=ta hL q rfl L;obtain⟨b1,b2⟩:=qp o;have a6: ∀(j:Nat),oN out j=match out[j]? with
   |some x=>lnB x.2
   |none=>0:=by
  intro j;unfold oN lns;rw[fT];cases out[j]?<;>rfl
 have Q: ∀(k b:Nat),ids[k]?=some b->b<s1.sto.length:=by
  have al: ∀(C:List Nat) (bl:List TB),wQ ids s1 C=some bl-> ∀(k b:Nat),C[k]?=some b->b<s1.sto.length:=by
   intro C
   induction C with
   |nil=>simp_all
   |cons c C ih=>
    grind [wQ]
  grind
 have a4:s1.sto.length=s.sto.length:=(by have:=congrArg (λst=>st.sto.length) q.2.2.1;grind [Jy,zU]);obtain⟨a3,K,a2⟩:=JFJ hlen;have a0:=wZ hd;have ab: ∀x∈g,∃(j:Nat) (T:Bool) (y:TB),out[j]?=some (T,y)/\eX ids new out.length j=some x.1/\yT ids new out.length y=some x.2.2/\x.2.1=(T&&decide (j<ids.length)):=by
  intro x hx;obtain⟨j,hj⟩:=fV hx;have w:j<out.length:=by grind
  obtain⟨b,y,q1,q2,I⟩:=b2 j (out[j]'w).1 (out[j]'w).2 (zQ9 w);rw[hj]at I;injection I with I;rw[nA]at q1 I;exact⟨j,_,_,zQ9 w,by simp_all,by simp_all,by rw[I];rfl⟩
 have H: ∀x∈g,x.1<s1.sto.length:=(by grind [eX,Jw]);have J: ∀x∈g,x.2.1=true->lnB x.2.2=lns s1.sto x.1:=(by grind [o5,eX]);obtain⟨w1,w2⟩:=JKW (JJ1 N) H J;have D: ∀k b,eX ids new out.length k=some b->lns (mZ g s1).sto b=oN out k:=(by grind [eX,o5]);have e5:=JJK D W;have e6:=px D (ws0:=ws) (st:=Jy s) (j:=0) (es:=ids) (out:=out) (ws:=g) (λi b hb=>by grind) (by omega) K o;have e7:=pv D (j:=0) (out:=out.drop ids.length) (ws:=g.drop ids.length) (by have:=tv (n:=ids.length) o;grind);rw[tC]at e7;refine⟨xs.map (bQ (lns s.sto)),ws,i1.map .whole,ids.map .whole,_,_,aT (lns (mZ g s1).sto) O,_,_,(g.drop ids.length).map (λx=>(x.1,aY (lns (mZ g s1).sto) x.2.2)),h1,?_,e2,JB4 Y,e3,e4,hF,?_,e5,?_,e6,bC d O (mZ g s1),?_,h⟩;grind;grind;grind [List.map_drop];refine rF ?_ d O;rw[w1,q.2.2.1];simp[eR];cases h;cases h;cases h;cases h;cases h
end
end Go.Am
end
section
namespace Go.Am
inductive TOp where
 |mv (x:TO)
 |mkarr (t:Ty) (x:TO)
 |pick (c a b:TO)
 |newbox (t:Ty)
 |box (t:Ty) (x:TO)
 |build (t:Ty) (parts:List (Nat×Ty×TO))
 |lits (own:Bool) (t:Ty) (n:Nat) (parts:List (Nat×TO))
 |load (agg:Bool) (t:Ty) (x:TO)
 |store (t:Ty) (x v:TO)
 |nilchk (x:TO)
 |bin (op:BinOp) (bt:TBT) (x y:TO)
 |un (op:UnOp) (x:TO)
 |conv (k:CK) (x:TO)
 |mkslice (own:Bool) (t:Ty) (bytes:Nat) (l c:TO)
 |slice (k:TSK) (x:TO) (lo hi mx:Option TO)
 |faddr (off:Nat) (x:TO)
 |field (agg:Bool) (off:Nat) (t:Ty) (x:TO)
 |iaddr (t:Ty) (x i:TO)
 |aaddr (len esz:Nat) (x i:TO)
 |sidx (x i:TO)
 |aidx (agg:Bool) (len:Nat) (t:Ty) (x i:TO)
 |extr (x:TO) (i:Nat)
 |call (f:FuncId) (args:List TO) (k:Nat)
 |callo (f:FuncId) (args:List (TO×Bool)) (k:Nat)
 |callv (g:TO) (args:List TO) (k:Nat)
 |len (str:Bool) (x:TO)
 |alen (n:Nat)
 |app (t:Ty) (bytes:Nat) (x y:TO)
 |appn (t:Ty) (bytes:Nat) (y:TO)
 |appz (t:Ty) (bytes:Nat) (x y:TO)
 |appc (t:Ty) (bytes:Nat) (x y:TO)
 |mm (mx:Bool) (x y:TO)
 |mkfn (f:FuncId) (first caps:List TO)
 |newboxo (t:Ty) (os:List (Nat×Ty))
 |buildo (t:Ty) (parts:List (Nat×Ty×TO)) (os:List (Nat×Ty))
 |storen (t:Ty) (x:TO)
def zer(t:Ty):List PV:=cel t t.zero
def erp:TOp->AOp
 | .mv x=>.mv (erO x)
 | .mkarr t x=>.mkarr t.sz (erO x)
 | .pick c a b=>.pick (erO c) (erO a) (erO b)
 | .newbox t=>.newbox (zer t)
 | .box t x=>.box t.sz (erO x)
 | .build t parts=>.build (zer t) (erP parts)
 | .lits own t n parts=>.lits own t.sz n (zer t) (parts.map λx=>(x.1,erO x.2))
 | .load agg t x=>.load agg t.sz (erO x)
 | .store t x v=>.store t.sz (erO x) (erO v)
 | .nilchk x=>.nilchk (erO x)
 | .bin op bt x y=>.bin op (erT bt) (erO x) (erO y)
 | .un op x=>.un op (erO x)
 | .conv k x=>.conv k (erO x)
 | .mkslice own t bytes l c=>.mkslice own t.sz bytes (zer t) (erO l) (erO c)
 | .slice k x lo hi mx=>.slice (erK k) (erO x) (lo.map erO) (hi.map erO) (mx.map erO)
 | .faddr off x=>.faddr off (erO x)
 | .field agg off t x=>.field agg off t.sz (erO x)
 | .iaddr t x i=>.iaddr t.sz (erO x) (erO i)
 | .aaddr len esz x i=>.aaddr len esz (erO x) (erO i)
 | .sidx x i=>.sidx (erO x) (erO i)
 | .aidx agg len t x i=>.aidx agg len t.sz (erO x) (erO i)
 | .extr x i=>.extr (erO x) i
 | .call f args k=>.call f (args.map erO) k
 | .callo f args k=>.callo f (args.map (·.2)) (args.map λx=>erO x.1) k
 | .callv g args k=>.callv (erO g) (args.map erO) k
 | .len str x=>.len str (erO x)
 | .alen n=>.alen n
 | .app t bytes x y=>.app t.sz bytes (zer t) (erO x) (erO y)
 | .appn t bytes y=>.appn t.sz bytes (zer t) (erO y)
 | .appz t bytes x y=>.appz t.sz bytes (zer t) (erO x) (erO y)
 | .appc t bytes x y=>.appc t.sz bytes (zer t) (erO x) (erO y)
 | .mm mx x y=>.mm mx (erO x) (erO y)
 | .mkfn f first caps=>.mkfn f (first.map erO) (caps.map erO)
 | .newboxo t os=>.newboxo (zer t) (kZ os)
 | .buildo t parts os=>.buildo (zer t) (erP parts) (kZ os)
 | .storen t x=>.storen t.sz (erO x)
def bZ:TOp->Nat| .newbox _| .box _ _| .mkarr _ _| .appn _ _ _| .appc _ _ _ _=>1| .lits own _ _ _=>if own=true then 1 else 0| .mkslice own _ _ _ _=>if own=true then 1 else 0| .conv (.toBytes own) _=>if own=true then 1 else 0| .call _ _ k| .callv _ _ k| .callo _ _ k=>k| .newboxo _ os=>os.length+1| .buildo _ _ os=>os.length| .storen _ _=>1|_=>0
theorem MA(op:TOp):lB (erp op)=bZ op:=by
 cases op<;>try rfl
 rename_i k x;cases k<;>rfl
 all_goals simp[erp,bZ,kZ]
def vT:List (TO×Bool)->TSt->Option (List (TV×Bool))|[],_=>some []|(o,x)::r,s=>match tev o s,vT r s with|some v,some l=>some ((v,x)::l)|_,_=>none
theorem zY{s:TSt}: ∀{xs:List (TO×Bool)} {l:List (TV×Bool)},vT xs s=some l->
  (evs (xs.map λx=>erO x.1)).run (Jy s)=some (l.map λx=>aT (lns s.sto) x.1)/\l.map (·.2)=xs.map (·.2)
 |[],l,h=>by injection h with h;simp_all
 |(o,x)::q,l,h=>by
  simp only[vT]at h;split at h;rename_i v l' e g;injection h with h;subst h;obtain⟨h1,h2⟩:=zY g;exact⟨by simp only[bT,evs,run_bind,bR e,JO,h1,bI],by simp[h2]⟩;cases h
section
variable {R:Type}
def top(G:TG)(op:TOp)(d:Option Nat)(new:Nat)(s:TSt)(k:TSt->Option R):Option R:=
 match op with
 | .mv x=>match tev x s with|some v=>k (bC d v s)|none=>none
 | .mkarr t _=>C5 t d new s k
 | .pick c a b=>match tev c s with|some (.a (.c (.d .b x)))=>m9 x (tev a s) (tev b s) λv=>k (bC d v s)|_=>none
 | .newbox t=>Gy t d new s k
 | .box t x=>match tev x s with|some v=>kn t v d new s k|none=>none
 | .build t parts=>YY t parts d s k
 | .lits own t n parts=>ns own t n parts d new s k
 | .load agg t x=>match tev x s with|some v=>nn agg t v d s k|none=>none
 | .store t x y=>match tev x s,tev y s with|some v,some u=>YW t v u d s k|_,_=>none
 | .nilchk x=>match tev x s with|some v=>l9 v λv=>k (bC d v s)|none=>none
 | .bin op bt x y=>match tev x s,tev y s with|some v,some u=>mb op bt v u λv=>k (bC d v s)|_,_=>none
 | .un op x=>match tev x s with|some v=>tUn op v λv=>k (bC d v s)|none=>none
 | .conv c x=>match tev x s with|some v=>ni c v d new s k|none=>none
 | .mkslice own t bytes l c=>match tev l s,tev c s with|some v,some u=>d6 own t bytes v u d new s k|_,_=>none
 | .slice e x lo hi mx=>match tev x s,tbn lo s,tbn hi s,tbn mx s with|some v,some a,some b,some c=>YJ e v a b c d s k|_,_,_,_=>none
 | .faddr off x=>match tev x s with|some v=>ZK off v λv=>k (bC d v s)|none=>none
 | .field agg off t x=>match tev x s with|some v=>YZ agg off t v d s k|none=>none
 | .iaddr t x i=>match tev x s,tev i s with|some v,some u=>YX t v u s λv=>k (bC d v s)|_,_=>none
 | .aaddr len esz x i=>match tev x s,tev i s with|some v,some u=>ZH len esz v u λv=>k (bC d v s)|_,_=>none
 | .sidx x i=>match tev x s,tev i s with|some v,some u=>n3 v u λv=>k (bC d v s)|_,_=>none
 | .aidx agg len t x i=>match tev x s,tev i s with|some v,some u=>ng agg len t v u d s k|_,_=>none
 | .extr x i=>match tev x s with|some v=>nq v i λv=>k (bC d v s)|none=>none
 | .call f args n=>match vT (args.map λx=>(x,false)) s with|some l=>EP G f l false n d new s k|none=>none
 | .callo f args n=>match vT args s with|some l=>EP G f l true n d new s k|none=>none
 | .callv g args n=>match tev g s,vT (args.map λx=>(x,false)) s with|some (.a (.fn f a c)),some l=>EP G f (a.map (λx=>(.a (.c x),false))++l++c.map (λx=>(.a (.c x),false))) false n d new s k|some (.a (.c (.fn f))),some l=>EP G f l false n d new s k|_,_=>none
 | .len str x=>match tev x s with|some v=>l3 str v s λv=>k (bC d v s)|none=>none
 | .alen n=>k (bC d (vi .i64 n) s)
 | .app t bytes x y=>match tev x s,tev y s with|some v,some u=>VI t bytes v u d s k|_,_=>none
 | .appn t bytes y=>match tev y s with|some u=>mr t bytes u d new s k|none=>none
 | .appz t bytes x y=>match tev x s,tev y s with|some v,some u=>mq t bytes v u d s k|_,_=>none
 | .appc t bytes x y=>match tev x s,tev y s with|some v,some u=>nv t bytes v u d new s k|_,_=>none
 | .mm mx x y=>match tev x s,tev y s with|some v,some u=>tMm mx v u λv=>k (bC d v s)|_,_=>none
 | .mkfn f first caps=>match tcl first s,tcl caps s with|some a,some c=>k (bC d (.a (.fn f a c)) s)|_,_=>none
 | .newboxo t os=>e8 t os d new s k
 | .buildo t parts os=>dy t parts os d new s k
 | .storen t x=>match tev x s with|some v=>dk t v d new s k|none=>none
theorem fi{F:Orc}{f:FuncId}{vs xs g:List AV}{ws:List (Nat×Blk)}{h es:List Ent}{blks:List Blk}{v:AV}{res:Res}{j fresh:List (Nat×Blk)}{n new:Nat}{st:St}
  (h1:(kK vs).run st=some (xs,ws)) (h2:(eB ws (cJ.entsOfL xs []) (cJ.entsOfL xs [])).run st=some h) (h3:(eB ws h h).run st=some es) (h4:jL (es.map Ent.id)=true)
  (h5:ren.renL (λe=>dG e es 0) xs=some g) (w:(kQ ws (λe=>dG e es 0) es).run st=some blks) (q:F f g blks=some res) (r:res.2.length=es.length+n)
  (x:bk es new res.1=some v) (k:gW es new new (res.2.drop es.length)=some fresh) (o:(iS ws es new es res.2).run st=some j):
  (hX F f vs n new).run st=some ⟨v,ws++j++fresh⟩:=by
 simp_all [hX]
theorem JGQ{F:Orc}{f:FuncId}{xs g:List AV}{ws:List (Nat×Blk)}{h es:List Ent}{blks:List Blk}{v:AV}{res:Res}{j fresh:List (Nat×Blk)}{n new:Nat}{st:St}
  (h2:(eB ws (cJ.entsOfL xs []) (cJ.entsOfL xs [])).run st=some h) (h3:(eB ws h h).run st=some es) (h4:jL (es.map Ent.id)=true)
  (h5:ren.renL (λe=>dG e es 0) xs=some g) (w:(kQ ws (λe=>dG e es 0) es).run st=some blks) (q:F f g blks=some res) (r:es.length<=res.2.length/\res.2.length<=es.length+n)
  (x:bk es new res.1=some v) (k:gW es new new (res.2.drop es.length)=some fresh) (o:(iS ws es new es res.2).run st=some j):
  (fP F f (xs,ws) n new).run st=some ⟨v,ws++j++fresh⟩:=by
 simp_all [fP]
theorem RW(args:List TO):(args.map λx=>(x,false)).map (λx:TO×Bool=>erO x.1)=args.map erO:=by simp_all
theorem JMk{F:Orc}{G:TG}(L:GOk F G){op:TOp}{d:Option Nat}{new:Nat}{s:TSt}{k:TSt->Option R}{r:R}(hd:nK s new (bZ op)=true)(h:top G op d new s k=some r):Ok (opR F (erp op) new) d s k r:=by
 have a3: ∀j,j<bZ op->new+j<s.sto.length:=λj hj=>Jw (wZ hd j hj);unfold top at h;split at h;split at h;rename_i x _ v o;refine fF (v:=v) ?_ h;simp only[erp,opR,run_bind,bR o,JO,bI];cases h;exact JFi F (by simp_all [bZ]) h;split at h;rename_i hc;exact JJ2 F hc h;cases h;exact JD9 F (by have:=wZ hd 0 (by simp[bZ]);simp_all) h;split at h;rename_i o;exact JJO F (by have:=wZ hd 0 (by simp[bZ]);simp_all) o h;cases h;exact JG3 F new h;rename_i own t n parts;exact JHH F (λZ=>by simp_all [bZ]) h;split at h;rename_i o;obtain⟨e,s',h1,h2,q⟩:=JJ0 h;exact⟨e,s',by grind [erp,opR,run_bind,bR],h2,q⟩;cases h;split at h;rename_i o w;obtain⟨e,s',h1,h2,q⟩:=JFl h;exact⟨e,s',by grind [erp,opR,run_bind,bR],h2,q⟩;cases h;split at h;rename_i o;exact JJS F o h;cases h;split at h;rename_i o w;obtain⟨e,s',h1,h2,q⟩:=(JKy h).ok;exact⟨e,s',by grind [erp,opR,run_bind,bR],h2,q⟩;cases h;split at h;rename_i o;obtain⟨e,s',h1,h2,q⟩:=(JMR h).ok;exact⟨e,s',by grind [erp,opR,run_bind,bR],h2,q⟩;cases h;split at h;rename_i o;exact JHT F o (λZ=>by simp_all [bZ]) h;cases h;split at h;rename_i o w;exact JAO F o w (λZ=>by simp_all [bZ]) h;cases h;split at h;rename_i h1 h2 q h4;exact JFV F h1 h2 q h4 h;cases h;split at h;rename_i o;obtain⟨e,s',h1,h2,q⟩:=(JFT h).ok;exact⟨e,s',by grind [erp,opR,run_bind,bR],h2,q⟩;cases h;split at h;rename_i o;obtain⟨e,s',h1,h2,q⟩:=JFD h;exact⟨e,s',by grind [erp,opR,run_bind,bR],h2,q⟩;cases h;split at h;rename_i o w;obtain⟨e,s',h1,h2,q⟩:=JFy h;exact⟨e,s',by grind [erp,opR,run_bind,bR],h2,q⟩;cases h;split at h;rename_i o w;obtain⟨e,s',h1,h2,q⟩:=(JG7 h).ok;exact⟨e,s',by grind [erp,opR,run_bind,bR],h2,q⟩;cases h;split at h;rename_i o w;exact JJi F o w h;cases h;split at h;rename_i o w;exact JIj F o w h;cases h;split at h;rename_i o;obtain⟨e,s',h1,h2,q⟩:=(JJ5 h).ok;exact⟨e,s',by grind [erp,opR,run_bind,bR],h2,q⟩;cases h;rename_i f args n;split at h;rename_i l H;obtain⟨C,M⟩:=zY H;rw[RW]at C;obtain⟨xs,ws,I,es,B,blks,v,res,D,fresh,E,W,V,T,S,Q,O,U,N,K,J,s',A,y⟩:=TS L hd h;rw[NH _ _ (λx hx=>by simp_all)]at E;refine⟨_,s',?_,A,y⟩;grind [erp,opR,run_bind,fi,bZ];cases h;rename_i f args n;split at h;rename_i l H;obtain⟨C,M⟩:=zY H;obtain⟨xs,ws,I,es,B,blks,v,res,D,fresh,E,W,V,T,S,Q,O,U,N,K,J,s',A,y⟩:=TS L hd h;rw[M]at E;refine⟨_,s',?_,A,y⟩;simp_all [erp,JGQ,bZ];cases h;rename_i g args n;split at h;rename_i f a c l P H;obtain⟨C,M⟩:=zY H;rw[RW]at C;obtain⟨xs,ws,I,es,B,blks,v,res,D,fresh,E,W,V,T,S,Q,O,U,N,K,J,s',A,y⟩:=TS L hd h;have Y: ∀z:List TC,(z.map (λx=>((TV.a (.c x),false):TV×Bool))).map (λx=>aT (lns s.sto) x.1)=z.map (aZ (lns s.sto)):=λz=>by rw[yR];rfl
 rw[NH _ _ (λx hx=>by
  grind),DH,DH,Y,Y]at E
 refine⟨_,s',?_,A,y⟩;simp only[erp,opR,run_bind,bR P,JO,mc,C];grind [fi,bZ];rename_i f l P H;obtain⟨C,M⟩:=zY H;rw[RW]at C;obtain⟨xs,ws,I,es,B,blks,v,res,D,fresh,E,W,V,T,S,Q,O,U,N,K,J,s',A,y⟩:=TS L hd h;rw[NH _ _ (λx hx=>by simp_all)]at E;refine⟨_,s',?_,A,y⟩;simp only[erp,opR,run_bind,bR P,JO,B1,C,jA,jZ];grind [fi,bZ];cases h;split at h;rename_i o;obtain⟨e,s',h1,h2,q⟩:=(JJM h).ok;exact⟨e,s',by grind [erp,opR,run_bind,bR],h2,q⟩;cases h;rename_i n;exact fF (v:=vi .i64 n) rfl h;split at h;rename_i o w;obtain⟨e,s',h1,h2,q⟩:=Ff h;exact⟨e,s',by grind [erp,opR,run_bind,bR],h2,q⟩;cases h;split at h;rename_i w;exact JHr F w (by simp_all [bZ]) h;cases h;split at h;rename_i o w;exact JIh F o w h;cases h;split at h;rename_i o w;exact JI6 F o w (by simp_all [bZ]) h;cases h;split at h;rename_i o w;obtain⟨e,s',h1,h2,q⟩:=(JNi h).ok;exact⟨e,s',by grind [erp,opR,run_bind,bR],h2,q⟩;cases h;rename_i f first caps
 split at h;rename_i a c ha hc;refine fF (v:=.a (.fn f a c)) ?_ h;simp_all [erp,Ea,mc];cases h;exact JAM F hd h;exact JD4 F hd h;split at h;rename_i o;exact JD3 F (by have:=wZ hd 0 (by simp[bZ]);simp_all) o h;cases h
structure jD where
 op:TOp
 dst:Option Nat
 g:Option (Nat×Bool)
def eri(i:jD):bU:=⟨erp i.op,i.dst,i.g⟩
def rbE(g:Nat)(v:TV):List (Nat×TV)->List (Nat×TV)|[]=>[]|(m,u)::r=>if m=g then(m,v)::r else(m,u)::rbE g v r
def rb(g:Nat)(v:TV)(s:TSt):TSt:=⟨rbE g v s.env,s.sto⟩
theorem ZF{g:Nat}{v:TV}{s:TSt}(h:tlk g s.env=some v):rb g v s=s:=by
 have e: ∀env:List (Nat×TV),tlk g env=some v->rbE g v env=env:=by
  intro env
  induction env with
  |nil=>intro h;cases h
  |cons x r ih=>
   grind [tlk,rbE]
 simp_all [rb]
def VQ(G:TG)(i:jD)(new:Nat)(s:TSt)(k:TSt->Option R):Option R:=
 match i.g with
 |none=>if nK s new (bZ i.op)=true then top G i.op i.dst new s k else none
 |some (g,e)=>match tlk g s.env with
  |some (.a (.c (.d .b x)))=>if x=e then
   (if nK s new (bZ i.op)=true then top G i.op i.dst new (rb g (vb e) s) k else none)
   else k (bC i.dst uv (rb g (vb !e) s))
  |some (.tup [])=>k (bC i.dst uv s)
  |_=>none
theorem Fv{F:Orc}{G:TG}(B:GOk F G){i:jD}{new:Nat}{s:TSt}{k:TSt->Option R}{r:R}(h:VQ G i new s k=some r):Ok (bW F (eri i) new) i.dst s k r:=by
 have A: ∀{s:TSt},nK s new (bZ i.op)=true->top G i.op i.dst new s k=some r->Ok (opD F (erp i.op) new) i.dst s k r:=(by intro s hd h;obtain⟨e,s',h1,h2,w⟩:=JMk B hd h;refine⟨e,s',?_,h2,w⟩;grind [opD,run_bind,MA,po]);unfold VQ at h;split at h;grind [bW,eri];rename_i g n z;split at h;rename_i x j;have o:lk g (Jy s).env=some (.p (.b x)):=by show lk g (fO _ s.env)=_;rw[zQ,j];rfl
 split at h;rename_i q;subst q;rw[ZF j]at h;split at h;rename_i hd;obtain⟨e,s',h1,h2,w⟩:=A hd h;refine⟨e,s',?_,h2,w⟩;grind [bW,eri,xB];cases h;rename_i q;have y:x= !n:=by clear o j h;cases x<;>cases n<;>first|rfl|grind
 subst y;rw[ZF j]at h;refine fF (v:=uv) ?_ h;simp only[bW,eri,z,xB,o,JO];rw[if_neg q];rfl;rename_i j;have o:lk g (Jy s).env=some (.tup []):=by show lk g (fO _ s.env)=_;rw[zQ,j];rfl
 refine fF (v:=uv) ?_ h;simp only[bW,eri,z,xB,o,JO,bI];rfl;cases h
def WV(G:TG):List jD->Nat->TSt->(TSt->Option R)->Option R|[],_,s,k=>k s|i::r,new,s,k=>VQ G i new s λs=>WV G r (new+bZ i.op) s k
theorem Gj{F:Orc}{G:TG}(g:GOk F G): ∀{ins:List jD} {new:Nat} {s:TSt} {k:TSt->Option R} {r:R},WV G ins new s k=some r-> ∃s',fW F (ins.map eri) new (Jy s)=some (Jy s')/\k s'=some r
 |[],new,s,k,r,h=>⟨s,rfl,h⟩
 |i::q,new,s,k,r,h=>by
  simp only[WV]at h;obtain⟨e,s1,h1,h2,h⟩:=Fv g h;obtain⟨j,o,n⟩:=Gj g h;grind [fW,eri,MA]
def KW:List jD->Nat|[]=>0|i::r=>bZ i.op+KW r
theorem fa: ∀ins:List jD,news (ins.map eri)=KW ins
 |[]=>rfl
 |i::r=>by
  simp only[bT,news,KW,fa r];grind [eri,MA]
def PF(n:Nat)(s:TSt):TSt:=if n=0 then s else⟨s.env,s.sto++List.replicate n .dead⟩
theorem Iy(sto:List TB)(n:Nat):lns (sto++List.replicate n .dead)=lns sto:=by
 funext c
 unfold lns;rcases zQ3 c sto.length with h|h;grind;rw[dX h,oS h,List.getElem?_replicate];split<;>rfl
theorem qa(n:Nat)(s:TSt):Jy (PF n s)=⟨(Jy s).env,room n (Jy s).sto⟩:=by
 unfold PF room;split;rfl;unfold Jy;rw[Iy];simp only[DH,VP];rfl
end
end Go.Am
end
section
namespace Go.Am
def Rb{α:Type}(S:Nat->Prop)(m:RM α)(st:St):Prop:= ∀b,Loc.blk b∈m.reads st->S b
section
variable {α β:Type} {S:Nat->Prop} {st:St}
theorem bO(a:α):Rb S (.ret a) st:=λb h=>by simp[RM.reads]at h
theorem JY:Rb S (.fail:RM α) st:=λb h=>by simp[RM.reads]at h
theorem bS{m:RM α}{f:α->RM β}(h:Rb S m st)(hf: ∀a,m.run st=some a->Rb S (f a) st):Rb S (m.bind f) st:=by
 intro b e;rw[xI]at e;rcases cF.1 e with e|e;exact h b e;cases hm:m.run st with
 |none=>rw[hm]at e;simp at e
 |some a=>rw[hm]at e;exact hf a hm b (by simpa using e)
theorem pH{b:Nat}{k:Blk->RM α}(hb:S b)(h: ∀v,st.sto[b]?=some v->Rb S (k v) st):Rb S (.blk b k) st:=by
 intro c hc;simp only[RM.reads,cS]at hc;rcases hc with hc|hc;injection hc with hc;subst hc;exact hb;cases hv:st.sto[b]? with
 |none=>rw[hv]at hc;simp at hc
 |some v=>rw[hv]at hc;exact h v hv c hc
theorem F3{n:Nat}{k:AV->RM α}(h: ∀v,lk n st.env=some v->Rb S (k v) st):Rb S (.slot n k) st:=by
 intro c hc;simp only[RM.reads,cS]at hc;rcases hc with hc|hc;cases hc;cases hv:lk n st.env with
 |none=>rw[hv]at hc;simp at hc
 |some v=>rw[hv]at hc;exact h v hv c hc
theorem QH(x:Option AV):Rb S (val x) st:=by cases x<;>first|exact JY|exact bO _
theorem kG(x:Opd):Rb S (ev x) st:=by cases x<;>first|exact bO _|exact F3 λv _=>bO v
theorem ZP: ∀xs:List Opd,Rb S (evs xs) st|[]=>bO _|x::r=>bS (kG x) λv _=>bS (ZP r) λvs _=>bO _
theorem YS(x:Option Opd):Rb S (evo x) st:=by
 cases x with
 |none=>exact bO _
 |some x=>exact bS (kG x) λv _=>bO _
end
def fL:AV->List Nat| .ptr b _=>[b]| .slr b _ _=>[b]| .ep b _ _ _=>[b]|_=>[]
def avR:AV->List Nat| .agg cs=>cs.flatMap fL|x=>fL x
section
variable {S:Nat->Prop} {st:St}
theorem JLe{x:AV}(h: ∀b∈fL x,S b):Rb S (fz.fz1 x) st:=by
 cases x with
 |slr b i n=>
  refine pH (h b (by simp[fL])) λv _=>?_;cases v with
  |arr w esz rows=>dsimp only;split<;>first|exact bO _|exact JY
  |_=>exact JY
 |p c=>exact bO _
 |_=>exact JY
theorem Dc: ∀{xs:List AV},(∀b∈xs.flatMap fL,S b)->Rb S (fz.fzL xs) st|[],_=>bO _|x::r,h=>bS (JLe λb e=>h b (by simp[e])) λa _=>bS (Dc λb e=>h b (by simp only[List.flatMap_cons,cF];exact .inr e)) λc _=>bO _
theorem KS{x:AV}(h: ∀b∈avR x,S b):Rb S (fz x) st:=by
 cases x with
 |slr b i n=>
  refine pH (h b (by simp[avR,fL])) λv _=>?_;cases v with
  |arr w esz rows=>dsimp only;split<;>first|exact bO _|exact JY
  |_=>exact JY
 |p c=>exact bO _
 |data cs=>exact bO _
 |agg cs=>exact Dc h
 |_=>exact JY
theorem JMW{x:AV}{a:List PV×List (Nat×Blk)}(h:(fz.fz1 x).run st=some a): ∀y∈a.2,y.1∈fL x:=by
 cases x with
 |slr b i n=>
  simp only[fz.fz1,eG]at h;obtain⟨v,_,h⟩:=bK.1 h;cases v with
  |arr w esz rows=>
   dsimp only at h;split at h;injection h with h;subst h;simp[fL];cases h
  |_=>cases h
 |p c=>injection h with h;subst h;simp
 |_=>cases h
theorem Ed: ∀{xs:List AV} {a:List PV×List (Nat×Blk)},(fz.fzL xs).run st=some a-> ∀y∈a.2,y.1∈xs.flatMap fL
 |[],a,h,y,g=>by injection h with h;subst h;simp at g
 |x::r,a,h,y,g=>by
  simp only[fz.fzL]at h;obtain⟨c,h1,h⟩:=bind_some h;obtain⟨e,h2,h⟩:=bind_some h;injection h with h;subst h;simp only[cF]at g;simp only[List.flatMap_cons,cF];rcases g with g|g;exact .inl (JMW h1 y g);exact .inr (Ed h2 y g)
theorem KI{x:AV}{a:List PV×List (Nat×Blk)}(h:(fz x).run st=some a): ∀y∈a.2,y.1∈avR x:=by
 cases x with
 |slr b i n=>
  simp only[fz,eG]at h;obtain⟨v,_,h⟩:=bK.1 h;cases v with
  |arr w esz rows=>
   dsimp only at h;split at h;injection h with h;subst h;simp[avR,fL];cases h
  |_=>cases h
 |p c=>injection h with h;subst h;simp
 |data cs=>injection h with h;subst h;simp
 |agg cs=>exact Ed h
 |_=>cases h
theorem db{esz:Nat}{x:AV}(h: ∀b∈avR x,S b):Rb S (fG esz x) st:=by
 unfold fG;split;split<;>first|exact bO _|exact JY
 split<;>first|exact bO _|exact JY
 refine pH (h _ (by simp[avR,fL])) λv _=>?_;split;split<;>first|exact bO _|exact JY
 exact JY;exact JY
theorem JKm{agg:Bool}{size:Nat}{x:AV}(h: ∀b∈avR x,S b):Rb S (gE agg size x) st:=by
 unfold gE;split;split<;>first|exact QH _|exact JY
 refine pH (h _ (by simp[avR,fL])) λv _=>?_;split;split<;>first|exact QH _|exact JY
 exact JY;refine pH (h _ (by simp[avR,fL])) λv _=>?_;split;split;split;split<;>first|exact QH _|exact JY
 exact JY;exact JY;exact JY;exact JY
theorem QO{x:Option AV}{e:Eff}(h:(val x).run st=some e):e.ws=[]:=by
 cases x with
 |none=>cases h
 |some v=>injection h with h;subst h;rfl
theorem JKc{agg:Bool}{size:Nat}{x:AV}{e:Eff}(h:(gE agg size x).run st=some e):e.ws=[]:=by
 unfold gE at h;split at h;split at h<;>first|exact QO h|cases h
 simp only[eG]at h;obtain⟨v,_,h⟩:=bK.1 h;split at h;split at h<;>first|exact QO h|cases h
 cases h;simp only[eG]at h;obtain⟨v,_,h⟩:=bK.1 h;split at h;split at h;split at h;split at h<;>first|exact QO h|cases h
 cases h;cases h;cases h;cases h
theorem JIE{size:Nat}{x v:AV}(h: ∀b∈avR x,S b)(hv: ∀b∈avR v,S b):Rb S (iA size x v) st:=by
 unfold iA;split;refine pH (h _ (by simp[avR,fL])) λy _=>?_;split;split;split;split<;>first|exact bO _|exact JY
 exact JY;exact JY;exact JY;refine pH (h _ (by simp[avR,fL])) λy _=>?_;split;split;split;refine bS (KS hv) λa _=>?_;split;split<;>first|exact bO _|exact JY
 exact JY;exact JY;exact JY;exact JY;exact JY
theorem JJf{size:Nat}{x v:AV}{e:Eff}(h:(iA size x v).run st=some e): ∀y∈e.ws,y.1∈avR x++avR v:=by
 unfold iA at h;split at h;simp only[eG]at h;obtain⟨w,_,h⟩:=bK.1 h;split at h;split at h;split at h;split at h;injection h with h;subst h;simp[avR,fL];cases h;cases h;cases h;cases h;simp only[eG]at h;obtain⟨w,_,h⟩:=bK.1 h;split at h;split at h;split at h;obtain⟨a,h1,h⟩:=bind_some h;split at h;split at h;injection h with h;subst h;intro y g;simp only[cF,hO]at g⊢;rcases g with g|rfl;exact .inr (KI h1 y g);exact .inl (by simp[avR,fL]);cases h;cases h;cases h;cases h;cases h;cases h
theorem JGT{esz:Nat}{x i:AV}(h: ∀b∈avR x,S b):Rb S (mE esz x i) st:=by
 unfold mE;split;split;split<;>first|exact bO _|exact JY
 exact JY;refine pH (h _ (by simp[avR,fL])) λv _=>?_;split;split<;>first|exact bO _|exact JY
 exact JY;exact JY
theorem JJ8{esz:Nat}{x i:AV}{e:Eff}(h:(mE esz x i).run st=some e):e.ws=[]:=by
 unfold mE at h;split at h;split at h;split at h;injection h with h;subst h;rfl;cases h;cases h;simp only[eG]at h;obtain⟨v,_,h⟩:=bK.1 h;split at h;split at h;injection h with h;subst h;rfl;cases h;cases h;cases h
theorem JMZ{esz bytes:Nat}{x y:AV}(h: ∀b∈avR x,S b)(hy: ∀b∈avR y,S b):Rb S (iM esz bytes x y) st:=by
 unfold iM;split;refine pH (h _ (by simp[avR,fL])) λv _=>?_;split;refine bS (db hy) λnew _=>?_;split<;>first|exact bO _|exact JY
 exact JY;exact JY
theorem JLU{esz bytes:Nat}{x y:AV}{e:Eff}(h:(iM esz bytes x y).run st=some e): ∀z∈e.ws,z.1∈avR x:=by
 unfold iM at h;split at h;simp only[eG]at h;obtain⟨v,_,h⟩:=bK.1 h;split at h;obtain⟨new,_,h⟩:=bind_some h;split at h;injection h with h;subst h;simp[avR,fL];cases h;cases h;cases h
theorem F0: ∀{k new:Nat},(∀j,j<k->S (new+j))->Rb S (tO new k) st
 |0,_,_=>bO _
 |k+1,new,h=>pH (h 0 (by omega)) λv _=>by
  cases v with
  |dead=>exact F0 λj e=>by have:=h (j+1) (by omega);rwa[Nat.add_comm j 1,<-HT]at this
  |_=>exact JY
theorem Dr: ∀{xs:List Opd},(∀x∈xs,∀v,(ev x).run st=some v-> ∀b∈avR v,S b)->Rb S (fzs xs) st|[],_=>bO _|x::r,h=>bS (kG x) λv e=>bS (KS (h x (by simp) v e)) λa _=>bS (Dr λy g=>h y (by simp[g])) λc _=>bO _
theorem ZM: ∀{xs:List Opd} {a:List (List PV)×List (Nat×Blk)},(∀x∈xs,∀v,(ev x).run st=some v-> ∀b∈avR v,S b)->(fzs xs).run st=some a-> ∀y∈a.2,S y.1
 |[],a,_,h,y,g=>by injection h with h;subst h;simp at g
 |x::r,a,j,h,y,g=>by
  simp only[fzs]at h;obtain⟨v,k,h⟩:=bind_some h;obtain⟨c,h1,h⟩:=bind_some h;obtain⟨e,h2,h⟩:=bind_some h;injection h with h;subst h;simp only[cF]at g;rcases g with g|g;exact j x (by simp) v k _ (KI h1 y g);exact ZM (λz n=>j z (by simp[n])) h2 y g
theorem Ex{x:AV}(h: ∀b∈avR x,S b):Rb S (jB x) st:=by
 cases x with
 |slr b i n=>refine bS (KS h) λa _=>?_;split<;>first|exact bO _|exact JY
 |agg cs=>exact bS (KS h) λa _=>bO _
 |tup cs=>exact JY
 |_=>exact bO _
theorem Gm{x:AV}{a:AV×List (Nat×Blk)}(h:(jB x).run st=some a): ∀y∈a.2,y.1∈avR x:=by
 cases x with
 |slr b i n=>
  simp only[jB]at h;obtain⟨c,h1,h⟩:=bind_some h;split at h;injection h with h;subst h;exact KI h1;cases h
 |agg cs=>simp only[jB]at h;obtain⟨c,h1,h⟩:=bind_some h;injection h with h;subst h;exact KI h1
 |tup cs=>cases h
 |_=>injection h with h;subst h;simp
theorem MQ: ∀{m:List Bool} {xs:List AV},(∀x∈xs,∀b∈avR x,S b)->Rb S (fC m xs) st|_,[],_=>by unfold fC;exact bO _|[],x::r,h=>bS (Ex (h x (by simp))) λa _=>bS (MQ λy e=>h y (by simp[e])) λc _=>bO _|true::m,x::r,h=>bS (MQ λy e=>h y (by simp[e])) λc _=>bO _|false::m,x::r,h=>bS (Ex (h x (by simp))) λa _=>bS (MQ λy e=>h y (by simp[e])) λc _=>bO _
theorem MS: ∀{m:List Bool} {xs:List AV} {a:List AV×List (Nat×Blk)},(∀x∈xs,∀b∈avR x,S b)->(fC m xs).run st=some a-> ∀y∈a.2,S y.1
 |m,[],a,_,h,y,g=>by unfold fC at h;injection h with h;subst h;simp at g
 |[],x::r,a,j,h,y,g=>by
  simp only[fC]at h;obtain⟨c,h1,h⟩:=bind_some h;obtain⟨e,h2,h⟩:=bind_some h;injection h with h;subst h;simp only[cF]at g;rcases g with g|g;exact j x (by simp) _ (Gm h1 y g);exact MS (λz k=>j z (by simp[k])) h2 y g
 |true::m,x::r,a,j,h,y,g=>by simp only[fC]at h;obtain⟨e,h2,h⟩:=bind_some h;injection h with h;subst h;exact MS (λz k=>j z (by simp[k])) h2 y g
 |false::m,x::r,a,j,h,y,g=>by
  simp only[fC]at h;obtain⟨c,h1,h⟩:=bind_some h;obtain⟨e,h2,h⟩:=bind_some h;injection h with h;subst h;simp only[cF]at g;rcases g with g|g;exact j x (by simp) _ (Gm h1 y g);exact MS (λz k=>j z (by simp[k])) h2 y g
theorem Er{ws:List (Nat×Blk)}{b:Nat}(h:S b):Rb S (qO ws b) st:=pH h λv _=>by split<;>exact bO _
theorem dx{ws:List (Nat×Blk)}: ∀{r:List Nat} {acc:List Ent},(∀b∈r,S b)->Rb S (eB ws (r.map .whole) acc) st|[],acc,_=>bO _|b::r,acc,h=>by simp only[bT,eB];refine bS (Er (h b (by simp))) λx _=>?_;cases x<;>exact dx λc hc=>h c (by simp[hc])
theorem su{ws:List (Nat×Blk)}{ρ:Ent->Option Nat}: ∀{r:List Nat},(∀b∈r,S b)->Rb S (kQ ws ρ (r.map .whole)) st
 |[],_=>bO _
 |b::r,h=>by
  simp only[bT,kQ,zC];refine bS (bS (Er (h b (by simp))) λx _=>?_) λx _=>bS (su λc hc=>h c (by simp[hc])) λl _=>bO _;cases x with
  |box cs=>dsimp only;split<;>first|exact bO _|exact JY
  |arr w e rows=>exact bO _
  |dead=>exact JY
theorem te{ws:List (Nat×Blk)}{es:List Ent}{new:Nat}: ∀{r:List Nat} {l:List Blk},Rb S (iS ws es new (r.map .whole) l) st
 |[],l=>by cases l<;>exact bO _
 |b::r,[]=>JY
 |b::r,x::l=>by
  simp only[bT,iS];refine bS ?_ λy _=>bS te λg _=>bO _;cases x with
  |box cs=>simp only[tY];split<;>first|exact bO _|exact JY
  |arr w e rows=>exact bO _
  |dead=>exact JY
theorem tg{ws:List (Nat×Blk)}{es:List Ent}{new:Nat}: ∀{r:List Nat} {l:List Blk} {g:List (Nat×Blk)},(iS ws es new (r.map .whole) l).run st=some g-> ∀y∈g,y.1∈r
 |[],l,g,h,y,j=>by
  have:g=[]:=by cases l<;>(injection h with h;exact h.symm)
  subst this;simp at j
 |b::r,[],g,h,_,_=>by cases h
 |b::r,x::l,g,h,y,j=>by
  simp only[bT,iS]at h;obtain⟨z,h1,h⟩:=bind_some h;obtain⟨k,h2,h⟩:=bind_some h;injection h with h;subst h;rcases cS.1 j with rfl|j;cases x with
  |box cs=>
   simp only[tY]at h1;split at h1;injection h1 with h1;subst h1;simp;cases h1
  |arr w e rows=>injection h1 with h1;subst h1;simp
  |dead=>cases h1
  exact qR _ (tg h2 y j)
theorem gw{es:List Ent}{new:Nat}: ∀{l:List Blk} {k:Nat} {n:List (Nat×Blk)},gW es new k l=some n-> ∀y∈n,∃j,j<l.length/\y.1=k+j
 |[],k,n,h,y,g=>by injection h with h;subst h;simp at g
 | .dead::l,k,n,h,_,_=>by cases h
 | .box cs::l,k,n,h,y,g=>by
  simp only[gW]at h;split at h;rename_i c q _ o;injection h with h;subst h;rcases cS.1 g with rfl|g;exact⟨0,by simp,rfl⟩;obtain⟨j,r,e⟩:=gw o y g;exact⟨j+1,by simp;omega,by omega⟩;cases h
 | .arr w e rows::l,k,n,h,y,g=>by
  simp only[gW]at h;split at h;rename_i q o;injection h with h;subst h;rcases cS.1 g with rfl|g;exact⟨0,by simp,rfl⟩;obtain⟨j,r,e⟩:=gw o y g;exact⟨j+1,by simp;omega,by omega⟩;cases h
theorem fo(e x:Ent)(l:List Ent)(h:e∈l):e∈wO x l:=by unfold wO;split<;>simp[h]
mutual
theorem JIV: ∀(x:AV) (l:List Ent) (e:Ent),e∈l->e∈cJ x l| .ptr b off,l,e,h=>fo e _ l h| .slr b i n,l,e,h=>fo e _ l h| .ep b g i off,l,e,h=>fo e _ l h| .fn f a c,l,e,h=>entsL_sub c _ e (entsL_sub a l e h)| .agg cs,l,e,h=>entsL_sub cs l e h| .tup cs,l,e,h=>entsL_sub cs l e h| .p _,l,e,h=>h| .data _,l,e,h=>h| .cp _ _,l,e,h=>h| .unk,l,e,h=>h
theorem entsL_sub: ∀(xs:List AV) (l:List Ent) (e:Ent),e∈l->e∈cJ.entsOfL xs l|[],l,e,h=>h|x::r,l,e,h=>entsL_sub r _ e (JIV x l e h)
end
theorem pn{ws:List (Nat×Blk)}: ∀{r acc l:List Ent},(eB ws r acc).run st=some l-> ∀e∈acc,e∈l:=by
 intro r
 induction r with
 |nil=>intro acc l h e g;injection h with h;subst h;exact g
 |cons x r ih=>
  intro acc l h e g;cases x with
  |whole b=>
   simp only[eB]at h;obtain⟨y,_,h⟩:=bind_some h;cases y with
   |box cs=>exact ih h e (entsL_sub cs acc e g)
   |_=>exact ih h e g
  |elem b j i=>exact ih h e g
theorem sj{F:Orc}{f:FuncId}{xs:List AV}{ws:List (Nat×Blk)}{e0 o ids:List Nat}{n new:Nat}(r: ∀b∈ids,S b)(hw: ∀y∈ws,S y.1)(hn: ∀j,j<n->S (new+j))
  (h0:cJ.entsOfL xs []=e0.map .whole) (h1:(eB ws (e0.map .whole) (e0.map .whole)).run st=some (o.map .whole)) (h2:(eB ws (o.map .whole) (o.map .whole)).run st=some (ids.map .whole)):
  Rb S (fP F f (xs,ws) n new) st/\(∀e,(fP F f (xs,ws) n new).run st=some e-> ∀y∈e.ws,S y.1):=by
 have s1: ∀b∈o,S b:=λb q=>by have:=pn h2 (.whole b) (jC.2 ⟨b,q,rfl⟩);obtain⟨c,hc,e⟩:=jC.1 this;injection e with e;subst e;exact r c hc
 have s0: ∀b∈e0,S b:=λb q=>by have:=pn h1 (.whole b) (jC.2 ⟨b,q,rfl⟩);obtain⟨c,hc,e⟩:=jC.1 this;injection e with e;subst e;exact s1 c hc
 constructor;unfold fP;simp only[h0];refine bS (dx s0) λa g=>?_;rw[h1]at g;injection g with g;subst g;refine bS (dx s1) λa g=>?_;rw[h2]at g;injection g with g;subst g;split;split;exact JY;refine bS (su r) λbl _=>?_;split;exact JY;split;split;exact bS te λ_ _=>bO _;exact JY;exact JY;exact JY;intro e h y k;unfold fP at h;simp only[h0]at h;obtain⟨a,g,h⟩:=bind_some h;rw[h1]at g;injection g with g;subst g;obtain⟨a,g,h⟩:=bind_some h;rw[h2]at g;injection g with g;subst g;split at h;split at h;cases h;obtain⟨bl,_,h⟩:=bind_some h;split at h;cases h;split at h;rename_i hlen;split at h;rename_i v fresh _ x;obtain⟨w,q,h⟩:=bind_some h;injection h with h;subst h;simp only[cF]at k;rcases k with(k|k)|k;exact hw y k;exact r _ (tg q y k);obtain⟨j,z,e⟩:=gw x y k;rw[e];exact hn j (by simp only[yK,fK]at z hlen;omega);cases h;cases h;cases h
end
def tcR:TC->List Nat| .ptr b _=>[b]| .slr b=>[b]| .slo b _=>[b]| .ep b _ _=>[b]| .epo b _ _ _=>[b]|_=>[]
def tvR:TV->List Nat| .a (.c x)=>tcR x| .a (.m _ cs)=>cs.flatMap tcR|_=>[]
theorem JMt(L:Nat->Nat)(x:TC):fL (aZ L x)=tcR x:=by cases x<;>rfl
theorem jM(L:Nat->Nat)(v:TV):avR (aT L v)=tvR v:=by
 cases v with
 |a x=>
  cases x with
  |c x=>cases x<;>rfl
  |dt t x=>rfl
  |m t cs=>
   show(cs.map (aZ L)).flatMap fL=cs.flatMap tcR;rw[List.flatMap_map]
   congr 1
   funext x;exact JMt L x
  |fn f a c=>rfl
 |tup vs=>rfl
def rng(new:Nat):Nat->List Nat|0=>[]|k+1=>new::rng (new+1) k
theorem rK: ∀{k new j:Nat},j<k->new+j∈rng new k
 |0,_,_,h=>by omega
 |k+1,new,j,h=>by
  cases j with
  |zero=>simp[rng]
  |succ j=>simp only[rng,cS];right;rw[show new+(j+1)=new+1+j by omega];exact rK (by omega)
def hQ{α β:Type}(m:Option α)(f:α->Option β):Option β:=match m with|some x=>f x|none=>none
theorem iC{α β:Type}{m:Option α}{f:α->Option β}{b:β}(h:hQ m f=some b): ∃a,m=some a/\f a=some b:=by
 cases m with
 |none=>cases h
 |some a=>exact⟨a,rfl,h⟩
def lr(l:List (TV×Bool))(s:TSt):Option (List Nat):=KH l s λxs s1=>hQ (FK xs []) λe=>hQ (wI s1 e e) λi1=>wI s1 i1 i1
def tcU(l:List (TV×Bool))(n new:Nat)(s:TSt):Option (List Nat×List Nat):=hQ (lr l s) λids=>some (rng new n++(l.flatMap λx=>tvR x.1)++ids,rng new n++(l.flatMap λx=>tvR x.1)++ids)
def tpR(s:TSt):List (Nat×TO)->Option (List Nat)|[]=>some []|(_,o)::r=>hQ (tev o s) λv=>hQ (tpR s r) λl=>some (tvR v++l)
def uw(op:TOp)(new:Nat)(s:TSt):Option (List Nat×List Nat):=
 match op with
 | .load _ _ x=>hQ (tev x s) λv=>some (tvR v,[])
 | .newbox _=>some ([new],[new])
 | .store _ x y=>hQ (tev x s) λv=>hQ (tev y s) λu=>some (tvR v++tvR u,tvR v++tvR u)
 | .iaddr _ x _=>hQ (tev x s) λv=>some (tvR v,[])
 | .lits own t n ps=>hQ (tpR s ps) λl=>some (rng new (bZ (.lits own t n ps))++l,rng new (bZ (.lits own t n ps))++l)
 | .appn _ _ y=>hQ (tev y s) λv=>some (new::tvR v,[new])
 | .app _ _ x y=>hQ (tev x s) λv=>hQ (tev y s) λu=>some (tvR v++tvR u,tvR v)
 | .slice _ x _ _ _=>hQ (tev x s) λv=>some (tvR v,tvR v)
 | .call _ args n=>hQ (vT (args.map λx=>(x,false)) s) λl=>tcU l n new s
 | .callo _ args n=>hQ (vT args s) λl=>tcU l n new s
 | .mkslice own t bytes l c=>some (rng new (bZ (.mkslice own t bytes l c)),rng new (bZ (.mkslice own t bytes l c)))
 | .conv k x=>hQ (tev x s) λv=>some (rng new (bZ (.conv k x))++tvR v,rng new (bZ (.conv k x)))
 |_=>none
theorem nT{F:Orc}{op:TOp}{new:Nat}{st:St}{S:Nat->Prop}(hd: ∀j,j<bZ op->S (new+j))(h:Rb S (opR F (erp op) new) st):Rb S (opD F (erp op) new) st:=by unfold opD;rw[MA];exact bS (F0 hd) λ_ _=>h
theorem nY{F:Orc}{op:AOp}{new:Nat}{st:St}{e:Eff}(h:(opD F op new).run st=some e):(opR F op new).run st=some e:=by unfold opD at h;obtain⟨_,_,h⟩:=bind_some h;exact h
def UW(F:Orc)(op:AOp)(new:Nat)(st:St)(U W:List Nat):Prop:=Rb (· ∈U) (opD F op new) st/\ ∀e,(opD F op new).run st=some e-> ∀y∈e.ws,y.1∈W
theorem lH{x:TO}{s:TSt}{v:TV}(h:tev x s=some v){a:AV}(ha:(ev (erO x)).run (Jy s)=some a):a=aT (lns s.sto) v:=by rw[bR h]at ha;injection ha with ha;exact ha.symm
theorem El{l:List (TV×Bool)}{s:TSt}{ids:List Nat}(h:lr l s=some ids): ∃(xs:List AV) (ws:List (Nat×Blk)) (e i1:List Nat),(fC (l.map (·.2)) (l.map λx=>aT (lns s.sto) x.1)).run (Jy s)=some (xs,ws)/\
  cJ.entsOfL xs []=e.map .whole/\(eB ws (e.map .whole) (e.map .whole)).run (Jy s)=some (i1.map .whole)/\(eB ws (i1.map .whole) (i1.map .whole)).run (Jy s)=some (ids.map .whole):=by
 unfold lr at h;obtain⟨xs,s1,ws,h1,g,h⟩:=eh (Fzd.refl s) h;rw[jA]at g;obtain⟨e,h2,h⟩:=iC h;obtain⟨i1,k,j⟩:=iC h;exact⟨_,ws,e,i1,h1,SN (lns s.sto) (l:=[]) h2,AH g k,AH g j⟩
theorem JIG{F:Orc}{f:FuncId}{vs:List AV}{n new:Nat}{st:St}{S:Nat->Prop}{a:List AV×List (Nat×Blk)}(ha:(kK vs).run st=some a)(hr:Rb S (kK vs) st)
  (h: ∀(_:Unit),Rb S (fP F f a n new) st):Rb S (hX F f vs n new) st:=by
 unfold hX;refine bS hr λo j=>?_;rw[ha]at j;injection j with j;subst j;have h:=h ();unfold fP at h;intro b g;refine h b ?_
 revert g
 simp only[xI];intro g;rcases cF.1 g with g|g;exact cF.2 (.inl g);refine cF.2 (.inr ?_)
 revert g
 cases(eB a.2 (cJ.entsOfL a.1 []) (cJ.entsOfL a.1 [])).run st with
 |none=>intro g;exact g
 |some k=>
  simp only[cU,Option.getD_some,xI];intro g;rcases cF.1 g with g|g;exact cF.2 (.inl g);refine cF.2 (.inr ?_)
  revert g
  cases(eB a.2 k k).run st with
  |none=>intro g;exact g
  |some es=>
   simp only[cU,Option.getD_some];split;split;intro g;exact g;simp only[xI];intro g;rcases cF.1 g with g|g;exact cF.2 (.inl g);refine cF.2 (.inr ?_)
   revert g
   cases(kQ a.2 (λe=>dG e es 0) es).run st with
   |none=>intro g;exact g
   |some bl=>
    simp only[cU,Option.getD_some];split;intro g;exact g;split;rename_i hlen;rw[if_pos (by omega)];intro g;exact g;intro g;simp[RM.reads]at g
   intro g;exact g
theorem JNO(F:Orc){op:TOp}{new:Nat}{s:TSt}{U W:List Nat}(h:uw op new s=some (U,W)):UW F (erp op) new (Jy s) U W:=by
 unfold uw at h;split at h;rename_i agg t x;obtain⟨v,C,h⟩:=iC h;injection h with h;injection h with h1 h2;subst h1 h2;refine⟨nT (op:=.load agg t x) (λj B=>by simp[bZ]at B) (bS (kG _) λa r=>?_),λe g y A=>?_⟩;rw[lH C r];exact JKm λb w=>by rw[jM]at w;exact w
 have g:=nY g;simp only[erp,opR]at g;obtain⟨a,r,g⟩:=bind_some g;rw[JKc g]at A;simp at A;rename_i t;injection h with h;injection h with h1 h2;subst h1 h2;refine⟨nT (op:=.newbox t) (λj B=>by simp[bZ]at B;subst B;simp) (bO _),λe g y A=>?_⟩;have g:=nY g;injection g with g;subst g;simp only[hO]at A;subst A;simp;rename_i t x y;obtain⟨v,C,h⟩:=iC h;obtain⟨u,J,h⟩:=iC h;injection h with h;injection h with h1 h2;subst h1 h2;refine⟨nT (op:=.store t x y) (λj B=>by simp[bZ]at B) (bS (kG _) λa r=>bS (kG _) λc hc=>?_),λe g z H=>?_⟩;rw[lH C r,lH J hc];exact JIE (λb w=>by rw[jM]at w;simp[w]) (λb w=>by rw[jM]at w;simp[w]);have g:=nY g;simp only[erp,opR]at g;obtain⟨a,r,g⟩:=bind_some g;obtain⟨c,hc,g⟩:=bind_some g;have:=JJf g z H;rwa[lH C r,lH J hc,jM,jM]at this;rename_i t x i;obtain⟨v,C,h⟩:=iC h;injection h with h;injection h with h1 h2;subst h1 h2;refine⟨nT (op:=.iaddr t x i) (λj B=>by simp[bZ]at B) (bS (kG _) λa r=>bS (kG _) λc hc=>?_),λe g y A=>?_⟩;rw[lH C r];exact JGT λb w=>by rw[jM]at w;exact w
 have g:=nY g;simp only[erp,opR]at g;obtain⟨a,r,g⟩:=bind_some g;obtain⟨c,hc,g⟩:=bind_some g;rw[JJ8 g]at A;simp at A;rename_i own t n ps;obtain⟨l,E,h⟩:=iC h;injection h with h;injection h with h1 h2;subst h1 h2;have Q: ∀x∈ps.map (λx=>erO x.2),∀v,(ev x).run (Jy s)=some v-> ∀b∈avR v,b∈rng new (bZ (.lits own t n ps))++l:=by
  have Y: ∀(ps:List (Nat×TO)) (l:List Nat),tpR s ps=some l-> ∀x∈ps.map (λx=>erO x.2),∀v,(ev x).run (Jy s)=some v-> ∀b∈avR v,b∈l:=by
   intro ps
   induction ps with
   |nil=>intro l _ x D;simp at D
   |cons p ps ih=>
    intro l E x D v C b w;obtain⟨i,o⟩:=p;simp only[tpR]at E;obtain⟨u,J,E⟩:=iC E;obtain⟨q,hq,E⟩:=iC E;injection E with E;subst E;simp only[bT,cS]at D;rcases D with rfl|D;rw[lH J C,jM]at w;simp[w];simp[ih q hq x D v C b w]
  intro x D v C b w;exact cF.2 (.inr (Y ps l E x D v C b w))
 have I:(ps.map λx=>(x.1,erO x.2)).map (·.2)=ps.map λx=>erO x.2:=by simp
 refine⟨nT (op:=.lits own t n ps) (λj B=>cF.2 (.inl (rK B))) ?_,λe g y A=>?_⟩;simp only[erp,opR,I];refine bS (Dr Q) λa _=>?_;split;split<;>exact bO _
 exact JY;have g:=nY g;simp only[erp,opR,I]at g;obtain⟨a,r,g⟩:=bind_some g;split at g;split at g;rename_i M;injection g with g;subst g;simp only[cF,hO]at A;rcases A with A|rfl;exact ZM Q r y A;exact cF.2 (.inl (by have:=rK (k:=bZ (.lits own t n ps)) (new:=new) (j:=0) (by simp[bZ,M]);simpa using this));injection g with g;subst g;exact ZM Q r y A;cases g;rename_i t bytes y;obtain⟨v,C,h⟩:=iC h;injection h with h;injection h with h1 h2;subst h1 h2;refine⟨nT (op:=.appn t bytes y) (λj B=>by simp[bZ]at B;subst B;simp) (bS (kG _) λa r=>?_),λe g z H=>?_⟩;rw[lH C r];refine bS (db λb w=>by rw[jM]at w;simp[w]) λrows _=>?_;split<;>first|exact bO _|exact JY
 have g:=nY g;simp only[erp,opR]at g;obtain⟨a,r,g⟩:=bind_some g;obtain⟨rows,_,g⟩:=bind_some g;split at g;injection g with g;subst g;simp only[hO]at H;subst H;simp;cases g;rename_i t bytes x y;obtain⟨v,C,h⟩:=iC h;obtain⟨u,J,h⟩:=iC h;injection h with h;injection h with h1 h2;subst h1 h2;refine⟨nT (op:=.app t bytes x y) (λj B=>by simp[bZ]at B) (bS (kG _) λa r=>bS (kG _) λc hc=>?_),λe g z H=>?_⟩;rw[lH C r,lH J hc];exact JMZ (λb w=>by rw[jM]at w;simp[w]) (λb w=>by rw[jM]at w;simp[w]);have g:=nY g;simp only[erp,opR]at g;obtain⟨a,r,g⟩:=bind_some g;obtain⟨c,hc,g⟩:=bind_some g;have:=JLU g z H;rwa[lH C r,jM]at this;rename_i kd x lo hi mx;obtain⟨v,C,h⟩:=iC h;injection h with h;injection h with h1 h2;subst h1 h2;refine⟨nT (op:=.slice kd x lo hi mx) (λj B=>by simp[bZ]at B) (bS (kG _) λa r=>bS (YS _) λ_ _=>bS (YS _) λ_ _=>bS (YS _) λ_ _=>?_),λe g z H=>?_⟩;have e:=lH C r;split;refine bS (KS λb w=>?_) λy _=>?_;rw[e,jM]at w;exact w;split;split<;>first|exact bO _|exact JY
 exact JY;exact QH _;have g:=nY g;simp only[erp,opR]at g;obtain⟨a,r,g⟩:=bind_some g;obtain⟨_,_,g⟩:=bind_some g;obtain⟨_,_,g⟩:=bind_some g;obtain⟨_,_,g⟩:=bind_some g;have e0:=lH C r;split at g;obtain⟨y,A,g⟩:=bind_some g;split at g;split at g;injection g with g;subst g;have:=KI A z H;rwa[e0,jM]at this;cases g;cases g;rw[QO g]at H;simp at H;rename_i f args n;obtain⟨l,E,h⟩:=iC h;unfold tcU at h;obtain⟨ids,hi,h⟩:=iC h;injection h with h;injection h with h1 h2;subst h1 h2;obtain⟨xs,ws,i0,i1,G,V,R,P⟩:=El hi;obtain⟨I,T⟩:=zY E;rw[RW]at I;rw[NH _ _ (λx D=>by rw[T,yR]at D;obtain⟨y,_,rfl⟩:=jC.1 D;rfl)]at G;have K: ∀x∈l.map (λx=>aT (lns s.sto) x.1),∀b∈avR x,b∈rng new n++(l.flatMap λx=>tvR x.1)++ids:=by intro x D b w;obtain⟨y,A,rfl⟩:=jC.1 D;rw[jM]at w;simp only[cF];exact .inl (.inr (List.mem_flatMap.2 ⟨y,A,w⟩))
 have Z:Rb (· ∈rng new n++(l.flatMap λx=>tvR x.1)++ids) (kK (l.map λx=>aT (lns s.sto) x.1)) (Jy s):=by rw[<-TM];exact MQ K
 have L: ∀y∈ws,y.1∈rng new n++(l.flatMap λx=>tvR x.1)++ids:=by rw[<-TM]at G;exact MS (S:=(· ∈rng new n++(l.flatMap λx=>tvR x.1)++ids)) K G
 obtain⟨N,O⟩:=sj (F:=F) (f:=f) (S:=(· ∈rng new n++(l.flatMap λx=>tvR x.1)++ids)) (n:=n) (new:=new) (λb w=>by simp[w]) L
  (λj B=>by simp only[cF];exact .inl (.inl (rK B))) V R P
 refine⟨nT (op:=.call f args n) (λj B=>by simp only[cF];exact .inl (.inl (rK B))) (bS (ZP _) λa r=>?_),λe g y A=>?_⟩;rw[I]at r;injection r with r;subst r;exact JIG G Z λ_=>N;have g:=nY g;simp only[erp,opR]at g;obtain⟨a,r,g⟩:=bind_some g;rw[I]at r;injection r with r;subst r;obtain⟨ar,h1,h2⟩:=Gf g;rw[G]at h1;injection h1 with h1;subst h1;exact O e h2 y A;rename_i f args n;obtain⟨l,E,h⟩:=iC h;unfold tcU at h;obtain⟨ids,hi,h⟩:=iC h;injection h with h;injection h with h1 h2;subst h1 h2;obtain⟨xs,ws,i0,i1,G,V,R,P⟩:=El hi;obtain⟨I,T⟩:=zY E;have K: ∀x∈l.map (λx=>aT (lns s.sto) x.1),∀b∈avR x,b∈rng new n++(l.flatMap λx=>tvR x.1)++ids:=by intro x D b w;obtain⟨y,A,rfl⟩:=jC.1 D;rw[jM]at w;simp only[cF];exact .inl (.inr (List.mem_flatMap.2 ⟨y,A,w⟩))
 rw[T]at G;have L: ∀y∈ws,y.1∈rng new n++(l.flatMap λx=>tvR x.1)++ids:=MS (S:=(· ∈rng new n++(l.flatMap λx=>tvR x.1)++ids)) K G;obtain⟨N,O⟩:=sj (F:=F) (f:=f) (S:=(· ∈rng new n++(l.flatMap λx=>tvR x.1)++ids)) (n:=n) (new:=new) (λb w=>by simp[w]) L
  (λj B=>by simp only[cF];exact .inl (.inl (rK B))) V R P
 refine⟨nT (op:=.callo f args n) (λj B=>by simp only[cF];exact .inl (.inl (rK B))) (bS (ZP _) λa r=>?_),λe g y A=>?_⟩;rw[I]at r;injection r with r;subst r;refine bS (MQ K) λa r=>?_;rw[G]at r;injection r with r;subst r;exact N;have g:=nY g;simp only[erp,opR]at g;obtain⟨a,r,g⟩:=bind_some g;rw[I]at r;injection r with r;subst r;obtain⟨a,r,g⟩:=bind_some g;rw[G]at r;injection r with r;subst r;exact O e g y A;rename_i own t bytes l c;injection h with h;injection h with h1 h2;subst h1 h2;refine⟨nT (op:=.mkslice own t bytes l c) (λj B=>rK B) (bS (kG _) λa r=>bS (kG _) λd hd=>?_),λe g y A=>?_⟩;split;split;split<;>exact bO _
 exact JY;exact JY;have g:=nY g;simp only[erp,opR]at g;obtain⟨a,r,g⟩:=bind_some g;obtain⟨d,hd,g⟩:=bind_some g;split at g;split at g;split at g;rename_i M;injection g with g;subst g;simp only[hO]at A;subst A;have:=rK (k:=bZ (.mkslice own t bytes l c)) (new:=new) (j:=0) (by simp[bZ,M]);simpa using this;injection g with g;subst g;simp at A;cases g;cases g;rename_i k x;obtain⟨v,C,h⟩:=iC h;injection h with h;injection h with h1 h2;subst h1 h2;refine⟨nT (op:=.conv k x) (λj B=>cF.2 (.inl (rK B))) (bS (kG _) λa r=>?_),λe g y A=>?_⟩;have hr: ∀b∈avR a,b∈rng new (bZ (.conv k x))++tvR v:=λb w=>by rw[lH C r,jM]at w;simp[w]
 split;exact bO _;exact bO _;refine bS (db hr) λrows _=>?_;split<;>first|exact bO _|exact JY
 split<;>exact bO _
 exact JY;have g:=nY g;simp only[erp,opR]at g;obtain⟨a,r,g⟩:=bind_some g;split at g;injection g with g;subst g;simp at A;injection g with g;subst g;simp at A;obtain⟨rows,_,g⟩:=bind_some g;split at g;injection g with g;subst g;simp at A;cases g;split at g;rename_i M;injection g with g;subst g;simp only[hO]at A;subst A;simp[bZ,M,rng];injection g with g;subst g;simp at A;cases g;cases h
abbrev oO:=Option (List Nat×List Nat)
section
variable {R:Type}
def Ay(i:jD)(s:TSt):Bool:=match i.g with|none=>false|some (g,e)=>if i.dst=some g then false else match tlk g s.env with|some (.a (.c (.d .b x)))=>if x=e then false else true|some (.tup [])=>true|_=>false
def uwI(i:jD)(new:Nat)(s s':TSt):oO:=if Ay i s'=true then some ([],[])else uw i.op new s
def PT(G:TG):List jD->Nat->TSt->List oO->(TSt->List oO->Option R)->Option R|[],_,s,l,k=>k s l|i::r,new,s,l,k=>VQ G i new s λs'=>PT G r (new+bZ i.op) s' (l++[uwI i new s s']) k
def tN:oO->(List Nat×List Nat)->Prop|none,_=>True|some (U,W),x=>(∀b∈x.1,b∈U)/\ ∀b∈x.2,b∈W
def OZ(l:List oO):List (Nat×Nat)->Bool
 |[]=>true
 |(i,j)::r=>(match l[i]?,l[j]? with
  |some (some a),some (some b)=>fZ a.2 b.1&&fZ a.2 b.2&&fZ a.1 b.2
  |_,_=>false)&&OZ l r
theorem NC{b:Nat}: ∀{l:List Loc},b∈jP l->Loc.blk b∈l
 | .blk c::r,h=>by
  simp only[jP,cS]at h;rcases h with rfl|h;simp;simp[NC h]
 | .slot n::r,h=>by simp only[jP]at h;simp[NC h]
theorem tN.snoc{l:List oO}{l0:Log}{x:oO}{y:List Nat×List Nat}(hl:l.length=l0.length)(ho: ∀(j:Nat) a b,l[j]?=some a->l0[j]?=some b->tN a b)(hx:tN x y)(j:Nat)(a:oO)(b:List Nat×List Nat)(ha:(l++[x])[j]?=some a)(hb:(l0++[y])[j]?=some b):tN a b:=by
 rcases zQ3 j l.length with g|g;rw[jY g]at ha;rw[jY (by omega)]at hb;exact ho j a b ha hb;rw[dX g]at ha;rw[dX (by omega)]at hb;have e:j-l.length=0:=by have:=Jw ha;simp at this;omega
 rw[e]at ha;rw[<-hl,e]at hb;simp at ha hb;subst ha hb;exact hx
theorem JKO{F:Orc}{i:jD}{new:Nat}{s s':TSt}{e:Eff}(h:(bW F (eri i) new).run (Jy s)=some e)(hp:put i.dst e (Jy s)=Jy s'):tN (uwI i new s s') (jP ((bW F (eri i) new).reads (Jy s)),e.ws.map (·.1)):=by
 unfold uwI;split;rename_i k;unfold Ay at k;split at k;cases k;rename_i g o C;split at k;cases k;rename_i hd;have D:lk g (Jy s').env=lk g (Jy s).env:=(by rw[<-hp];unfold put;split;rename_i d B;show lk g ((d,e.val)::(Jy s).env)=_;simp only[lk];rw[if_neg (λG=>hd (by rw[B,G]))];rfl);have r: ∀v,tlk g s'.env=some v->lk g (Jy s).env=some (aT (lns s'.sto) v):=λv z=>by rw[<-D];show lk g (fO _ s'.env)=_;rw[zQ,z];rfl
 split at k;rename_i x w;split at k;cases k;rename_i E;have n:=r _ w;rw[e_b]at n;have hi:bW F (eri i) new=.slot g fun
  | .p (.b x)=>if x=o then opD F (eri i).op new else .ret ⟨gG,[]⟩
  | .tup []=>.ret ⟨gG,[]⟩
  |_=>.fail:=by unfold bW;rw[show(eri i).g=i.g from rfl,C];rfl
 rw[hi]at h⊢;refine⟨λb j=>?_,λb j=>?_⟩;have:=NC j;simp only[RM.reads,n,cS,if_neg E]at this;rcases this with this|this;cases this;simp at this;simp only[xB,n,JO,if_neg E,bI]at h;injection h with h;subst h;exact j;rename_i w;have n:=r _ w;have n:lk g (Jy s).env=some (.tup []):=n;have hi:bW F (eri i) new=.slot g fun
  | .p (.b x)=>if x=o then opD F (eri i).op new else .ret ⟨gG,[]⟩
  | .tup []=>.ret ⟨gG,[]⟩
  |_=>.fail:=by unfold bW;rw[show(eri i).g=i.g from rfl,C];rfl
 rw[hi]at h⊢;refine⟨λb j=>?_,λb j=>?_⟩;have:=NC j;simp only[RM.reads,n,cS]at this;rcases this with this|this;cases this;simp at this;simp only[xB,n,JO,bI]at h;injection h with h;subst h;exact j;cases k;cases hu:uw i.op new s with
 |none=>trivial
 |some A=>
  obtain⟨U,W⟩:=A;obtain⟨h1,h2⟩:=JNO F hu;have H:Rb (· ∈U) (bW F (eri i) new) (Jy s):=(by unfold bW;split;exact h1;refine F3 λv z=>?_;split;split;exact h1;exact bO _;exact bO _;exact JY);refine⟨λb j=>H b (NC j),λb j=>?_⟩;obtain⟨y,q,rfl⟩:=jC.1 j;unfold bW at h;split at h;exact h2 e h y q;simp only[xB]at h;obtain⟨v,z,h⟩:=bK.1 h;split at h;split at h;exact h2 e h y q;injection h with h;subst h;simp at q;injection h with h;subst h;simp at q;cases h
theorem pp{F:Orc}{G:TG}(v:GOk F G): ∀{ins:List jD} {new:Nat} {s:TSt} {l:List oO} {l0:Log} {k:TSt->List oO->Option R} {r:R},l.length=l0.length->(∀(j:Nat) a b,l[j]?=some a->l0[j]?=some b->tN a b)->
  PT G ins new s l k=some r-> ∃s' l' g,jN F (ins.map eri) new (Jy s) l0=some (Jy s',l')/\k s' g=some r/\g.length=l'.length/\ ∀(j:Nat) a b,g[j]?=some a->l'[j]?=some b->tN a b
 |[],new,s,l,l0,k,r,n,o,h=>⟨s,l0,l,rfl,h,n,o⟩
 |i::q,new,s,l,l0,k,r,n,o,h=>by simp only[PT]at h;obtain⟨e,s1,h1,h2,h⟩:=Fv v h;obtain⟨w,l',g,A,y,z,x⟩:=pp v (l0:=l0++[(jP ((bW F (eri i) new).reads (Jy s)),e.ws.map (·.1))]) (by rw[eC,eC,n];rfl) (tN.snoc n o (JKO h1 h2)) h;refine⟨w,l',g,?_,y,z,x⟩;simp only[bT,jN,h1];rw[show put (eri i).dst e (Jy s)=Jy s1 from h2,show lB (eri i).op=bZ i.op from MA _,A]
theorem e9{a b e g:List Nat}(h:fZ e g=true)(ha: ∀x∈a,x∈e)(hb: ∀x∈b,x∈g):fZ a b=true:=by unfold fZ at h⊢;rw[VA]at h⊢;intro x k;have:=h x (ha x k);simp only[yN,List.contains_eq_mem,decide_eq_false_iff_not]at this⊢;exact λj=>this (hb x j)
theorem ph{l:List oO}{l':Log}(hl:l.length=l'.length)(ho: ∀(j:Nat) a b,l[j]?=some a->l'[j]?=some b->tN a b): ∀{ps:List (Nat×Nat)},OZ l ps=true->GB l' ps=true
 |[],_=>rfl
 |(i,j)::r,h=>by
  simp only[OZ,aS]at h;obtain⟨h1,h2⟩:=h;simp only[GB,aS];refine⟨?_,ph hl ho h2⟩;split at h1;rename_i a b n o;have hi:i<l'.length:=by have:=Jw n;omega
  have k:j<l'.length:=by have:=Jw o;omega
  have e:=ho i _ _ n (zQ9 hi);have g:=ho j _ _ o (zQ9 k);rw[zQ9 hi,zQ9 k];simp only[aS]at h1⊢;exact⟨⟨e9 h1.1.1 e.2 g.1,e9 h1.1.2 e.2 g.2⟩,e9 h1.2 e.1 g.2⟩;cases h1
def lm(G:TG)(pairs:List (Nat×Nat))(ins:List jD)(s:TSt)(k:TSt->Option R):Option R:=
 match pairs with
 |[]=>WV G ins s.sto.length (PF (KW ins) s) k
 |p::ps=>PT G ins s.sto.length (PF (KW ins) s) [] λs' l=>if OZ l (p::ps)=true then k s' else none
theorem JKV{F:Orc}{G:TG}(e:GOk F G){pairs:List (Nat×Nat)}{ins:List jD}{s:TSt}{k:TSt->Option R}{r:R}(h:lm G pairs ins s k=some r): ∃s',region F pairs (ins.map eri) (Jy s)=some (Jy s')/\k s'=some r:=by
 have hlen:(Jy s).sto.length=s.sto.length:=by simp[Jy]
 unfold lm at h;split at h;obtain⟨s',h1,h2⟩:=Gj e h;refine⟨s',?_,h2⟩;simp only[region,fa];rw[qa]at h1;rw[hlen];exact h1;obtain⟨s',l',v,h1,h2,o,g⟩:=pp e (l0:=[]) rfl (λj a b q w=>by simp at q) h;split at h2;rename_i n;refine⟨s',?_,h2⟩;simp only[region,fa];rw[qa]at h1;rw[hlen,h1];simp only[ph o g n,if_true];cases h2
end
end Go.Am
end
section
namespace Go.Am
def vX(m:Nat)(ids:List Nat)(s:TSt):TC->Option TC
 | .ptr b p=>if b<m then some (.ptr b p)else match eI b ids m with|some k=>some (.ptr k p)|none=>none
 | .slr b=>if b<m then some (.slr b)else match eI b ids m with|some k=>some (.slr k)|none=>match s.sto[b]? with|some (.arr _ t rows)=>some (.d (.l t) rows)|_=>none
 | .slo b n=>if b<m then some (.slo b n)else match eI b ids m with|some k=>some (.slo k n)|none=>none
 | .ep b i p=>if b<m then some (.ep b i p)else match eI b ids m with|some k=>some (.ep k i p)|none=>none
 | .epo b e i p=>if b<m then some (.epo b e i p)else match eI b ids m with|some k=>some (.epo k e i p)|none=>none
 |x=>some x
def zB(m:Nat)(ids:List Nat)(s:TSt):List TC->Option (List TC)|[]=>some []|x::r=>match vX m ids s x,zB m ids s r with|some y,some l=>some (y::l)|_,_=>none
def EU(m:Nat)(ids:List Nat)(s:TSt):TA->Option TA
 | .c x=>match vX m ids s x with|some y=>some (.c y)|none=>none
 | .dt t x=>some (.dt t x)
 | .m t cs=>match zB m ids s cs with
  |some l=>match asm t l with|some x=>some (.dt t x)|none=>if l.any VO=true then some (.m t l)else none
  |none=>none
 | .fn f a c=>match zB m ids s a,zB m ids s c with|some a,some c=>some (.fn f a c)|_,_=>none
def LJ(m:Nat)(ids:List Nat)(s:TSt):List TA->Option (List TA)|[]=>some []|x::r=>match EU m ids s x,LJ m ids s r with|some y,some l=>some (y::l)|_,_=>none
def ms(m:Nat)(ids:List Nat)(s:TSt):TV->Option TV
 | .a x=>match EU m ids s x with|some y=>some (.a y)|none=>none
 | .tup vs=>match LJ m ids s vs with|some l=>some (.tup l)|none=>none
def KU(m:Nat)(ids:List Nat)(s:TSt):TB->Option TB
 | .mbox t cs=>match zB m ids s cs with|some l=>some (mkb t l)|none=>none
 |x=>some x
def wL(m:Nat)(ids:List Nat)(s:TSt):List TB->Option (List TB)|[]=>some []|x::r=>match KU m ids s x,wL m ids s r with|some y,some l=>some (y::l)|_,_=>none
def PK(m:Nat)(s:TSt):List (Nat×TV)->Option (List (Nat×TV))|[]=>some []|(k,x)::r=>match ms m [] s x,PK m s r with|some y,some l=>some ((k,y)::l)|_,_=>none
def pJ:List Nat->List (Nat×TV)->List (Nat×TV)|[],_=>[]|k::r,env=>match tlk k env with|some v=>(k,v)::pJ r env|none=>pJ r env
theorem MY(L:Nat->Nat)(env:List (Nat×TV)): ∀live:List Nat,restr live (fO L env)=fO L (pJ live env)
 |[]=>rfl
 |k::r=>by
  simp only[restr,pJ,zQ];cases tlk k env with
  |none=>exact MY L env r
  |some v=>
   have ih:=MY L env r;grind [fO]
section
variable {m:Nat} {ids:List Nat} {s:TSt} {L':Nat->Nat} (h1: ∀b,b<m->L' b=lns s.sto b) (h2: ∀b k,eI b ids m=some k->L' k=lns s.sto b)
include h1 h2
theorem qg{x y:TC}(h:vX m ids s x=some y):fin m ids (Jy s).sto (aZ (lns s.sto) x)=some (aZ L' y):=by
 cases x with
 |ptr b p=>
  grind [vX,aZ,fin]
 |slr b=>
  simp only[vX]at h;simp only[aZ,fin];split at h;grind
  ·rename_i g;rw[if_neg g];split at h
   all_goals grind [eM,YQ,nZ,cel,hdP]
 |slo b n=>
  grind [vX,aZ,fin]
 |ep b i p=>
  grind [vX,aZ,fin]
 |epo b e i p=>
  grind [vX,aZ,fin]
 |_=>injection h with h;subst h;rfl
theorem RS: ∀{xs e:List TC},zB m ids s xs=some e->fin.finL m ids (Jy s).sto (xs.map (aZ (lns s.sto)))=some (e.map (aZ L'))
 |[],e,h=>by injection h with h;subst h;rfl
 |x::r,e,h=>by
  simp only[zB]at h;split at h;rename_i y l j g;injection h with h;subst h;simp only[bT,fin.finL,qg h1 h2 j,RS g];cases h
theorem pe{x y:TA}(h:EU m ids s x=some y):fin m ids (Jy s).sto (bQ (lns s.sto) x)=some (bQ L' y):=by
 cases x with
 |c x=>
  simp only[EU]at h;split at h;rename_i y j;injection h with h;subst h;exact qg h1 h2 j;cases h
 |dt t x=>injection h with h;subst h;rfl
 |m t cs=>
  simp only[EU]at h;split at h;rename_i l g;have e:=RS h1 h2 g;grind [bQ,fin,LP,MP,cl];cases h
 |fn f a c=>
  grind [EU,bQ,fin,RS]
theorem gu: ∀{xs e:List TA},LJ m ids s xs=some e->fin.finL m ids (Jy s).sto (xs.map (bQ (lns s.sto)))=some (e.map (bQ L'))
 |[],e,h=>by injection h with h;subst h;rfl
 |x::r,e,h=>by
  simp only[LJ]at h;split at h;rename_i y l j g;injection h with h;subst h;simp only[bT,fin.finL,pe h1 h2 j,gu g];cases h
theorem JIm{x y:TV}(h:ms m ids s x=some y):fin m ids (Jy s).sto (aT (lns s.sto) x)=some (aT L' y):=by cases x<;>grind [ms,pe,aT,fin,gu]
theorem JHd{x y:TB}(h:KU m ids s x=some y):fU m ids (Jy s).sto (aY (lns s.sto) x)=some (aY L' y):=by
 cases x with
 |mbox t cs=>
  grind [KU,MD,fU,RS,RK]
 |box t x=>injection h with h;grind [FJ,fU,rf]
 |_=>injection h with h;subst h;rfl
theorem SQ: ∀{xs e:List TB},wL m ids s xs=some e->qS m ids (Jy s).sto (xs.map (aY (lns s.sto)))=some (e.map (aY L'))
 |[],e,h=>by injection h with h;subst h;rfl
 |x::r,e,h=>by
  simp only[wL]at h;split at h;rename_i y l j g;injection h with h;subst h;simp only[bT,qS,JHd h1 h2 j,SQ g];cases h
end
theorem JGd{m:Nat}{ids:List Nat}{s:TSt}{x y:TB}(h:KU m ids s x=some y):lnB y=lnB x:=by
 cases x with
 |mbox t cs=>
  simp only[KU]at h;split at h;injection h with h;subst h;exact RB _ _;cases h
 |_=>injection h with h;subst h;rfl
theorem TL{m:Nat}{ids:List Nat}{s:TSt}: ∀{xs e:List TB},wL m ids s xs=some e->e.length=xs.length/\ ∀(k:Nat),lns e k=lns xs k
 |[],e,h=>by injection h with h;simp_all
 |x::r,e,h=>by
  simp only[wL]at h;split at h;rename_i y l j g;injection h with h;subst h;obtain⟨n,o⟩:=TL g;refine⟨by simp[n],λk=>?_⟩;cases k with
  |zero=>exact JGd j
  |succ k=>exact o k
  cases h
theorem o4{m:Nat}{s:TSt}{L':Nat->Nat}(h1: ∀b,b<m->L' b=lns s.sto b): ∀{env e:List (Nat×TV)},PK m s env=some e->vJ m (Jy s).sto (fO (lns s.sto) env)=some (fO L' e)
 |[],e,h=>by injection h with h;subst h;rfl
 |(k,x)::r,e,h=>by
  simp only[PK]at h;split at h;rename_i y l n j;injection h with h;subst h;simp only[fO,bT,vJ];rw[JIm (ids:=[]) h1 (λb k g=>by cases g) n];have ih:=o4 h1 j;grind [fO];cases h
def rH(n:Nat)(live:List Nat)(s:TSt):Option TSt:=
 if s.sto.length=n then some ⟨pJ live s.env,s.sto⟩
 else match PK n s (pJ live s.env),wL n [] s (s.sto.take n)with|some e,some l=>some ⟨e,l⟩|_,_=>none
theorem GG{n:Nat}{live:List Nat}{s s':TSt}(h:rH n live s=some s'):clean n live (Jy s)=some (Jy s'):=by
 unfold rH at h;have hlen:(Jy s).sto.length=s.sto.length:=by simp[Jy]
 split at h;grind [clean,Jy,MY];rename_i o;split at h;rename_i e l q g;injection h with h;subst h;obtain⟨v,y⟩:=TL g;have hL: ∀b,b<n->lns l b=lns s.sto b:=λb r=>by
  grind [lns]
 unfold clean;rw[hlen,if_neg o];have x:=o4 hL q;have w:=SQ (ids:=[]) hL (λb k j=>by cases j) g;grind [Jy,MY,List.map_take];cases h
inductive zA where|tmp (t:Nat)|cell (t:Nat) (agg:Bool) (ty:Ty)
def erR:zA->vK| .tmp t=>.tmp t| .cell t agg ty=>.cell t agg ty.sz
def nk(agg:Bool)(ty:Ty)(v:TV)(s:TSt):Option TA:=
 if agg=true\/ty.sz=1 then
  match v with
  | .a (.c (.ptr b []))=>match s.sto[b]? with
   |some (.box e x)=>if h:e=ty then(if agg=true then some (.dt ty (h▸x))else some (.c (.d ty (h▸x))))else none
   |some (.mbox _ cs)=>if cs.length=ty.sz then
    match mka agg ty cs with
    |some (.a x)=>some x
    |_=>none
    else none
   |_=>none
  |_=>none
 else none
theorem JHc{agg:Bool}{ty:Ty}{v:TV}{s:TSt}{x:TA}(h:nk agg ty v s=some x): ∃e,(gE agg ty.sz (aT (lns s.sto) v)).run (Jy s)=some e/\e.val=bQ (lns s.sto) x:=by
 unfold nk at h;split at h;rename_i w;split at h;rename_i b;split at h;rename_i g y j;split at h;rename_i n;subst n;refine⟨⟨bQ (lns s.sto) x,[]⟩,?_,rfl⟩;have hc:kR agg ((cel g y).map .p)=oB agg (cel g y):=by
  unfold kR oB;split;rw[MP];cases hcel:cel g y with
  |nil=>rfl
  |cons a l=>cases l<;>rfl
 have k:sub (cel g y) 0 g.sz=some (cel g y):=ZY (eD _ _);have r:=FG (lns s.sto) w y;simp only[kJ,spo,gE,eG,eM,j,cU,JO,FJ,GE,k,hc,r,val,bI];unfold mkv;split at h;rename_i h1;injection h with h;subst h;rw[if_pos h1];rfl;rename_i h1;injection h with h;subst h;rw[if_neg h1];rfl;cases h;rename_i cs j;split at h;rename_i q;split at h;rename_i y o;injection h with h;subst h;have k:sub cs 0 ty.sz=some cs:=ZY q;refine⟨⟨bQ (lns s.sto) y,[]⟩,?_,rfl⟩;simp only[kJ,spo,gE,eG,eM,j,cU,JO,MD,GE,k,FL (lns s.sto) o,val,bI];rfl;cases h;cases h;cases h;cases h;cases h
def DN:List zA->TSt->Option (List TA)
 |[],_=>some []
 | .tmp t::r,s=>match tlk t s.env,DN r s with|some (.a x),some l=>some (x::l)|_,_=>none
 | .cell t agg ty::r,s=>match tlk t s.env with
  |some v=>match nk agg ty v s,DN r s with|some x,some l=>some (x::l)|_,_=>none
  |none=>none
theorem Fp(s:TSt)(t:Nat):(RM.slot t RM.ret).run (Jy s)=(tlk t s.env).map (aT (lns s.sto)):=by rw[xB];show(lk t (fO _ s.env)).bind _=_;simp[zQ]
theorem dh{s:TSt}: ∀{k:List zA} {l:List TA},DN k s=some l->(nF (k.map erR)).run (Jy s)=some (l.map (bQ (lns s.sto)))
 |[],l,h=>by injection h with h;subst h;rfl
 | .tmp t::r,l,h=>by
  simp only[DN]at h;split at h;rename_i x l' j g;injection h with h;subst h;simp only[bT,erR,nF,run_bind,Fp,j,cU,JO,dh g,bI];rfl;cases h
 | .cell t agg ty::r,l,h=>by
  simp only[DN]at h;split at h;rename_i v n;split at h;rename_i x l' j g;injection h with h;subst h;obtain⟨e,o,q⟩:=JHc j;simp only[bT,erR,nF,run_bind,Fp,n,cU,JO,o,dh g,bI,q];cases h;cases h
def KO(s:TSt):List Nat->List Nat->Option (List Nat)
 |[],acc=>some acc
 |b::r,acc=>match s.sto[b]? with
  |some (.mbox _ cs)=>match vW cs acc with|some acc=>KO s r acc|none=>none
  |some _=>KO s r acc
  |none=>none
theorem SA{s:TSt}: ∀{r acc l:List Nat},KO s r acc=some l->qU (Jy s).sto (r.map .whole) (acc.map .whole)=l.map .whole
 |[],acc,l,h=>by injection h with h;subst h;rfl
 |b::r,acc,l,h=>by
  simp only[KO]at h;split at h;rename_i cs e;split at h;rename_i g j;simp only[bT,qU,eM,e,cU,MD,MT (lns s.sto) j];exact SA h;cases h;rename_i x k e;simp only[bT,qU,eM,e,cU];cases x with
  |mbox t cs=>simp_all
  |box t x=>simp only[FJ];rw[ss];exact SA h
  |_=>exact SA h
  cases h
def lI(m:Nat)(fresh:Bool)(s:TSt):List Nat->List Nat
 |[]=>[]
 |b::r=>if b<m then lI m fresh s r else
  match s.sto[b]? with
  |some (.box _ _)=>b::lI m fresh s r
  |some (.mbox _ _)=>b::lI m fresh s r
  |some (.arr _ _ _)=>if fresh=true then b::lI m fresh s r else lI m fresh s r
  |_=>lI m fresh s r
theorem tp{m:Nat}{fresh:Bool}{s:TSt}: ∀r:List Nat,jQ m fresh (Jy s).sto (r.map .whole)=lI m fresh s r
 |[]=>rfl
 |b::r=>by
  simp only[bT,jQ,lI,eM];rw[tp r];split;rfl;cases s.sto[b]? with
  |none=>rfl
  |some x=>cases x<;>rfl
def PU(s:TSt):List Nat->Option (List TB)|[]=>some []|b::r=>match s.sto[b]?,PU s r with|some x,some l=>some (x::l)|_,_=>none
theorem ow{s:TSt}: ∀{ids:List Nat} {l:List TB},PU s ids=some l->wA (Jy s).sto ids=some (l.map (aY (lns s.sto)))/\l.length=ids.length/\ ∀(j b:Nat),ids[j]?=some b->lns l j=lns s.sto b
 |[],l,h=>by injection h with h;simp_all
 |b::r,l,h=>by
  simp only[PU]at h;split at h;rename_i x l' o e;injection h with h;subst h;obtain⟨g,n,k⟩:=ow e;grind [wA,eM,lns];cases h
def HW:List TA->TV|[x]=>.a x|l=>.tup l
theorem Fy(L:Nat->Nat)(l:List TA):one (l.map (bQ L))=aT L (HW l):=by
 match l with
 |[]=>rfl
 |[x]=>rfl
 |x::y::r=>rfl
section
variable {R:Type}
def MF(res:List zA)(fresh:Bool)(m:Nat)(s:TSt)(E:TV->List TB->Option R):Option R:=
 match DN res s with
 |none=>none
 |some vs=>
  if s.sto.length=m then E (HW vs) s.sto
  else match FK vs []with
   |none=>none
   |some e=>match KO s e e with
    |none=>none
    |some i1=>if jL (lI m fresh s i1)=true/\m<=s.sto.length then
     match LJ m (lI m fresh s i1) s vs,wL m (lI m fresh s i1) s (s.sto.take m),PU s (lI m fresh s i1)with
     |some ws,some l,some q=>match wL m (lI m fresh s i1) s q with|some q'=>E (HW ws) (l++q')|none=>none
     |_,_,_=>none
     else none
theorem JES{f:AFn}{res:List zA}{fresh:Bool}{m:Nat}{s:TSt}{E:TV->List TB->Option R}{r:R}(n:f.res=res.map erR)(J:f.fresh=fresh)(h:MF res fresh m s E=some r):
  ∃v out,gX f m (Jy s)=some (aT (lns out) v,out.map (aY (lns out)))/\E v out=some r:=by
 unfold MF at h;have hlen:(Jy s).sto.length=s.sto.length:=by simp[Jy]
 split at h;cases h;rename_i vs hvs;have C:=dh hvs;split at h;rename_i z;refine⟨HW vs,s.sto,?_,h⟩;unfold gX;rw[n,C];dsimp only;rw[hlen,if_pos z,Fy];rfl;rename_i z;split at h;cases h;rename_i B x;split at h;cases h;rename_i i1 o;split at h;rename_i j;obtain⟨L,Z⟩:=j;generalize g:lI m fresh s i1=ids at*;split at h;rename_i ws l q w y F;split at h;rename_i q' e;refine⟨HW ws,l++q',?_,h⟩;obtain⟨U,G⟩:=TL y;obtain⟨S,O,M⟩:=ow F;obtain⟨P,T⟩:=TL e;have I:l.length=m:=by simp_all
 have h1: ∀b,b<m->lns (l++q') b=lns s.sto b:=λb W=>by
  have:=G b;grind [lns]
 have h2: ∀b k,eI b ids m=some k->lns (l++q') k=lns s.sto b:=λb k D=>by
  obtain⟨K,H⟩:=SR D;grind [lns]
 have e1:=gu h1 h2 w;have Y:=SQ h1 h2 y;have e3:=SQ h1 h2 e;have V:cJ.entsOfL (vs.map (bQ (lns s.sto))) []=B.map .whole:=SN (lns s.sto) (l:=[]) x;have N:=SA o;have A:=tp (m:=m) (fresh:=fresh) (s:=s) i1;rw[g]at A;have Q:(Jy s).sto.take m=(s.sto.take m).map (aY (lns s.sto)):=by simp[Jy]
 grind [gX,Fy];cases h;cases h;cases h
end
end Go.Am
end
section
namespace Go.Am
inductive ShC where
 |d (t:Ty)
 |sc (t:Ty)
 |np
 |nf
 |un
 |ptr (b:Nat) (p:List Sp)
 |cp (t:Ty) (p:List Sp)
 |slr (b:Nat)
 |fn (f:FuncId)
 deriving DecidableEq
inductive ShA where
 |c (x:ShC)
 |dt (t:Ty)
 |m (t:Ty) (cs:List ShC)
 |fn (f:FuncId) (a c:List ShC)
 deriving DecidableEq
inductive ShV where
 |a (x:ShA)
 |tup (vs:List ShA)
 deriving DecidableEq
inductive ShB where
 |dead
 |box (t:Ty)
 |mbox (t:Ty) (cs:List ShC)
 |arr (w:Bool) (t:Ty)
 deriving DecidableEq
structure ShS where
 env:List (Nat×ShV)
 sto:List ShB
 deriving DecidableEq
abbrev Lf:=(t:Ty)×t.D
def shC:TC->Option (ShC×List Lf)| .d t x=>some (.d t,[⟨t,x⟩])| .sc t rows=>some (.sc t,[⟨.l t,rows⟩])| .np=>some (.np,[])| .nf=>some (.nf,[])| .un=>some (.un,[])| .ptr b p=>if(tA p).isSome=true then some (.ptr b p,[])else none| .cp t x p=>if(tA p).isSome=true then some (.cp t p,[⟨t,x⟩])else none| .slr b=>some (.slr b,[])| .fn f=>some (.fn f,[])|_=>none
def lf1(t:Ty)(l:List Lf):Option (t.D×List Lf):=
 match l with
 |⟨t',x⟩::r=>if h:t'=t then some (h▸x,r)else none
 |[]=>none
def mkC:ShC->List Lf->Option (TC×List Lf)
 | .d t,l=>match lf1 t l with|some (x,r)=>some (.d t x,r)|none=>none
 | .sc t,l=>match lf1 (.l t) l with|some (x,r)=>some (.sc t x,r)|none=>none
 | .np,l=>some (.np,l)
 | .nf,l=>some (.nf,l)
 | .un,l=>some (.un,l)
 | .ptr b p,l=>some (.ptr b p,l)
 | .cp t p,l=>match lf1 t l with|some (x,r)=>some (.cp t x p,r)|none=>none
 | .slr b,l=>some (.slr b,l)
 | .fn f,l=>some (.fn f,l)
theorem LL(t:Ty)(x:t.D)(r:List Lf):lf1 t (⟨t,x⟩::r)=some (x,r):=by simp[lf1]
theorem LN{x:TC}{sh:ShC}{e:List Lf}(h:shC x=some (sh,e))(rest:List Lf):mkC sh (e++rest)=some (x,rest):=by
 cases x<;>simp only[shC]at h<;>first
  |(split at h
    simp only[Option.some.injEq,Prod.mk.injEq]at h;obtain⟨rfl,rfl⟩:=h;simp only[mY,jA,mkC,LL];cases h)
  |(simp only[Option.some.injEq,Prod.mk.injEq]at h
    obtain⟨rfl,rfl⟩:=h;simp only[mY,jA,mkC,LL])
  |cases h
def shL{α σ:Type}(f:α->Option (σ×List Lf)):List α->Option (List σ×List Lf)|[]=>some ([],[])|x::r=>match f x,shL f r with|some (s,l),some (q,k)=>some (s::q,l++k)|_,_=>none
def mkL{α σ:Type}(g:σ->List Lf->Option (α×List Lf)):List σ->List Lf->Option (List α×List Lf)
 |[],l=>some ([],l)
 |s::r,l=>match g s l with
  |some (x,l)=>match mkL g r l with|some (q,l)=>some (x::q,l)|none=>none
  |none=>none
theorem pG{α σ:Type}{f:α->Option (σ×List Lf)}{g:σ->List Lf->Option (α×List Lf)}(n: ∀{x:α} {s:σ} {e:List Lf},f x=some (s,e)-> ∀rest,g s (e++rest)=some (x,rest)):
  ∀{xs:List α} {j:List σ} {e:List Lf},shL f xs=some (j,e)-> ∀rest,mkL g j (e++rest)=some (xs,rest)
 |[],j,e,h,rest=>by injection h with h;injection h with h1 h2;subst h1 h2;rfl
 |x::r,j,e,h,rest=>by
  simp only[shL]at h;split at h;rename_i s l q k h1 h2;injection h with h;injection h with h3 h4;subst h3 h4;simp only[mkL,kF,n h1,pG n h2];cases h
def shA:TA->Option (ShA×List Lf)
 | .c x=>match shC x with|some (s,l)=>some (.c s,l)|none=>none
 | .dt t x=>some (.dt t,[⟨t,x⟩])
 | .m t cs=>match shL shC cs with|some (s,l)=>some (.m t s,l)|none=>none
 | .fn f a c=>match shL shC a,shL shC c with|some (s,l),some (q,k)=>some (.fn f s q,l++k)|_,_=>none
def mkA:ShA->List Lf->Option (TA×List Lf)
 | .c s,l=>match mkC s l with|some (x,l)=>some (.c x,l)|none=>none
 | .dt t,l=>match lf1 t l with|some (x,l)=>some (.dt t x,l)|none=>none
 | .m t s,l=>match mkL mkC s l with|some (x,l)=>some (.m t x,l)|none=>none
 | .fn f a c,l=>match mkL mkC a l with
  |some (x,l)=>match mkL mkC c l with|some (y,l)=>some (.fn f x y,l)|none=>none
  |none=>none
theorem ZS{x:TA}{sh:ShA}{e:List Lf}(h:shA x=some (sh,e))(rest:List Lf):mkA sh (e++rest)=some (x,rest):=by
 cases x with
 |c x=>
  simp only[shA]at h;split at h;rename_i s l h1;injection h with h;injection h with h2 h3;subst h2 h3;simp only[mkA,LN h1];cases h
 |dt t x=>injection h with h;grind [mkA,LL]
 |m t cs=>
  simp only[shA]at h;split at h;rename_i s l h1;injection h with h;injection h with h2 h3;subst h2 h3;simp only[mkA,pG LN h1];cases h
 |fn f a c=>
  simp only[shA]at h;split at h;rename_i s l q k h1 h2;injection h with h;injection h with h3 h4;subst h3 h4;simp only[mkA,kF,pG LN h1,pG LN h2];cases h
def shV:TV->Option (ShV×List Lf)
 | .a x=>match shA x with|some (s,l)=>some (.a s,l)|none=>none
 | .tup vs=>match shL shA vs with|some (s,l)=>some (.tup s,l)|none=>none
def mkV:ShV->List Lf->Option (TV×List Lf)
 | .a s,l=>match mkA s l with|some (x,l)=>some (.a x,l)|none=>none
 | .tup s,l=>match mkL mkA s l with|some (x,l)=>some (.tup x,l)|none=>none
theorem D0{x:TV}{sh:ShV}{e:List Lf}(h:shV x=some (sh,e))(rest:List Lf):mkV sh (e++rest)=some (x,rest):=by
 cases x with
 |a x=>
  simp only[shV]at h;split at h;rename_i s l h1;injection h with h;injection h with h2 h3;subst h2 h3;simp only[mkV,ZS h1];cases h
 |tup vs=>
  simp only[shV]at h;split at h;rename_i s l h1;injection h with h;injection h with h2 h3;subst h2 h3;simp only[mkV,pG ZS h1];cases h
def shB:TB->Option (ShB×List Lf)
 | .dead=>some (.dead,[])
 | .box t x=>some (.box t,[⟨t,x⟩])
 | .mbox t cs=>match shL shC cs with|some (s,l)=>some (.mbox t s,l)|none=>none
 | .arr w t rows=>some (.arr w t,[⟨.l t,rows⟩])
def mkB:ShB->List Lf->Option (TB×List Lf)
 | .dead,l=>some (.dead,l)
 | .box t,l=>match lf1 t l with|some (x,l)=>some (.box t x,l)|none=>none
 | .mbox t s,l=>match mkL mkC s l with|some (x,l)=>some (.mbox t x,l)|none=>none
 | .arr w t,l=>match lf1 (.l t) l with|some (x,l)=>some (.arr w t x,l)|none=>none
theorem ZA{x:TB}{sh:ShB}{e:List Lf}(h:shB x=some (sh,e))(rest:List Lf):mkB sh (e++rest)=some (x,rest):=by
 cases x with
 |dead=>injection h with h;injection h with h2 h3;subst h2 h3;rfl
 |box t x=>injection h with h;grind [mkB,LL]
 |mbox t cs=>
  simp only[shB]at h;split at h;rename_i s l h1;injection h with h;injection h with h2 h3;subst h2 h3;simp only[mkB,pG LN h1];cases h
 |arr w t rows=>injection h with h;grind [mkB,LL]
def shE(x:Nat×TV):Option ((Nat×ShV)×List Lf):=match shV x.2 with|some (s,l)=>some ((x.1,s),l)|none=>none
def mkE(x:Nat×ShV)(l:List Lf):Option ((Nat×TV)×List Lf):=match mkV x.2 l with|some (v,l)=>some ((x.1,v),l)|none=>none
theorem JLu{x:Nat×TV}{sh:Nat×ShV}{e:List Lf}(h:shE x=some (sh,e))(rest:List Lf):mkE sh (e++rest)=some (x,rest):=by
 unfold shE at h;split at h;rename_i s l h1;injection h with h;injection h with h2 h3;subst h2 h3;simp only[mkE,D0 h1];cases h
def shS(s:TSt):Option (ShS×List Lf):=match shL shE s.env,shL shB s.sto with|some (a,l),some (c,k)=>some (⟨a,c⟩,l++k)|_,_=>none
def vV(s:ShS)(l:List Lf):Option TSt:=match mkL mkE s.env l with
 |some (a,l)=>match mkL mkB s.sto l with|some (c,[])=>some ⟨a,c⟩|_=>none
 |none=>none
theorem Gn{x:TSt}{sh:ShS}{g:List Lf}(h:shS x=some (sh,g)):vV sh g=some x:=by
 unfold shS at h;split at h;rename_i a l c k h1 h2;injection h with h;injection h with h3 h4;subst h3 h4;have e:=pG ZA h2 [];rw[jZ]at e;simp only[vV,pG JLu h1,e];cases h
def tyL:List Ty->Ty|[]=>.u|[t]=>t|t::t'::r=>.pr t (tyL (t'::r))
def yY:(e:List Lf)->(tyL (e.map (·.1))).D|[]=>()|[x]=>x.2|x::y::r=>(x.2,yY (y::r))
def nP:(ts:List Ty)->(tyL ts).D->List Lf|[],_=>[]|[t],x=>[⟨t,x⟩]|t::t'::r,x=>⟨t,x.1⟩::nP (t'::r) x.2
theorem gj: ∀e:List Lf,nP (e.map (·.1)) (yY e)=e
 |[]=>rfl
 |[x]=>rfl
 |x::y::r=>by
  have:=gj (y::r);grind [nP,yY]
def asL(ts:List Ty)(e:List Lf):Option (tyL ts).D:=if h:e.map (·.1)=ts then some (h▸yY e)else none
theorem ZE{ts:List Ty}{e:List Lf}{x:(tyL ts).D}(h:asL ts e=some x):nP ts x=e:=by
 grind [asL,gj]
def DJ(sh:ShS)(ts:List Ty)(s:TSt):Option (tyL ts).D:=match shS s with|some (e,g)=>if e=sh then asL ts g else none|none=>none
theorem Fc{sh:ShS}{ts:List Ty}{s:TSt}{x:(tyL ts).D}(h:DJ sh ts s=some x):vV sh (nP ts x)=some s:=by
 grind [DJ,ZE,Gn]
inductive TCo where|skip|bad|reg (draw:Bool) (pairs:List (Nat×Nat)) (ins:List jD)|seq (a b:TCo)|cond (c:TO) (a b:TCo)|block (id:Nat) (c:TCo)|loop (live:List Nat) (c:TCo)|scope (c:TCo)|exit (id:Nat)|ret|keep (live:List Nat) (c:TCo)|tidy (live:List Nat) (c:TCo)|jn (sh:ShS) (ts:List Ty) (a b:TCo)
def erc:TCo->bX| .skip=>.skip| .bad=>.bad| .reg d p ins=>.reg d p (ins.map eri)| .seq a b=>.seq (erc a) (erc b)| .cond c a b=>.cond (erO c) (erc a) (erc b)| .block id c=>.block id (erc c)| .loop live c=>.loop live (erc c)| .scope c=>.scope (erc c)| .exit id=>.exit id| .ret=>.ret| .keep live c=>.keep live (erc c)| .tidy live c=>.tidy live (erc c)| .jn sh _ a b=>.seq (erc a) (.keep (sh.env.map (·.1)) (erc b))
structure TK(R:Type) where
 n:TSt->Option R
 x:Nat->TSt->Option R
 r:TSt->Option R
def TK.at'{R:Type}(K:TK R):AX->TSt->Option R| .normal=>K.n| .exit i=>K.x i| .ret=>K.r
def rbO(c:TO)(v:Bool)(s:TSt):TSt:=match c with| .t n=>rb n (vb v) s| .c _=>s
def jnO{σ R:Type}(m:Option (σ⊕R))(f:σ->Option R):Option R:=match m with|some (.inl x)=>f x|some (.inr r)=>some r|none=>none
def inl?{σ R:Type}(m:Option σ):Option (σ⊕R):=match m with|some x=>some (.inl x)|none=>none
def onO{α R:Type}(m:Option α)(k:α->Option R):Option R:=match m with|some x=>k x|none=>none
theorem rS{α R:Type}{m:Option α}{k:α->Option R}{r:R}(h:onO m k=some r): ∃x,m=some x/\k x=some r:=by
 cases m with
 |none=>cases h
 |some x=>exact⟨x,rfl,h⟩
def WN{R:Type}(clean:TSt->Option TSt)(body:(TSt->Option R)->TSt->Option R):Nat->TSt->Option R|0,_=>none|k+1,s=>body (λs'=>onO (clean s') (WN clean body k)) s
def orO{σ R:Type}(m:Option σ)(f:Unit->Option R):Option (σ⊕R):=match m with|some x=>some (.inl x)|none=>(f ()).map .inr
noncomputable def trc(G:TG):TCo->(R:Type)->TK R->TSt->Option R
 | .skip,_,K,s=>K.n s
 | .bad,_,_,_=>none
 | .reg _ p ins,_,K,s=>lm G p ins s K.n
 | .seq a b,R,K,s=>trc G a R ⟨λs=>trc G b R K s,K.x,K.r⟩ s
 | .cond c a b,R,K,s=>match tev c s with|some (.a (.c (.d .b x)))=>if x=true then trc G a R K (rbO c true s)else trc G b R K (rbO c false s)|_=>none
 | .block id c,R,K,s=>trc G c R ⟨K.n,λi s=>if i=id then K.n s else K.x i s,K.r⟩ s
 | .loop live c,R,K,s=>onO (shS ⟨pJ live s.env,s.sto⟩) fun(sh,e)=>
   J6 (λx:(tyL (e.map (·.1))).D=>onO (vV sh (nP (e.map (·.1)) x)) λs1=>
    trc G c ((tyL (e.map (·.1))).D⊕R) ⟨λs'=>onO (rH s.sto.length live s') λs'=>orO (DJ sh (e.map (·.1)) s') λ_=>WN (rH s.sto.length live) (λagain s=>trc G c R ⟨again,K.x,K.r⟩ s) 3 s',λi s'=>(K.x i s').map .inr,λs'=>(K.r s').map .inr⟩ s1) (yY e)
 | .scope c,R,K,s=>trc G c R K s
 | .exit id,_,K,s=>K.x id s
 | .ret,_,K,s=>K.r s
 | .keep live c,R,K,s=>trc G c R K ⟨pJ live s.env,s.sto⟩
 | .tidy live c,R,K,s=>trc G c R ⟨λs'=>onO (rH s.sto.length live s') K.n,λi s'=>onO (rH s.sto.length live s') (K.x i),λs'=>onO (rH s.sto.length live s') K.r⟩ s
 | .jn sh ts a b,R,K,s=>jnO (trc G a ((tyL ts).D⊕R) ⟨λs'=>inl? (DJ sh ts ⟨pJ (sh.env.map (·.1)) s'.env,s'.sto⟩),λi s'=>(K.x i s').map .inr,λs'=>(K.r s').map .inr⟩ s)
   λx=>onO (vV sh (nP ts x)) λs1=>trc G b R K s1
theorem fj(live:List Nat)(s:TSt):Jy ⟨pJ live s.env,s.sto⟩=⟨restr live (Jy s).env,(Jy s).sto⟩:=by simp[Jy,MY]
theorem Df{c:TO}{x:Bool}{s:TSt}(h:tev c s=some (vb x)):rbO c x s=s:=by
 cases c with
 |t n=>exact ZF h
 |c v=>rfl
theorem JIa{σ R:Type}{m:Option σ}{o:σ⊕R}(h:inl? m=some o): ∃x,m=some x/\o=.inl x:=by
 cases m with
 |none=>cases h
 |some x=>injection h with h;simp_all
theorem lG{T:dK}{G:TG}(q:GOk (AF T) G): ∀{c:TCo} {R:Type} {K:TK R} {s:TSt} {r:R},trc G c R K s=some r-> ∃o s',X T (erc c) (Jy s)=some (o,Jy s')/\K.at' o s'=some r
 | .skip,R,K,s,r,h=>⟨.normal,s,by simp[erc],h⟩
 | .bad,R,K,s,r,h=>by cases h
 | .reg d p ins,R,K,s,r,h=>by obtain⟨s',h1,h2⟩:=JKV q h;exact⟨.normal,s',by simp_all [erc,Ck],h2⟩
 | .seq a b,R,K,s,r,h=>by
  obtain⟨o,s1,h1,h2⟩:=lG q (c:=a) h;rw[erc,Ct,h1];cases o with
  |normal=>obtain⟨o,n,j,g⟩:=lG q (c:=b) h2;exact⟨o,n,j,g⟩
  |exit i=>exact⟨.exit i,s1,rfl,h2⟩
  |ret=>exact⟨.ret,s1,rfl,h2⟩
 | .cond c a b,R,K,s,r,h=>by
  unfold trc at h;split at h;rename_i x v;have e:evv (erO c) (Jy s).env=some (.p (.b x)):=by rw[<-QD (erO c) (Jy s),bR v];rfl
  rw[erc,JLf,e,Cj];split at h;rename_i A;subst A;rw[Df v]at h;simp only[if_true];exact lG q (c:=a) h;rename_i A;have:x=false:=by simpa using A
  subst this;rw[Df v]at h;simp only[eJ,if_false];exact lG q (c:=b) h;cases h
 | .block id c,R,K,s,r,h=>by
  obtain⟨o,s1,h1,h2⟩:=lG q (c:=c) h;rw[erc,JJR,h1];cases o with
  |normal=>exact⟨.normal,s1,rfl,h2⟩
  |exit i=>
   simp only[pm];simp only[TK.at']at h2;split at h2;rename_i hi;rw[if_pos hi];exact⟨.normal,s1,rfl,h2⟩;rename_i hi;rw[if_neg hi];exact⟨.exit i,s1,rfl,h2⟩
  |ret=>exact⟨.ret,s1,rfl,h2⟩
 | .loop live c,R,K,s,r,h=>by
  unfold trc at h;obtain⟨⟨sh,w⟩,M,h⟩:=rS h;dsimp only at h;have E: ∀(k:Nat) {n:TSt} {r:R},WN (rH s.sto.length live) (λagain s=>trc G c R ⟨again,K.x,K.r⟩ s) k n=some r->
    ∃o s',X T (.lp s.sto.length live (erc c)) (Jy n)=some (o,Jy s')/\K.at' o s'=some r:=by
   intro k
   induction k with
   |zero=>intro n r h;cases h
   |succ k ih=>
    intro n r h;obtain⟨o,B,h1,h2⟩:=lG q (c:=c) h;rw[l5,h1];cases o with
    |normal=>
     obtain⟨N,hc,h2⟩:=rS h2;grind [NA,GG]
    |exit i=>exact⟨.exit i,B,rfl,h2⟩
    |ret=>exact⟨.ret,B,rfl,h2⟩
  have C: ∀{x:(tyL (w.map (·.1))).D} {r:R},J6 (λx:(tyL (w.map (·.1))).D=>onO (vV sh (nP (w.map (·.1)) x)) λs1=>
    trc G c ((tyL (w.map (·.1))).D⊕R) ⟨λs'=>onO (rH s.sto.length live s') λs'=>orO (DJ sh (w.map (·.1)) s') λ_=>WN (rH s.sto.length live) (λagain s=>trc G c R ⟨again,K.x,K.r⟩ s) 3 s',λi s'=>(K.x i s').map .inr,λs'=>(K.r s').map .inr⟩ s1) x=some r->
    ∃st,vV sh (nP (w.map (·.1)) x)=some st/\ ∃o s',X T (.lp s.sto.length live (erc c)) (Jy st)=some (o,Jy s')/\K.at' o s'=some r:=by
   intro x r L;refine gd (P:=fun(x:(tyL (w.map (·.1))).D) (r:R)=> ∃st,vV sh (nP (w.map (·.1)) x)=some st/\ ∃o s',X T (.lp s.sto.length live (erc c)) (Jy st)=some (o,Jy s')/\K.at' o s'=some r) ?_ ?_ L;intro x r v;obtain⟨st,z,v⟩:=rS v;obtain⟨o,s1,h1,h2⟩:=lG q (c:=c) v;refine⟨st,z,?_⟩;rw[l5,h1];cases o with
   |normal=>
    obtain⟨n,hc,h2⟩:=rS h2;unfold orO at h2;grind [Option.map_eq_some_iff,NA,GG]
   |exit i=>obtain⟨r',j,g⟩:=gO.1 h2;injection g with g;subst g;exact⟨.exit i,s1,rfl,j⟩
   |ret=>obtain⟨r',j,g⟩:=gO.1 h2;injection g with g;subst g;exact⟨.ret,s1,rfl,j⟩
   rintro x y r v ⟨st',I,o,B,J,H⟩;obtain⟨st,z,v⟩:=rS v;obtain⟨F,s1,h1,h2⟩:=lG q (c:=c) v;refine⟨st,z,?_⟩;rw[l5,h1];cases F with
   |normal=>
    obtain⟨n,hc,h2⟩:=rS h2;unfold orO at h2;grind [Fc,NA,GG,Option.map_eq_some_iff]
   |exit i=>obtain⟨r',_,g⟩:=gO.1 h2;cases g
   |ret=>obtain⟨r',_,g⟩:=gO.1 h2;cases g
  obtain⟨st,z,o,s',h1,h2⟩:=C h;rw[gj,Gn M]at z;grind [erc,Jy,JMo,fj]
 | .scope c,R,K,s,r,h=>by
  obtain⟨o,s1,h1,h2⟩:=lG q (c:=c) h;grind [erc,JKf]
 | .exit id,R,K,s,r,h=>⟨.exit id,s,by simp[erc],h⟩
 | .ret,R,K,s,r,h=>⟨.ret,s,by rw[erc,JO1],h⟩
 | .keep live c,R,K,s,r,h=>by
  obtain⟨o,s1,h1,h2⟩:=lG q (c:=c) h;grind [erc,Dj,fj]
 | .tidy live c,R,K,s,r,h=>by
  obtain⟨o,s1,h1,h2⟩:=lG q (c:=c) h;rw[erc,JLM,h1,JA2,show(Jy s).sto.length=s.sto.length by simp[Jy]];cases o with
  |normal=>obtain⟨n,j,g⟩:=rS h2;rw[GG j];exact⟨.normal,n,rfl,g⟩
  |exit i=>obtain⟨n,j,g⟩:=rS h2;rw[GG j];exact⟨.exit i,n,rfl,g⟩
  |ret=>obtain⟨n,j,g⟩:=rS h2;rw[GG j];exact⟨.ret,n,rfl,g⟩
 | .jn sh ts a b,R,K,s,r,h=>by
  unfold trc at h;rw[erc,Ct];cases ho:trc G a ((tyL ts).D⊕R) ⟨λs'=>inl? (DJ sh ts ⟨pJ (sh.env.map (·.1)) s'.env,s'.sto⟩),λi s'=>(K.x i s').map .inr,λs'=>(K.r s').map .inr⟩ s with
  |none=>rw[ho]at h;cases h
  |some res=>
   rw[ho]at h;obtain⟨o,s1,h1,h2⟩:=lG q (c:=a) ho;rw[h1];cases o with
   |normal=>
    obtain⟨x,v,rfl⟩:=JIa h2;obtain⟨n,j,g⟩:=rS h;rw[Fc v]at j;injection j with j;subst j;obtain⟨o,B,J,H⟩:=lG q (c:=b) g;grind [NA,Dj,fj]
   |exit i=>obtain⟨r',j,g⟩:=gO.1 h2;subst g;injection h with h;subst h;exact⟨.exit i,s1,rfl,j⟩
   |ret=>obtain⟨r',j,g⟩:=gO.1 h2;subst g;injection h with h;subst h;exact⟨.ret,s1,rfl,j⟩
end Go.Am
end
section
namespace Go.Am
structure TFn where
 np:Nat
 nt:Nat
 body:TCo
 res:List zA
 fresh:Bool
def aL(f:TFn):AFn:=⟨f.np,f.nt,erc f.body,f.res.map erR,f.fresh⟩
def KY:Nat->List TA->List (Nat×TV)|_,[]=>[]|k,x::r=>(k,.a x)::KY (k+1) r
theorem pt(L:Nat->Nat): ∀(k:Nat) (xs:List TA),jE k (xs.map (bQ L))=fO L (KY k xs)|_,[]=>rfl|k,x::r=>by have:=pt L (k+1) r;simp only[bT,jE,KY,fO,this];rfl
noncomputable def lW(G:TG)(f:TFn){R:Type}(xs:List TA)(bl:List TB)(E:TV->List TB->Option R):Option R:=if xs.length=f.np then trc G f.body R ⟨λs=>MF f.res f.fresh bl.length s E,λ_ _=>none,λs=>MF f.res f.fresh bl.length s E⟩ ⟨KY 0 xs,bl⟩else none
theorem E6{T:dK}{G:TG}(e:GOk (AF T) G){g:FuncId}{f:TFn}(hf:T g=some (.fn (aL f))){R:Type}{xs:List TA}{bl:List TB}{E:TV->List TB->Option R}{r:R}(h:lW G f xs bl E=some r):
  ∃v out,AF T g (xs.map (bQ (lns bl))) (bl.map (aY (lns bl)))=some (aT (lns out) v,out.map (aY (lns out)))/\E v out=some r:=by
 unfold lW at h;split at h;rename_i y;obtain⟨o,s',h1,h2⟩:=lG e h;have j:Jy ⟨KY 0 xs,bl⟩=⟨jE 0 (xs.map (bQ (lns bl))),bl.map (aY (lns bl))⟩:=by simp[Jy,pt]
 rw[j]at h1;have fin:MF f.res f.fresh bl.length s' E=some r-> ∃v out,gX (aL f) bl.length (Jy s')=some (aT (lns out) v,out.map (aY (lns out)))/\E v out=some r:=
  λh=>JES rfl rfl h
 have z: ∀q,gX (aL f) bl.length (Jy s')=some q->(o=.normal\/o=.ret)->AF T g (xs.map (bQ (lns bl))) (bl.map (aY (lns bl)))=some q:=by intro q k w;rw[Z9 T hf,if_pos (by rw[fK];exact y),show(aL f).body=erc f.body from rfl,h1,fK];rcases w with rfl|rfl<;>exact k
 cases o with
 |normal=>
  obtain⟨v,out,x,n⟩:=fin h2;grind
 |exit i=>cases h2
 |ret=>
  obtain⟨v,out,x,n⟩:=fin h2;grind
 cases h
structure TE where
 f:FuncId
 go: ∀{R:Type},List TA->List TB->(TV->List (Bool×TB)->Option R)->Option R
 fit:List TA->List TB->Bool
structure EOk(F:Orc)(e:TE):Prop where
 ok: ∀{R:Type} {xs:List TA} {bl:List TB} {kk:TV->List (Bool×TB)->Option R} {r:R},e.go xs bl kk=some r->
  ∃v out,F e.f (xs.map (bQ (lns bl))) (bl.map (aY (lns bl)))=some (aT (oN out) v,out.map λx=>aY (oN out) x.2)/\
   (∀(k:Nat) x,out[k]?=some (true,x)->k<bl.length->lnB x=lns bl k)/\kk v out=some r
def goE{R:Type}(f:FuncId)(xs:List TA)(bl:List TB)(kk:TV->List (Bool×TB)->Option R):List TE->Option R|[]=>none|e::r=>if f=e.f/\e.fit xs bl=true then e.go xs bl kk else goE f xs bl kk r
def TG.of(l:List TE):TG:=⟨λf xs bl kk=>goE f xs bl kk l⟩
def tK(F:Orc):List TE->Prop|[]=>True|e::r=>EOk F e/\tK F r
theorem C2{F:Orc}{R:Type}{f:FuncId}{xs:List TA}{bl:List TB}{kk:TV->List (Bool×TB)->Option R}{r:R}: ∀{l:List TE},tK F l->goE f xs bl kk l=some r->
  ∃v out,F f (xs.map (bQ (lns bl))) (bl.map (aY (lns bl)))=some (aT (oN out) v,out.map λx=>aY (oN out) x.2)/\
   (∀(k:Nat) x,out[k]?=some (true,x)->k<bl.length->lnB x=lns bl k)/\kk v out=some r
 |[],_,h=>by cases h
 |e::l,g,h=>by
  simp only[goE]at h;split at h;rename_i j;obtain⟨rfl,_⟩:=j;exact g.1.ok h;exact C2 g.2 h
theorem C4{F:Orc}{l:List TE}(h:tK F l):GOk F (TG.of l):=⟨λe=>C2 h e⟩
structure Sig where
 args:List ShA
 blks:List ShB
 ti:List Ty
 res:ShV
 out:List ShB
 same:List Bool
 to:List Ty
def hM(g:Sig)(x:(tyL g.ti).D):Option (List TA×List TB):=match mkL mkA g.args (nP g.ti x)with
 |some (xs,l)=>match mkL mkB g.blks l with|some (bl,[])=>some (xs,bl)|_=>none
 |none=>none
def tD(g:Sig)(xs:List TA)(bl:List TB):Option (tyL g.ti).D:=match shL shA xs,shL shB bl with|some (a,l),some (c,k)=>if a=g.args/\c=g.blks then asL g.ti (l++k)else none|_,_=>none
theorem Gc{g:Sig}{xs:List TA}{bl:List TB}{x:(tyL g.ti).D}(h:tD g xs bl=some x):hM g x=some (xs,bl):=by
 unfold tD at h;split at h;rename_i a l c k h1 h2;split at h;rename_i j;obtain⟨rfl,rfl⟩:=j;have e:=pG ZA h2 [];rw[jZ]at e;unfold hM;rw[ZE h,pG ZS h1 k];simp only[e];cases h;cases h
def EW(g:Sig)(y:(tyL g.to).D):Option (TV×List TB):=match mkV g.res (nP g.to y)with
 |some (v,l)=>match mkL mkB g.out l with|some (out,[])=>some (v,out)|_=>none
 |none=>none
def iQ(g:Sig)(v:TV)(out:List TB):Option (tyL g.to).D:=match shV v,shL shB out with|some (a,l),some (c,k)=>if a=g.res/\c=g.out then asL g.to (l++k)else none|_,_=>none
theorem pd{g:Sig}{v:TV}{out:List TB}{y:(tyL g.to).D}(h:iQ g v out=some y):EW g y=some (v,out):=by
 unfold iQ at h;split at h;rename_i a l c k h1 h2;split at h;rename_i j;obtain⟨rfl,rfl⟩:=j;have e:=pG ZA h2 [];rw[jZ]at e;unfold EW;rw[ZE h,D0 h1 k];simp only[e];cases h;cases h
def flg(same:List Bool)(out:List TB):List (Bool×TB):=match same,out with|b::r,x::l=>(b,x)::flg r l|[],x::l=>(false,x)::flg [] l|_,[]=>[]
theorem wW: ∀(same:List Bool) (out:List TB),(flg same out).map (·.2)=out|[],[]=>rfl|[],x::l=>by simp only[flg,bT,wW [] l]|b::r,[]=>rfl|b::r,x::l=>by simp only[flg,bT,wW r l]
def aE(f:FuncId)(g:Sig)(S:(tyL g.ti).D->Option (tyL g.to).D):TE:=
 ⟨f,λxs bl kk=>match tD g xs bl with
  |some x=>(S x).bind λy=>match EW g y with|some (v,out)=>kk v (flg g.same out)|none=>none
  |none=>none,λxs bl=>(tD g xs bl).isSome⟩
def lq:ShB->Bool| .arr _ _=>false|_=>true
def FN(g:Sig):Bool:=(List.range g.same.length).all λk=>match g.same[k]?,g.blks[k]?,g.out[k]? with|some true,some a,some c=>lq a&&lq c|some true,some _,none=>false|_,_,_=>true
theorem pk{x:TB}{s:ShB}{e:List Lf}(h:shB x=some (s,e))(hb:lq s=true):lnB x=0:=by
 cases x with
 |arr w t rows=>injection h with h;injection h with h1;subst h1;cases hb
 |_=>rfl
theorem YL{α σ:Type}{f:α->Option (σ×List Lf)}: ∀{xs:List α} {e:List σ} {j:List Lf},shL f xs=some (e,j)-> ∀(k:Nat) x,xs[k]?=some x-> ∃s l,e[k]?=some s/\f x=some (s,l)
 |[],_,_,_,k,x,g=>by simp at g
 |y::r,e,j,h,k,x,g=>by
  simp only[shL]at h;split at h;rename_i s l q k' h1 h2;injection h with h;injection h with h3 h4;subst h3 h4;cases k with
  |zero=>simp_all
  |succ k=>exact YL h2 k x (by simpa using g)
  cases h
theorem QP: ∀{same:List Bool} {out:List TB} {k:Nat} {x:TB},(flg same out)[k]?=some (true,x)->same[k]?=some true/\out[k]?=some x
 |[],[],k,x,h=>by simp[flg]at h
 |[],y::l,k,x,h=>by
  cases k with
  |zero=>simp[flg]at h
  |succ k=>simp only[flg,List.getElem?_cons_succ]at h;have:=QP (same:=[]) h;simp at this
 |b::r,[],k,x,h=>by simp[flg]at h
 |b::r,y::l,k,x,h=>by
  cases k with
  |zero=>grind [flg]
  |succ k=>simp only[flg,List.getElem?_cons_succ]at h;simpa using QP h
theorem QQ{T:dK}{f:FuncId}{g:Sig}{S:(tyL g.ti).D->Option (tyL g.to).D}(hs:FN g=true)
  (h: ∀x xs bl y,hM g x=some (xs,bl)->S x=some y-> ∃v out,AF T f (xs.map (bQ (lns bl))) (bl.map (aY (lns bl)))=some (aT (lns out) v,out.map (aY (lns out)))/\iQ g v out=some y):EOk (AF T) (aE f g S):=by
 refine⟨fun{R xs bl kk r} j=>?_⟩;simp only[aE]at j;split at j;rename_i x n;obtain⟨y,L,j⟩:=bK.1 j;split at j;rename_i v out o;obtain⟨C,e,h1,h2⟩:=h x xs bl y (Gc n) L;rw[pd h2]at o;injection o with o;injection o with hv1 hv2;subst hv1 hv2;refine⟨C,flg g.same e,?_,λk z K A=>?_,j⟩;unfold oN;rw[wW];have:(flg g.same e).map (λx=>aY (lns e) x.2)=e.map (aY (lns e)):=by
  conv=>rhs;rw[<-wW g.same e,yR]
  simp[wW]
 rw[this];exact h1;obtain⟨q,w⟩:=QP K;unfold FN at hs;rw[VA]at hs;have hs:=hs k (by grind);unfold tD at n;split at n;rename_i a l c k' V J;split at n;rename_i H;obtain⟨U,P,I,M⟩:=YL J k _ (zQ9 A);unfold iQ at h2;split at h2;rename_i Y Z O Q W G;split at h2;rename_i B;obtain⟨sc,N,F,E⟩:=YL G k z w;rw[q,<-H.2,I,<-B.2,F]at hs;simp only[aS]at hs;rw[pk E hs.2];unfold lns;rw[zQ9 A];exact(pk M hs.1).symm;cases h2;cases h2;cases n;cases n;cases j;cases j
theorem nh{T:dK}{f:FuncId}{g:Sig}{fn:TFn}{S:(tyL g.ti).D->Option (tyL g.to).D}{l:List TE}(hf:T f=some (.fn (aL fn)))(hl:tK (AF T) l)(hs:FN g=true)
  (h: ∀x,onO (hM g x) (λy=>lW (TG.of l) fn y.1 y.2 (iQ g))=S x):EOk (AF T) (aE f g S):=by
 refine QQ hs λx xs bl y k j=>?_;have e:=h x;rw[k,j]at e;exact E6 (C4 hl) hf e
def iY{α β:Type}(S:(α->Option β)->α->Option β):Nat->α->Option β|0=>λ_=>none|n+1=>S (iY S n)
theorem ZR{T:dK}{f:FuncId}{g:Sig}{fn:TFn}{S:((tyL g.ti).D->Option (tyL g.to).D)->(tyL g.ti).D->Option (tyL g.to).D}{l:List TE}(hf:T f=some (.fn (aL fn)))(hl:tK (AF T) l)(hs:FN g=true)
  (h: ∀r x,onO (hM g x) (λy=>lW (TG.of (aE f g r::l)) fn y.1 y.2 (iQ g))=S r x): ∀n,EOk (AF T) (aE f g (iY S n))
 |0=>QQ hs λx xs bl y j e=>by cases e
 |n+1=>nh hf (l:=aE f g (iY S n)::l) (And.intro (ZR hf hl hs h n) hl) hs (h (iY S n))
end Go.Am
end
section
namespace Go.Am
end Go.Am
end
section
namespace Go.Am
theorem pb(t:Ty)(x:t.D)(r:List Lf):lf1 t (⟨t,x⟩::r)=some (x,r):=by simp[lf1]
end Go.Am
end
