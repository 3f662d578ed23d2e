/-
  Parts of a proof.
-/
import Derived.Orders
import Derived.LoopN
import Derived.Scope
import Derived.Below
import Derived.Test.YtfedfekakecnfaaGreatM1
set_option linter.unusedSimpArgs false
set_option linter.unusedVariables false
section
namespace Go.Am
section
variable {P:Program} {F:Orc} {s:Sn} {a:Act} {env:List (Nat×AV)} {o:Oper} {new:Nat} {e:Eff}
theorem ob{r:List Blk}(hi:Inv s)(B:Frz r s.σ){x:AV}{y:AV×List (Nat×Blk)}{v:Value}(h:(iG x).run ⟨env,r⟩=some y)(hr:JA s x v):
  ∃g',Inv ⟨upd y.2 s.σ,g',s.w⟩/\aW s ⟨upd y.2 s.σ,g',s.w⟩/\Frz s.σ (upd y.2 s.σ)/\JA ⟨upd y.2 s.σ,g',s.w⟩ y.1 v:=by
 have same: ∀{z:AV},(RM.ret (z,[]):RM (AV×List (Nat×Blk))).run ⟨env,r⟩=some y->JA s z v-> ∃g',Inv ⟨upd y.2 s.σ,g',s.w⟩/\aW s ⟨upd y.2 s.σ,g',s.w⟩/\Frz s.σ (upd y.2 s.σ)/\JA ⟨upd y.2 s.σ,g',s.w⟩ y.1 v:=(by intro z j hr;simp only[RM.run]at j;injection j with j;subst j;exact⟨s.g,hi,.refl s,.refl _,hr⟩);cases x with
 |slr b i n=>
  simp only[iG]at h;obtain⟨C,h1,h⟩:=bind_some h;obtain⟨g',o,A,q,c,hc,E⟩:=KC hi B h1 hr;rw[hc]at h;simp only[RM.run]at h;injection h with h;subst h;exact⟨g',o,A,q,.p _ _ E⟩
 |agg cs=>
  simp only[iG]at h;obtain⟨C,h1,h⟩:=bind_some h;simp only[RM.run]at h;injection h with h;subst h;obtain⟨g',o,A,q,F,D⟩:=XZ hi B h1 hr;cases hr with
  |agg _ vs h1 I h2=>exact⟨g',o,A,q,.data _ _ F λi x v G H=>D i x v G H⟩
 |tup=>grind [iG,RM.run]
 |p c=>exact same h hr
 |data cs=>exact same h hr
 |ptr b off=>exact same h hr
 |cp cs off=>exact same h hr
 |ep b e i off=>exact same h hr
 |fn f first caps=>exact same h hr
 |unk=>exact same h hr
 |pre b n k=>exact same h hr
theorem qk{q:List Blk}: ∀{xs:List AV} {s:Sn} {y:List AV×List (Nat×Blk)} {vs:List Value},Inv s->Frz q s.σ->(jK xs).run ⟨env,q⟩=some y->xs.length=vs.length->
  (∀(i:Nat) x v,xs[i]?=some x->vs[i]?=some v->JA s x v)->
  ∃g',Inv ⟨upd y.2 s.σ,g',s.w⟩/\aW s ⟨upd y.2 s.σ,g',s.w⟩/\Frz s.σ (upd y.2 s.σ)/\y.1.length=vs.length/\
   ∀(i:Nat) x v,y.1[i]?=some x->vs[i]?=some v->JA ⟨upd y.2 s.σ,g',s.w⟩ x v
 |[],s,y,vs,hi,j,h,e,k=>by
  simp only[jK,RM.run]at h;injection h with h;subst h;exact⟨s.g,hi,.refl s,.refl _,by simpa using e,λi c v hc=>by simp at hc⟩
 |x::xs,s,y,[],hi,j,h,e,k=>by simp at e
 |x::xs,s,y,v::vs,hi,j,h,e,k=>by
  simp only[jK]at h;obtain⟨z,h1,h⟩:=bind_some h;obtain⟨K,h2,h⟩:=bind_some h;simp only[RM.run]at h;injection h with h;subst h;obtain⟨D,i1,o,n,I⟩:=ob hi j h1 (k 0 x v rfl rfl);obtain⟨C,i2,r,A,B,J⟩:=qk (s:=⟨upd z.2 s.σ,D,s.w⟩) i1 (j.trans n) h2 (by simpa using e) λi x v E F=>(k (i+1) x v (by simpa using E) (by simpa using F)).mono hi o;refine⟨C,by grind [eM],by rw[eM];exact o.trans r,by rw[eM];exact n.trans A,by simp[B],λi c' H hc' G=>?_⟩;grind [JA.mono,upd]
def Ci(s1:Sn)(es:List Ent)(new:Nat)(e:Ent)(x:Blk)(y:Nat×Blk):Prop:=
 y.1=e.id/\match e with
 | .whole _=>(∃cs l,x=.box cs/\bk.bkL es new cs=some l/\y.2=.box l)\/(∃w esz rows,x=.arr w esz rows/\y.2=.arr w esz rows)
 | .elem b _ i=> ∃w esz rows g,s1.σ[b]?=some (.arr w esz rows)/\x=.box (g.map .p)/\y.2=.arr w esz (rows.set i g)
theorem JE9{g:List Blk}{ws:List (Nat×Blk)}(k:s.σ=upd ws g){es:List Ent}{en:Ent}{x:Blk}{y:Nat×Blk}(h:(sA ws es new en x).run ⟨env,g⟩=some y):Ci s es new en x y:=by
 unfold sA at h;split at h;rename_i b cs;split at h;rename_i l o;simp only[RM.run]at h;injection h with h;subst h;exact⟨rfl,.inl ⟨cs,l,rfl,o,rfl⟩⟩;cases h;simp only[RM.run]at h;injection h with h;subst h;exact⟨rfl,.inr ⟨_,_,_,rfl,rfl⟩⟩;rename_i b ext i cs;obtain⟨z,h1,h⟩:=bind_some h;have j:=db h1;rw[<-k]at j;cases z with
 |arr w esz rows=>
  dsimp only at h;split at h;rename_i e n;simp only[RM.run]at h;injection h with h;subst h;exact⟨rfl,w,esz,rows,e,j,by grind [PF],rfl⟩;cases h
 |_=>cases h
 cases h
theorem sf{j:List Blk}{ws:List (Nat×Blk)}(n:s.σ=upd ws j){es:List Ent}: ∀{e:List Ent} {xs:List Blk} {g:List (Nat×Blk)},(iB ws es new e xs).run ⟨env,j⟩=some g->
  e.length=g.length/\e.length<=xs.length/\ ∀(k:Nat) en x y,e[k]?=some en->xs[k]?=some x->g[k]?=some y->Ci s es new en x y
 |[],xs,g,h=>by grind [iB,RM.run]
 |_::_,[],g,h=>by cases h
 |en::e,x::xs,g,h=>by
  simp only[iB]at h;obtain⟨y,h1,h⟩:=bind_some h;obtain⟨l,h2,h⟩:=bind_some h;simp only[RM.run]at h;injection h with h;subst h;obtain⟨o,q,r⟩:=sf n h2;grind [JE9]
theorem ga{es:List Ent}: ∀{xs:List Blk} {g:Nat} {e:List (Nat×Blk)},gO es new g xs=some e->
  xs.length=e.length/\ ∀(j:Nat) x y,xs[j]?=some x->e[j]?=some y->y.1=g+j/\((∃cs l,x=.box cs/\bk.bkL es new cs=some l/\y.2=.box l)\/(∃w esz rows,x=.arr w esz rows/\y.2=.arr w esz rows))
 |[],g,e,h=>by grind [gO]
 | .dead::_,g,e,h=>by grind [gO]
 | .box cs::xs,g,e,h=>by
  simp only[gO]at h;split at h;rename_i c l hc k;injection h with h;subst h;obtain⟨n,o⟩:=ga k;grind;cases h
 | .arr w esz rows::xs,g,e,h=>by
  simp only[gO]at h;split at h;rename_i l k;injection h with h;subst h;obtain⟨n,o⟩:=ga k;grind;cases h
theorem p9(b:Nat)(p q:List (Nat×Blk)):iO b (p++q)=match iO b q with
  |some y=>some y
  |none=>iO b p:=by
 induction p with
 |nil=>grind [iO]
 |cons x p ih=>
  grind [iO]
theorem df{b:Nat}{x:Blk}: ∀{ws:List (Nat×Blk)},(ws.map (·.1)).Nodup-> ∀{k:Nat},ws[k]?=some (b,x)->iO b ws=some x
 |[],_,k,h=>by simp at h
 |(c,z)::r,hn,k,h=>by
  obtain⟨h1,h2⟩:=List.nodup_cons.1 hn;simp only[iO];cases k with
  |zero=>
   grind [vF]
  |succ k=>rw[df h2 (k:=k) (by simpa using h)]
theorem JAg(n k:Nat):((List.range k).map (n+ ·)).Nodup:=by
 grind [List.nodup_range]
theorem qd(hF:iV P F){f:FuncId}{ar:List AV×List (Nat×Blk)}{q:Nat}{vals:Array Value}(H: ∀j,j<q->s.σ[new+j]?=some .dead)
  {g1:Gh} (i1:Inv ⟨upd ar.2 s.σ,g1,s.w⟩) (t1:aW s ⟨upd ar.2 s.σ,g1,s.w⟩) (f1:Frz s.σ (upd ar.2 s.σ)) (l1:ar.1.length=vals.toList.length)
  (r1: ∀(i:Nat) x v,ar.1[i]?=some x->vals.toList[i]?=some v->JA ⟨upd ar.2 s.σ,g1,s.w⟩ x v)
  (h:(fG F f ar q new).run ⟨env,s.σ⟩=some e)
  (ai: ∀fn,P.funcs[f]?=some fn→fn.body.isSome=true→(fn.name== "runtime.NumGoroutine")=false→(execOp a.eval o).run P s.w=.ok (.enter f vals) s.w):bO P o a s e:=by
 unfold fG at h;obtain⟨b7,h2,h⟩:=bind_some h;obtain⟨es,h3,h⟩:=bind_some h;split at h;rename_i ah;split at h;cases h;rename_i N a7;obtain⟨blks,h4,h⟩:=bind_some h;split at h;cases h;rename_i r a9;split at h;rename_i V;obtain⟨k,hlen,hk⟩: ∃k,r.2.length=es.length+k/\k<=q:=⟨r.2.length-es.length,by omega,by omega⟩;have M: ∀j,j<k->s.σ[new+j]?=some .dead:=λj hj=>H j (by omega);clear V;split at h;rename_i v fresh hv K;obtain⟨n,h5,h⟩:=bind_some h;simp only[RM.run]at h;injection h with h;subst h
 let s1:Sn:=⟨upd ar.2 s.σ,g1,s.w⟩
 obtain⟨bl,a6⟩:=rc (s:=s1) rfl h4;have cin:YC s1 es blks:=⟨i1,QF ah,bl,a6⟩;obtain⟨⟨fn,af,O,S⟩,R⟩:=hF f N blks r a9;obtain⟨q1,q2⟩:=sO a7;have ci:=JMQ cin;have hc:=R (gV s1 es blks).g s.w vals ci (by grind) (λi x v hx hv=>by have A:=Jn hx;have Y:ar.1[i]?=some (ar.1[i]'(by omega)):=JV _;exact B6 cin (r1 i _ v Y (by simpa using hv)) (q2 i _ x Y hx));intro next Q T;simp only[Oper.wp,ai fn af O S,Oper.upon];refine hc.mono ?_;rintro e w' ⟨rv,g',rfl,a8,I,a3⟩;simp only;obtain⟨b1,b2,b3⟩:=sf (s:=s1) rfl h5;obtain⟨n1,n2⟩:=ga K;have B: ∀j,j<k->s1.σ[new+j]?=some .dead:=λj hj=>f1.2 _ _ (M j hj) (by simp);have ba:(r.2.drop es.length).length=k:=by simp;omega
 have ad:n.map (·.1)=es.map Ent.id:=(by apply zQ6;intro i;rw[fB,fB];by_cases A:i<es.length;have E:es[i]?=some es[i]:=JV A;have L:n[i]?=some (n[i]'(by omega)):=JV _;have G:r.2[i]?=some (r.2[i]'(by omega)):=JV _;have:=(b3 i _ _ _ E G L).1;grind;grind);have ac: ∀j,j<k->fresh[j]?=some (new+j,(fresh[j]?.map (·.2)).getD .dead):=(by grind);have am:(fresh.map (·.1)).Nodup:=(by have:fresh.map (·.1)=(List.range k).map (new+ ·):=(by apply zQ6;grind);grind [JAg]);have al: ∀b,b∈fresh.map (·.1)↔new<=b/\b<new+k:=(by intro b;constructor;grind [List.getElem?_of_mem];intro hm;have:=ac (b-new) (by omega);grind);have W:(upd (n++fresh) s1.σ).length=s1.σ.length:=yD _ _;have U: ∀{q:Nat} {en:Ent},es[q]?=some en->en.id<s1.σ.length/\ ¬(new<=en.id/\en.id<new+k):=by
  intro q en C;obtain⟨x,_,Z⟩:=pZ cin C;have z: ∃y,s1.σ[en.id]?=some y/\y≠.dead:=by
   cases en with
   |whole b=>
    rcases Z with⟨cs',l,h1,h2,rfl⟩|⟨w,a2,rows',h1,rfl⟩;exact⟨_,h1,by simp⟩;exact⟨_,h1,by simp⟩
   |elem b ext i=>obtain⟨a2,rows',row,h1,h2,h3,rfl⟩:=Z;exact⟨_,h1,by simp⟩
  obtain⟨y,z,hd⟩:=z;refine⟨Jn z,λhm=>?_⟩;have:=B (en.id-new) (by omega);rw[show new+(en.id-new)=en.id by omega,z]at this;grind
 have ab: ∀{q:Nat} {en:Ent} {y:Nat×Blk},es[q]?=some en->n[q]?=some y->(upd (n++fresh) s1.σ)[en.id]?=some y.2:=by intro q en y C z;obtain⟨A,b8⟩:=U C;have G:r.2[q]?=some (r.2[q]'(by grind)):=JV _;have ag:=(b3 q en _ y C G z).1;rw[uR _ _ _ A,p9,vF (by grind)];simp only;rw[df (x:=y.2) (by rw[ad];exact cin.nodup) (k:=q) (by grind)]
 have av: ∀{j:Nat} {y:Nat×Blk},j<k->fresh[j]?=some y->(upd (n++fresh) s1.σ)[new+j]?=some y.2:=(by grind [uR,p9,df]);have co:Dv s1 es blks new k ⟨r.2,g',w'⟩ (upd (n++fresh) s1.σ):=by
  refine⟨cin,a8,I,hlen,W,B,λq y z=>?_,λb bc b9=>?_⟩;have z:r.2[q]?=some y:=z;unfold oJ;cases C:es[q]? with
  |some en=>
   have A:=Jn C;have L:n[q]?=some (n[q]'(by omega)):=JV _;obtain⟨ag,a0⟩:=b3 q en y _ C z L;have hg:=ab C L;cases en with
   |whole b=>
    rcases a0 with⟨cs,l,E,G,J⟩|⟨w,esz,rows,E,J⟩;exact .inl ⟨cs,l,E,G,by rw[<-J];exact hg⟩;exact .inr ⟨w,esz,rows,E,by rw[<-J];exact hg⟩
   |elem b ext i=>obtain⟨w,esz,rows,a5,E,G,J⟩:=a0;exact⟨w,esz,rows,a5,E,G,by rw[<-J];exact hg⟩
  |none=>
   have bb:es.length<=q:=(by grind);have A:=Jn z;have L:fresh[q-es.length]?=some (fresh[q-es.length]'(by omega)):=JV _;grind
  grind [uR,vF]
 have oi:=JJW co;have ot:=pe co;have D:upd (ar.2++n++fresh) s.σ=upd (n++fresh) s1.σ:=by grind [eM]
 refine T rv w' (eU s1 es new k ⟨r.2,g',w'⟩ (upd (n++fresh) s1.σ)).g ?_ ?_ ?_;rw[D];exact oi;rw[D];exact t1.trans ot;rw[D];exact Fb co a3 hv;cases h;cases h;cases h
theorem Eg{f:FuncId}{args:List AV}{k:Nat}{s:St}(h:(gY F f args k new).run s=some e): ∃ar,(jK args).run s=some ar/\(fG F f ar k new).run s=some e:=by
 unfold gY at h;obtain⟨ar,h1,h⟩:=bind_some h;obtain⟨w,h2,h⟩:=bind_some h;obtain⟨es,v,h⟩:=bind_some h;refine⟨ar,h1,?_⟩;unfold fG;rw[run_bind,h2,JQ,run_bind,v,JQ];split at h;rename_i n;rw[if_pos n];split at h;cases h;rename_i o g;obtain⟨blks,q,h⟩:=bind_some h
 try rw[g]
 try dsimp only
 rw[run_bind,q,JQ];split at h;cases h;rename_i r j
 try rw[j]
 try dsimp only
 split at h;grind;cases h;cases h
theorem Ei(A:iV P F)(hi:Inv s){f:FuncId}{args:List AV}{k:Nat}{vals:Array Value}(g: ∀j,j<k->s.σ[new+j]?=some .dead)
  (h:(gY F f args k new).run ⟨env,s.σ⟩=some e) (hl:args.length=vals.size) (hr: ∀(i:Nat) x v,args[i]?=some x->vals[i]?=some v->JA s x v)
  (r: ∀fn,P.funcs[f]?=some fn→fn.body.isSome=true→(fn.name== "runtime.NumGoroutine")=false→(execOp a.eval o).run P s.w=.ok (.enter f vals) s.w):bO P o a s e:=by
 obtain⟨ar,h1,h2⟩:=Eg h;obtain⟨D,i1,B,z,C,y⟩:=qk (vs:=vals.toList) hi (.refl _) h1 (by simpa using hl) (λi x v n q=>hr i x v n (by simpa using q));grind [qd]
theorem JFH{r:List Blk}: ∀{m:List Bool} {xs:List AV} {s:Sn} {y:List AV×List (Nat×Blk)} {vs:List Value},Inv s->Frz r s.σ->(eT m xs).run ⟨env,r⟩=some y->xs.length=vs.length->
  (∀(i:Nat) x v,xs[i]?=some x->vs[i]?=some v->JA s x v)->
  ∃g',Inv ⟨upd y.2 s.σ,g',s.w⟩/\aW s ⟨upd y.2 s.σ,g',s.w⟩/\Frz s.σ (upd y.2 s.σ)/\y.1.length=vs.length/\
   ∀(i:Nat) x v,y.1[i]?=some x->vs[i]?=some v->JA ⟨upd y.2 s.σ,g',s.w⟩ x v:=by
 intro m xs
 induction xs generalizing m with
 |nil=>
  intro s y vs hi q h j k;have h:(RM.ret ([],[]):RM (List AV×List (Nat×Blk))).run ⟨env,r⟩=some y:=by cases m<;>exact h
  simp only[RM.run]at h;injection h with h;subst h;exact⟨s.g,hi,.refl s,.refl _,by simpa using j,λi c v hc=>by simp at hc⟩
 |cons x xs ih=>
  intro s y vs hi q h j k;cases vs with
  |nil=>simp at j
  |cons v vs=>
   have z: ∀{A:List Bool},((iG x).bind λa=>(eT A xs).bind λc=>.ret (a.1::c.1,a.2++c.2)).run ⟨env,r⟩=some y->
     ∃g',Inv ⟨upd y.2 s.σ,g',s.w⟩/\aW s ⟨upd y.2 s.σ,g',s.w⟩/\Frz s.σ (upd y.2 s.σ)/\y.1.length=(v::vs).length/\
      ∀(i:Nat) x o,y.1[i]?=some x->(v::vs)[i]?=some o->JA ⟨upd y.2 s.σ,g',s.w⟩ x o:=by
    intro A h;obtain⟨I,h1,h⟩:=bind_some h;obtain⟨K,h2,h⟩:=bind_some h;simp only[RM.run]at h;injection h with h;subst h;obtain⟨L,i1,H,G,M⟩:=ob hi q h1 (k 0 x v rfl rfl);obtain⟨D,i2,n,B,C,J⟩:=ih (m:=A) (s:=⟨upd I.2 s.σ,L,s.w⟩) i1 (q.trans G) h2 (by simpa using j) λi x v E F=>(k (i+1) x v (by simpa using E) (by simpa using F)).mono hi H;refine⟨D,by grind [eM],by rw[eM];exact H.trans n,by rw[eM];exact G.trans B,by simp[C],λi c' o hc' e=>?_⟩;grind [JA.mono,upd]
   cases m with
   |nil=>exact z h
   |cons b m=>
    cases b with
    |false=>exact z h
    |true=>
     simp only[eT]at h;obtain⟨K,h2,h⟩:=bind_some h;simp only[RM.run]at h;injection h with h;subst h;obtain⟨D,i2,n,B,C,J⟩:=ih (m:=m) hi q h2 (by simpa using j) λi x v E F=>k (i+1) x v (by simpa using E) (by simpa using F);refine⟨D,i2,n,B,by simp[C],λi c' o hc' e=>?_⟩;cases i with
     |zero=>simp at hc' e;subst hc' e;exact(k 0 x v rfl rfl).mono hi n
     |succ i=>grind
theorem gj{f:FuncId}{args:Array Value}{fn:Func}(h1:P.funcs[f]?=some fn)(h2:fn.body.isSome=true)(h3:(fn.name== "runtime.NumGoroutine")=false)(w:World):
  (callFunc f args).run P w=.ok (.enter f args) w:=by
 have e:fn.name≠ "runtime.NumGoroutine" :=by simpa using h3
 have g:fn.body≠none:=by grind
 simp_all [callFunc]
theorem JKe(y:iV P F)(hi:Inv s)(he:bM s a.tmps env){f args k}(n: ∀j,j<k->s.σ[new+j]?=some .dead)(h:(opR F (.call f args k) new).run ⟨env,s.σ⟩=some e)
  (hc:JY P (.call f args k) o.op=true):bO P o a s e:=by
 simp only[opR]at h;obtain⟨vs,h1,w⟩:=bind_some h;clear h;unfold JY at hc;simp only at hc;split at hc;rename_i c C;split at hc;rename_i g z;simp only[JW,beq_iff_eq]at hc;obtain⟨rfl,q⟩:=hc;obtain⟨l,r⟩:=NT he h1 q;refine Ei y hi n w (vals:=c.args.map a.eval) (by simpa using l) (λi x v A B=>r i x v A (by simpa using B)) λfn G E D=>?_;simp_all [execOp,resolve,Act.eval,Deferred.ofValue,invoke,gj];cases hc;cases hc
theorem JH0(A:iV P F)(hi:Inv s)(he:bM s a.tmps env){f keep args k}(n: ∀j,j<k->s.σ[new+j]?=some .dead)(h:(opR F (.callo f keep args k) new).run ⟨env,s.σ⟩=some e)
  (hc:JY P (.callo f keep args k) o.op=true):bO P o a s e:=by
 simp only[opR]at h;obtain⟨vs,h1,w⟩:=bind_some h;obtain⟨ar,h2,G⟩:=bind_some w;clear h w;unfold JY at hc;simp only at hc;split at hc;rename_i c J;split at hc;rename_i g B;simp only[JW,beq_iff_eq]at hc;obtain⟨rfl,q⟩:=hc;obtain⟨l,r⟩:=NT he h1 q;obtain⟨E,i1,C,z,D,y⟩:=JFH (vs:=(c.args.map a.eval).toList) hi (.refl _) h2 (by simpa using l) (λi x v H I=>r i x v H (by simpa using I));refine qd A n (vals:=c.args.map a.eval) i1 C z D y G λfn E L K=>?_;simp_all [execOp,resolve,Act.eval,Deferred.ofValue,invoke,gj];cases hc;cases hc
theorem JGV(C:iV P F)(hi:Inv s)(he:bM s a.tmps env){x args k}(g: ∀j,j<k->s.σ[new+j]?=some .dead)(h:(opR F (.callv x args k) new).run ⟨env,s.σ⟩=some e)
  (hc:JY P (.callv x args k) o.op=true):bO P o a s e:=by
 simp only[opR]at h;obtain⟨u,E,q⟩:=bind_some h;clear h;unfold JY at hc;simp only at hc;split at hc;rename_i c G;split at hc;rename_i y D;simp only[JW]at hc;obtain⟨B,n⟩:=hc;have A:=bH he E B;cases u with
 |fn f first caps=>
  dsimp only at q;obtain⟨vs,h1,w⟩:=bind_some q;obtain⟨l,r⟩:=NT he h1 n;generalize O:a.eval y=z at A;cases A with
  |fn _ _ _ fs cs K J H I=>
   have L:vs.length=c.args.size:=by simpa using l
   refine Ei C hi g w (vals:=fs++c.args.map a.eval++cs) (by simp;omega) (λi x v B R=>?_) λfn Q N M=>?_;grind;grind [execOp,resolve,Deferred.ofValue,invoke,gj]
 |_=>cases q
 cases hc;cases hc
end
end Go.Am
end
section
namespace Go.Am
section
variable {P:Program} {F:Orc} {s:Sn} {a:Act} {env:List (Nat×AV)} {o:Oper} {new:Nat} {e:Eff}
theorem da: ∀(os:List (Nat×Nat)) (n:Nat) {s:Sn},Inv s->(∀j,j<os.length->s.σ[n+j]?=some .dead)->
  ∃g',Inv ⟨upd (gJ os n) s.σ,g',s.w⟩/\aW s ⟨upd (gJ os n) s.σ,g',s.w⟩/\
   (∀j,j<os.length->(∃esz,(upd (gJ os n) s.σ)[n+j]?=some (.arr true esz []))/\g'.μ (n+j)=none)/\
   (∀b,b<n\/n+os.length<=b->(upd (gJ os n) s.σ)[b]?=s.σ[b]?/\g'.μ b=s.g.μ b)
 |[],n,s,hi,_=>⟨s.g,hi,.refl s,λj e=>by simp at e,λb _=>⟨rfl,rfl⟩⟩
 |(off,esz)::r,n,s,hi,hd=>by
  obtain⟨i1,v⟩:=ON hi (hd 0 (by simp)) esz;obtain⟨g',i2,q,h1,h2⟩:=da r (n+1) (s:=⟨s.σ.set n (.arr true esz []),eS s.g n none,s.w⟩) i1 (λj e=>by
   show(s.σ.set n _)[n+1+j]?=_;rw[qL (by omega)];have:=hd (j+1) (by simp;omega);grind)
  refine⟨g',i2,v.trans q,λj e=>?_,λb x=>?_⟩;cases j with
  |zero=>
   obtain⟨o,k⟩:=h2 n (.inl (by omega));refine⟨⟨esz,?_⟩,?_⟩;grind [upd,gJ];rw[pP,k];exact if_pos rfl
  |succ j=>have:=h1 j (by simpa using e);rw[show n+(j+1)=n+1+j by omega];exact this
  obtain⟨o,k⟩:=h2 b (by grind);have h:n≠b:=by grind
  exact⟨o.trans (qL h),k.trans (if_neg (Ne.symm h))⟩
theorem ru{t:TypeId}{os:List (Nat×Nat)}{v:Value}(hv:zeT P t=some v)(h:MB P t os=true): ∀x∈os,v.cells[x.1]?=some (.slice none 0 0):=by
 grind [MB]
theorem cw{cells:Array Value}: ∀(os:List (Nat×Nat)) (n:Nat) {cs:List AV},(∀x∈os,cells[x.1]?=some (.slice none 0 0))->
  (∀j,j<os.length->(∃esz,s.σ[n+j]?=some (.arr true esz []))/\s.g.μ (n+j)=none)->
  (∀(i:Nat) x,cs[i]?=some x-> ∃u,cells[i]?=some u/\JA s x u/\u.oneCell'=true)->
  ∀(i:Nat) x,(lJ os n cs)[i]?=some x-> ∃u,cells[i]?=some u/\JA s x u/\u.oneCell'=true
 |[],_,_,_,_,h=>h
 |(off,esz)::r,n,cs,hz,ha,h=>by
  refine cw r (n+1) (λx e=>hz x (by simp[e])) (λj q=>by
   have:=ha (j+1) (by simpa using q);grind) λi x e=>?_
  by_cases hi:off=i;subst hi;have k:=Jn e;rw[List.length_set]at k;rw[AW k]at e;injection e with e;subst e;obtain⟨⟨o,h1⟩,h2⟩:=ha 0 (by simp);rw[pP]at h1 h2;exact⟨.slice none 0 0,hz (off,esz) (by simp),.slr n 0 0 _ true o [] ⟨none,0,rfl,.inl rfl⟩ h1 (zQ0 _) λ_=>.inl ⟨h2,rfl,rfl,rfl⟩,rfl⟩;simp_all
theorem dd: ∀(os:List (Nat×Nat)) (n:Nat) (cs:List AV),(lJ os n cs).length=cs.length|[],_,_=>rfl|_::r,n,cs=>(dd r (n+1) _).trans (by simp)
theorem JCO(hi:Inv s){zero os}(n: ∀j,j<os.length+1->s.σ[new+j]?=some .dead)(h:(opR F (.newboxo zero os) new).run ⟨env,s.σ⟩=some e)(hc:JY P (.newboxo zero os) o.op=true):bO P o a s e:=by
 simp only[opR,RM.run]at h;injection h with h;subst h;unfold JY at hc;simp only at hc;split at hc;rename_i t J;simp only[JW]at hc;obtain⟨B,E⟩:=hc;obtain⟨v,G,L,D⟩:=vG B;obtain⟨r,i1,z,h1,h2⟩:=da os new hi λj N=>n j (by omega);have hd:(upd (gJ os new) s.σ)[new+os.length]?=some .dead:=((h2 _ (.inr (zQ0 _))).1).trans (n _ (by omega))
 let s1:Sn:=⟨upd (gJ os new) s.σ,r,s.w⟩
 obtain⟨A,t'⟩:=OG (s0:=s1) i1 hd (blk:=.box (lJ os new (zero.map .p))) (c:=v.cells) (e:=t) (fz:=(0,0)) (w':={s.w with heap:=s.w.heap.push (.cells v.cells t)}) rfl rfl rfl
  (λo _ _ h=>by simp at h) (λ_ _ _ h=>by cases h) ⟨by grind [dd],λi x q=>by
   obtain⟨u,M,K,I⟩:=cw (s:=s1) (cells:=v.cells) os new (ru G E) h1 (λi x q=>by
    rw[fB]at q;cases hzi:zero[i]? with
    |none=>simp_all
    |some c=>
     simp[hzi]at q;subst q;have H:=Jn hzi;have y:i<v.cells.size:=by omega
     have:=D (w:=s1.w) (C:=s1.g.C) i c v.cells[i] hzi (by simp);exact⟨v.cells[i],by simp,.p _ _ this,this.one⟩) i x q
   simp_all⟩
 have k:upd (gJ os new++[(new+os.length,Blk.box (lJ os new (zero.map .p)))]) s.σ=(upd (gJ os new) s.σ).set (new+os.length) (.box (lJ os new (zero.map .p))):=by rw[eM];rfl
 refine gB (e:=⟨.ptr (new+os.length) 0,gJ os new++[(new+os.length,.box (lJ os new (zero.map .p)))]⟩) (v:=.pointer (some ⟨s.w.heap.size,0,none⟩)) (g':=eS r (new+os.length) (some (s.w.heap.size,0))) ?_
  (by rw[k];exact A) (by rw[k];exact z.trans t') (by rw[k];exact .ptr (new+os.length) 0 _ 0 (if_pos rfl) ⟨_,gT hd⟩)
 simp_all [execOp,Instr.alloc,DA,newVar,newRow];cases hc
theorem JFE(hi:Inv s)(he:bM s a.tmps env)(hn:s.σ[new]?=some .dead){esz x}(h:(opR F (.storen esz x) new).run ⟨env,s.σ⟩=some e)(hc:JY P (.storen esz x) o.op=true):bO P o a s e:=by
 simp only[opR]at h;obtain⟨u,h1,M⟩:=bind_some h;obtain⟨H,h2,B⟩:=bind_some M;clear h M;simp only[RM.run]at B;injection B with B;subst B;obtain⟨K,t0⟩:=ON hi hn esz;unfold JY at hc;simp only at hc;split at hc;rename_i t N af;simp only[JW,beq_iff_eq]at hc;obtain⟨hs,hx⟩:=hc;have v:=bH he h1 hx;have O: ∀{r n:Nat} {w':World},a.eval N=.pointer (some ⟨r,n,none⟩)->(storeVar t ⟨r,n,none⟩ (.slice none 0 0)).run P s.w=.ok () w'->(execOp a.eval o).run P s.w=.ok .skip w':=by intro r n w' R a8;have ab:a.eval (.const (.slice none 0 0))=.slice none 0 0:=rfl;simp_all [execOp,Instr.storeAt,Instr.sureAddr]
 unfold hC at h2;split at h2;rename_i b off;simp only[RM.run]at h2;split at h2;rename_i blk G;split at h2;rename_i cs;split at h2;rename_i l hl;split at h2;rename_i a5;split at h2;rename_i cs' D;simp only[RM.run]at h2;injection h2 with h2;subst h2;have G:s.σ[b]?=some (.box cs):=G;have Q:new≠b:=λe=>by simp_all
 let s1:Sn:=⟨s.σ.set new (.arr true esz []),eS s.g new none,s.w⟩
 have C:s1.σ[b]?=some (.box cs):=(qL Q).trans G;have Y:JA s1 (.slr new 0 0) (.slice none 0 0):=
  .slr new 0 0 _ true esz [] ⟨none,0,rfl,.inl rfl⟩ (gT hn) (zQ0 _) λ_=>.inl ⟨if_pos rfl,rfl,rfl,rfl⟩
 generalize R:a.eval N=z at v;have v:=JA.mono (s:=s1) hi t0 v;cases v with
 |ptr _ _ r n m a9=>
  obtain⟨Z,J,W⟩:=QV hl Y;obtain⟨S,j2,U,j4⟩:=NY D;obtain⟨r1,o1,c,et,fz,A,I,ac,aa,hf⟩:=K.box b cs C;rw[m]at A;injection A with A;injection A with m1 m2;subst m1 m2;have q:=DL (vs:=(Value.slice none 0 0).cells.toList) (o:=n+off) I (by simp;omega);have hlen:(Value.slice none 0 0).cells.toList.length=l.length:=by simp[Z]
  obtain⟨i',t'⟩:=ej (s0:=s1) K (blk:=.box cs') C q (λk h1 h2=>by
   grind [Wr1]) (.box _ _ S) (λa6 j E=>by
   injection j with j;subst j;obtain⟨c0,e0,ae,c',y,T,p3,p4,V,p6⟩:=q.there;rw[I]at y;injection y with y;injection y with q1 q2 q3;subst q1 q2 q3;refine⟨r,n,c',et,fz,m,T,by omega,λi x L=>?_,by simp_all⟩;by_cases ag:off<=i/\i<off+l.length;have H:cs'[off+(i-off)]?=l[i-off]?:=U (i-off) (by omega);rw[show off+(i-off)=i by omega,L]at H;have a7:i-off<(Value.slice none 0 0).cells.size:=by omega
   have e2:=V (i-off) (Value.slice none 0 0).cells[i-off] (by simp);refine⟨(Value.slice none 0 0).cells[i-off],by rw[<-e2];congr 1;omega,E (W (i-off) x _ H.symm (by simp)),J _ (by simp)⟩;grind)
   (λ_ _ j=>by cases j)
  refine eb (e:=⟨fY,(new,.arr true esz [])::[(b,.box cs')]⟩) (O R (gf (by simp_all) I (by omega) (λk h1 h2=>hf k (by omega) (by omega)) J)) rfl i' (t0.trans t')
 cases h2;cases h2;cases h2;cases h2;cases h2;rename_i b ext i off;have ad:(fz (.slr new 0 0)).run ⟨env,s.σ⟩=none:=(by grind [fz,RM.run]);simp only[RM.run]at h2;split at h2;split at h2;split at h2;split at h2;grind [run_bind];cases h2;cases h2;cases h2;cases h2;cases h2;cases hc
theorem JG1(hi:Inv s)(he:bM s a.tmps env){zero parts os}(D: ∀j,j<os.length->s.σ[new+j]?=some .dead)(h:(opR F (.buildo zero parts os) new).run ⟨env,s.σ⟩=some e)
  (hc:JY P (.buildo zero parts os) o.op=true):bO P o a s e:=by
 simp only[opR]at h;obtain⟨l,h1,q⟩:=bind_some h;clear h;unfold JY at hc;simp only at hc;split at hc;rename_i t ps aa;simp only[JW]at hc;obtain⟨⟨hz,hn⟩,ht⟩:=hc;obtain⟨z,M,ab,O⟩:=vG hz;obtain⟨R,i1,N,J,ac⟩:=da os new hi D;split at q;rename_i cs hcs;split at q;rename_i r h3;simp only[RM.run]at q;injection q with q;subst q
 let s1:Sn:=⟨upd (gJ os new) s.σ,R,s.w⟩
 have E: ∀(i:Nat) x,(lJ os new (zero.map AV.p))[i]?=some x-> ∃u,z.cells[i]?=some u/\JA s1 x u/\u.oneCell'=true:=
  cw (s:=s1) (cells:=z.cells) os new (ru M hn) J (by
   intro i x I;rw[fB]at I;cases hzi:zero[i]? with
   |none=>simp_all
   |some c=>
    simp[hzi]at I;subst I;have K:=Jn hzi;have Y:i<z.cells.size:=by omega
    have:=O (w:=s1.w) (C:=s1.g.C) i c z.cells[i] hzi (by simp);exact⟨z.cells[i],by simp,.p _ _ this,this.one⟩)
 have fin: ∀{place:Nat->Option (Nat×Nat)},qJ place parts ps.toList=true->
   ∃n,Instr.fill place z.cells (ps.toList.map λx=>(x.1,a.eval x.2))=some n/\JA s1 r (.agg n):=by
  intro place B;obtain⟨U,k2⟩:=fj he h1 B;obtain⟨n,L,f2,f3⟩:=dm (s:=s1) (cells:=z.cells) hcs U (λk off size cs i v hk G=>by obtain⟨Z,W,T,V⟩:=k2 k off size cs i v hk G;exact⟨Z,W,T,λj y u S H=>(V j y u S H).mono hi N⟩) (by grind [dd]) E;refine⟨n,L,?_⟩;have:=NL (s:=s1) (vs:=n.toList) h3 (by simpa using f2) (λv G=>by
    obtain⟨i,hi'⟩:=fL G;have hi':n[i]?=some v:=by simpa using hi'
    have K:=QG hi';obtain⟨u,H,_,h1⟩:=f3 i cs[i] (by simp_all);simp_all)
   (λi y v S G=>by
    grind)
  simp_all
 have ad:(ps.map λx=>(x.1,a.eval x.2)).toList=ps.toList.map λx=>(x.1,a.eval x.2):=by simp
 split at ht;rename_i fs H;simp only[JW]at ht;obtain⟨A,B⟩:=ht;obtain⟨n,L,hr⟩:=fin B;have a9:(λi=>(fs.map λf=>(f.offset,(szT P f.type).getD 0))[i]?)=CO P fs:=by
  funext i
  simp only[CO,Array.getElem?_map];cases hfi:fs[i]? with
  |none=>rfl
  |some f=>have:=TU.1 A f (Array.mem_of_getElem? hfi);cases hq:szT P f.type<;>simp[hq]at this⊢
 have a2:(fs.mapM λf=>do pure (f.offset,<-sizeOf f.type):Sem (Array (Nat×Nat))).run P s.w=.ok (fs.map λf=>(f.offset,(szT P f.type).getD 0)) s.w:=by
  rw[Array.mapM_eq_mapM_toList];simp only[Sem.run_map,fo (P:=P) (fs:=fs.toList) (λf Q=>TU.1 A f (by simpa using Q)),rM]
  congr 1
  grind
 have Q:Instr.fill (λi=>(fs.map λf=>(f.offset,(szT P f.type).getD 0))[i]?) z.cells (ps.map λx=>(x.1,a.eval x.2)).toList=some n:=by simp_all
 have hb:(Instr.build t (ps.map λx=>(x.1,a.eval x.2))).run P s.w=.ok (.agg n) s.w:=by simp_all [Instr.build,DA,run_underlying]
 refine gB (e:=⟨r,gJ os new⟩) (v:=.agg n) (g':=R) ?_ i1 N hr;simp_all [execOp];cases ht;cases q;cases q;cases hc
end
end Go.Am
end
section
namespace Go.Am
theorem Fg{new:Nat}{env:List (Nat×AV)}{σ:List Blk}: ∀{k new:Nat} {u:Unit},(rS new k).run ⟨env,σ⟩=some u-> ∀j,j<k->σ[new+j]?=some .dead
 |0,_,_,_,j,hj=>by omega
 |k+1,new,u,h,j,hj=>by
  simp only[rS,RM.run]at h;split at h;rename_i x e;cases x with
  |dead=>
   dsimp only at h;cases j with
   |zero=>exact e
   |succ j=>have:=Fg (new:=0) h j (by omega);grind
  |box=>cases h
  |arr=>cases h
  cases h
section
variable {P:Program} {F:Orc} {s:Sn} {a:Act} {env:List (Nat×AV)} {o:Oper} {new:Nat} {e:Eff}
theorem Y8(q:iV P F)(hi:Inv s)(he:bM s a.tmps env){n:AOp}(h:(opD F n new).run ⟨env,s.σ⟩=some e)(hc:JY P n o.op=true):bO P o a s e:=by
 unfold opD at h;obtain⟨u,hd,h⟩:=bind_some h;have g:=Fg (new:=0) hd;clear hd;have j:kP n=1->s.σ[new]?=some .dead:=λh1=>g 0 (by omega);cases n with
 |mv x=>grind [Zo]
 |mkarr esz x=>exact JHl hi (j rfl) h hc
 |pick=>grind [JJG]
 |newbox=>exact JG2 hi (j rfl) h hc
 |box=>exact JLb hi he (j rfl) h hc
 |build=>grind [JHo]
 |lits=>grind [JKp,kP]
 |load=>grind [JKw]
 |store=>grind [JI0]
 |nilchk=>grind [JFe]
 |bin op t x y=>cases t<;>grind [Hq,JAp,JB4,JBi,JAX,JBf]
 |un=>grind [JN4]
 |conv k x=>
  grind [JE0,kP,JKj]
 |mkslice=>grind [JDn,kP]
 |slice=>grind [JHk]
 |faddr=>grind [JHq]
 |field=>grind [JHB]
 |iaddr=>grind [JId]
 |aaddr=>grind [JIB]
 |sidx=>grind [JJM]
 |aidx=>grind [JKl]
 |extr=>grind [JKr]
 |call=>exact JKe q hi he g h hc
 |callv=>exact JGV q hi he g h hc
 |len=>grind [JL7]
 |app=>grind [JLi]
 |appn=>exact JKn hi he (j rfl) h hc
 |ppre=>exact JKh hi he h hc
 |psuf=>exact JK9 hi he h hc
 |appp=>exact JJK hi he h hc
 |mm=>grind [Zj]
 |newboxo=>exact JCO hi g h hc
 |buildo=>exact JG1 hi he g h hc
 |storen=>exact JFE hi he (j rfl) h hc
 |callo=>exact JH0 q hi he g h hc
end
def xW(P:Program)(N:Nat)(ops:Array Oper)(i:bR)(o:Oper):Bool:=
 JY P i.op o.op&&i.dst==o.dst&&(match i.dst with
  |some d=>decide (d<N)
  |none=>true)&&(match i.g,o.guard with
  |none,none=>true
  |some (g,w),some (j,w')=>w==w'&&(ops[j]?).bind (·.dst)==some g
  |_,_=>false)
def Sim(N:Nat)(E:Sn)(st:St)(a:Act)(w:World):Prop:=a.tmps.size=N/\a.defers=[]/\ ∃g,Inv ⟨st.sto,g,w⟩/\bM ⟨st.sto,g,w⟩ a.tmps st.env/\aW E ⟨st.sto,g,w⟩
theorem bM.put{s:Sn}{tmps:Array Value}{env:List (Nat×AV)}(he:bM s tmps env){d:Nat}(hd:d<tmps.size){x:AV}{v:Value}(hv:JA s x v):
  bM s (tmps.setIfInBounds d v) ((d,x)::env):=by
 intro n y e;simp only[lk]at e;split at e;simp_all;rename_i g;obtain⟨u,h1,h2⟩:=he n y e;grind
theorem Sim.putd{N:Nat}{E:Sn}{st:St}{a:Act}{w w':World}{g g':Gh}{e:Eff}{v:Value}{d:Option Nat}
  (h1:a.tmps.size=N) (h2:a.defers=[]) (hi:Inv ⟨st.sto,g,w⟩) (he:bM ⟨st.sto,g,w⟩ a.tmps st.env) (ht:aW E ⟨st.sto,g,w⟩) (hd: ∀x,d=some x->x<N)
  (hi':Inv ⟨upd e.ws st.sto,g',w'⟩) (h:aW ⟨st.sto,g,w⟩ ⟨upd e.ws st.sto,g',w'⟩) (hv:JA ⟨upd e.ws st.sto,g',w'⟩ e.val v):
  Sim N E (Am.put d e st) (a.put d v) w':=by
 have j:=he.mono hi h;cases d with
 |none=>exact⟨h1,h2,g',hi',j,ht.trans h⟩
 |some d=>exact⟨by grind [Act.put],h2,g',hi',j.put (by simp_all) hv,ht.trans h⟩
section
variable {P:Program} {F:Orc} {N:Nat} {E:Sn} {st:St} {a:Act} {w:World} {ops:Array Oper} {i:bR} {o:Oper} {e:Eff} {new k:Nat} {Q:Exit->Act->World->Prop} {K:Act->World->Prop}
theorem JDa{s:Sn}:JA s fY undef:=.tup _ _ rfl λi x v h=>by simp at h
theorem C3(D:iV P F)(hs:Sim N E st a w)(ho:ops[k]?=some o)(hc:xW P N ops i o=true)(h:(bT F i new).run st=some e)
  (next: ∀n w',Sim N E (Am.put i.dst e st) n w'->K n w'):wpOp P ops Q k K a w:=by
 obtain⟨h1,h2,g,hi,y,ht⟩:=hs;simp only[xW,JW,beq_iff_eq]at hc;obtain⟨⟨⟨hc,hd⟩,I⟩,q⟩:=hc;have z: ∀x,i.dst=some x->x<N:=(by grind);have run: ∀{e:Eff},(opD F i.op new).run st=some e->(∀n w',Sim N E (Am.put i.dst e st) n w'->K n w')->o.wp P a w K Q:=(by intro e h next;refine Y8 (s:=⟨st.sto,g,w⟩) (env:=st.env) D hi y h hc K Q λv w' g' hi' H A=>next _ _ ?_;grind [Sim.putd]);have skip:(∀n w',Sim N E (Am.put i.dst ⟨fY,[]⟩ st) n w'->K n w')->K (a.put o.dst undef) w:=by intro next;refine next _ _ ?_;rw[<-hd];exact Sim.putd (e:=⟨fY,[]⟩) h1 h2 hi y ht z hi (.refl _) JDa
 unfold wpOp;rw[ho];dsimp only;unfold bT at h;cases hig:i.g with
 |none=>
  grind [Region.wanted]
 |some G=>
  obtain⟨J,C⟩:=G;rw[hig]at h q;cases hog:o.guard with
  |none=>simp_all
  |some x=>
   obtain⟨j,B⟩:=x;rw[hog]at q;simp only[JW,beq_iff_eq]at q;obtain⟨rfl,R⟩:=q;simp only[RM.run]at h;split at h;rename_i v A;obtain⟨u,O,r⟩:=y _ _ A;split at h;rename_i b;cases r with
   |p _ _ r=>
    cases r with
    |b x=>
     have M:yielded ops a.tmps j=some b:=by grind [yielded]
     grind [Region.wanted,RM.run]
   cases r with
   |tup _ vs L _=>
    grind [yielded,Region.wanted,RM.run]
   cases h;cases h
end
theorem m7{σ:List Blk}{n b:Nat}{x:Blk}(h:(σ++List.replicate n Blk.dead)[b]?=some x)(hx:x≠.dead):σ[b]?=some x:=by
 grind
theorem ql{σ:List Blk}{n b:Nat}{x:Blk}(h:σ[b]?=some x):(σ++List.replicate n Blk.dead)[b]?=some x:=by
 grind
theorem OA{σ:List Blk}{g:Gh}{w:World}{n b r o:Nat}:Wr1 ⟨σ++List.replicate n .dead,g,w⟩ b r o↔Wr1 ⟨σ,g,w⟩ b r o:=by
 grind [Wr1]
theorem fp{σ:List Blk}{g:Gh}{w:World}{n:Nat}:aW ⟨σ,g,w⟩ ⟨σ++List.replicate n .dead,g,w⟩ where
 keep:=.refl _ _
 cmono _ _ h:=h
 cnew _ _ h:=.inl h
 wnew _ _ h:=let⟨b,e⟩:=h;.inl ⟨b,OA.1 e⟩
 len:=by simp
 box b cs h:=⟨⟨cs,ql h,rfl⟩,rfl⟩
 arr b wm esz rows h:=⟨wm,rows,ql h,id,zQ0 _,λ_=>rfl⟩
theorem JJ0{σ:List Blk}{g:Gh}{w:World}{n:Nat}(hi:Inv ⟨σ,g,w⟩):Inv ⟨σ++List.replicate n .dead,g,w⟩:=by
 have t:=fp (σ:=σ) (g:=g) (w:=w) (n:=n);refine⟨λb cs h=>?_,λb wm esz rows h=>?_,λb1 b2 r o h1 h2=>hi.apart b1 b2 r o (OA.1 h1) (OA.1 h2),λr o hc=>⟨(hi.const r o hc).1,λb A=>(hi.const r o hc).2 b (OA.1 A)⟩⟩;obtain⟨r,o,c,e,fz,B,E,C,y,q⟩:=hi.box b cs (m7 h (by simp));exact⟨r,o,c,e,fz,B,E,C,λi x D=>let⟨v,j,z,k⟩:=y i x D;⟨v,j,z.mono hi t,k⟩,q⟩;exact hi.arr b wm esz rows (m7 h (by simp))
theorem Sim.room{N:Nat}{E:Sn}{st:St}{a:Act}{w:World}(h:Sim N E st a w)(n:Nat):Sim N E ⟨st.env,room n st.sto⟩ a w:=by
 unfold Am.room;split;exact h;obtain⟨h1,h2,g,hi,e,ht⟩:=h;exact⟨h1,h2,g,JJ0 hi,e.mono hi fp,ht.trans fp⟩
theorem Sim.heap{N:Nat}{E:Sn}{st:St}{a:Act}{w w':World}(h:Sim N E st a w)(hh:w'.heap=w.heap)(ho:w'.os=w.os)(hp:w'.output=w.output):Sim N E st a w':=by obtain⟨h1,h2,g,hi,j,ht⟩:=h;obtain⟨e,t'⟩:=ec hi hh ho hp;exact⟨h1,h2,g,e,j.mono hi t',ht.trans t'⟩
theorem Sim.congr{N:Nat}{E:Sn}{st st':St}{a:Act}{w:World}(h:Sim N E st a w)(he: ∀m,lk m st'.env=lk m st.env)(hs:st'.sto=st.sto):Sim N E st' a w:=by obtain⟨h1,h2,g,hi,e,ht⟩:=h;refine⟨h1,h2,g,?_⟩;rw[hs];exact⟨hi,λn x j=>e n x (by simp_all),ht⟩
end Go.Am
end
section
namespace Go.Am
def eG(P:Program)(N:Nat)(ops:Array Oper):List bR->List Oper->Bool|[],[]=>true|i::r,o::q=>xW P N ops i o&&eG P N ops r q|_,_=>false
def QJ(x y:bR):Bool:=
 (match x.dst with
 |none=>true
 |some m=>y.dst !=some m&& !(vA y).contains m)&&(match y.dst with
 |none=>true
 |some m=> !(vA x).contains m)
def OZ(x y:bR):Bool:=(!xC x.op|| !FJ y.op)&&(!xC y.op|| !FJ x.op)
def GJ:List Nat->List Nat->List Nat|[],acc=>acc|x::r,acc=>match acc.contains x with|true=>GJ r acc|false=>GJ r (x::acc)
theorem d8{i:Nat}: ∀{l acc:List Nat},i∈GJ l acc->i∈l\/i∈acc
 |[],_,h=>.inr h
 |x::r,acc,h=>by
  simp only[GJ]at h;split at h;exact(d8 h).imp (kK _) id
  ·rcases d8 h with h|h
   all_goals grind
def Bz(l:List Nat):List Nat:=GJ l []
theorem JGM{i:Nat}{l:List Nat}(h:i∈Bz l):i∈l:=(d8 h).resolve_right (by simp)
def B5(acc:List (List Nat))(o:Oper):List Nat:=Bz<|(o.after.toList.filter λe=>Region.binds .any e).flatMap λe=>e.on::(acc[e.on]?).getD []
def kx(acc:List (List Nat)):List Oper->List (List Nat)|[]=>acc|o::r=>kx (acc++[B5 acc o]) r
def ZD(e:List (List Nat))(pairs:List (Nat×Nat))(i j:Nat)(x y:bR):Bool:=
 ((e[j]?).getD []).contains i||(QJ x y&&(OZ x y||pairs.contains (i,j)))
def IS(e:List (List Nat))(pairs:List (Nat×Nat))(j:Nat)(y:bR):Nat->List bR->Bool|_,[]=>true|i,x::r=>(decide (j<=i)||ZD e pairs i j x y)&&IS e pairs j y (i+1) r
def OC(g:List (List Nat))(pairs:List (Nat×Nat))(e:List bR):Nat->List bR->Bool|_,[]=>true|j,y::r=>IS g pairs j y 0 e&&OC g pairs e (j+1) r
def OR:Nat->List Oper->Bool|_,[]=>true|j,o::r=>(o.after.all λe=> !Region.binds .any e||decide (e.on<j))&&OR (j+1) r
def XI(P:Program)(N:Nat)(draw:Bool)(pairs:List (Nat×Nat))(ins:List bR)(ops:Array Oper):Bool:=
 eG P N ops ins ops.toList&&(!draw||(OR 0 ops.toList&&OC (kx [] ops.toList) pairs ins 0 ins))
section
variable {P:Program} {F:Orc} {N:Nat} {E:Sn} {st st':St} {a:Act} {w:World} {ops:Array Oper} {Q:Exit->Act->World->Prop}
theorem pf: ∀{ins:List bR} {os:List Oper},eG P N ops ins os=true->ins.length=os.length/\ ∀(k:Nat) i,ins[k]?=some i-> ∃o,os[k]?=some o/\xW P N ops i o=true
 |[],[],_=>⟨rfl,by simp⟩
 |i::r,o::q,h=>by
  simp only[eG,JW]at h;obtain⟨h1,h2⟩:=pf h.2;grind
 |[],_::_,h=>by grind [eG]
 |_::_,[],h=>by grind [eG]
theorem qn(v:iV P F): ∀{r:List bR} {k new:Nat} {st:St} {a:Act} {w:World},(∀(j:Nat) i,r[j]?=some i-> ∃o,ops[k+j]?=some o/\xW P N ops i o=true)->
  fR F r new st=some st'->Sim N E st a w->(∀n w',Sim N E st' n w'->Q .normal n w')->wpOps P ops Q (List.range' k r.length) a w
 |[],k,new,st,a,w,_,h,q,next=>by simp only[fR]at h;cases h;exact next a w q
 |i::r,k,new,st,a,w,hc,h,q,next=>by
  simp only[fR]at h;split at h;rename_i e z;obtain⟨o,x,g⟩:=hc 0 i rfl;rw[tM,List.range'_succ,wpOps_cons];refine C3 v q x g z λn w' hs'=>qn v (λj i y=>?_) h hs' next;obtain⟨o,x,g⟩:=hc (j+1) i (by simpa using y);grind;cases h
theorem B9: ∀{ins:List bR} {g:Nat} {st:St},fR F ins g st=some st'->
  ∃(new:Nat->Nat) (S:Nat->St) (eff:Nat->Eff),Run F ins new S eff/\S 0=st/\S ins.length=st'
 |[],g,st,h=>by
  simp only[fR]at h;injection h with h;subst h;exact⟨λ_=>0,λ_=>st,λ_=>⟨fY,[]⟩,⟨by simp⟩,rfl,rfl⟩
 |i::r,g,st,h=>by
  simp only[fR]at h;split at h;rename_i e q;obtain⟨new,S,eff,n,v,j⟩:=B9 h;refine⟨fun|0=>g|k+1=>new k,fun|0=>st|k+1=>S k,fun|0=>e|k+1=>eff k,⟨λk x o=>?_⟩,rfl,j⟩;cases k with
  |zero=>simp_all
  |succ k=>exact n.step k x (by simpa using o)
  cases h
theorem C1: ∀{ins:List bR} {g:Nat} {st:St} {l j:Log},iU F ins g st l=some (st',j)->
  ∃(new:Nat->Nat) (S:Nat->St) (eff:Nat->Eff),Run F ins new S eff/\S 0=st/\S ins.length=st'/\
   (∀k,k<l.length->j[k]?=l[k]?)/\ ∀(k:Nat) i,ins[k]?=some i->j[l.length+k]?=some (iW ((bT F i (new k)).reads (S k)),(eff k).ws.map (·.1))
 |[],g,st,l,j,h=>by
  simp only[iU]at h;injection h with h;injection h with h1 h2;subst h1 h2;exact⟨λ_=>0,λ_=>st,λ_=>⟨fY,[]⟩,⟨by simp⟩,rfl,rfl,λ_ _=>rfl,by simp⟩
 |i::r,g,st,l,j,h=>by
  simp only[iU]at h;split at h
  ·rename_i e z;obtain⟨new,S,eff,q,v,o,y,A⟩:=C1 h;refine⟨fun|0=>g|k+1=>new k,fun|0=>st|k+1=>S k,fun|0=>e|k+1=>eff k,⟨λk x n=>?_⟩,rfl,o,λk w=>?_,λk x n=>?_⟩
   cases k with
   |zero=>simp_all
   |succ k=>exact q.step k x (by simpa using n)
   all_goals grind
  cases h
theorem QC{b:Nat}: ∀{l:List Loc},Loc.blk b∈l->b∈iW l
 | .blk c::r,h=>by
  simp only[iW,bX]at*;rcases h with h|h;simp_all;exact .inr (QC h)
 | .slot n::r,h=>by simp only[iW];refine QC ?_;simpa using h
 |[],h=>by simp at h
theorem dw{a b:List Nat}(h:fV a b=true){x:Nat}(hx:x∈a):x∉b:=by
 grind [fV]
theorem q7{l:Log}: ∀{ps:List (Nat×Nat)} {i j:Nat},CW l ps=true->(i,j)∈ps->
  ∃x y,l[i]?=some x/\l[j]?=some y/\fV x.2 y.1=true/\fV x.2 y.2=true/\fV x.1 y.2=true
 |[],i,j,_,h=>by simp at h
 |(p,q)::r,i,j,h,hm=>by
  simp only[CW,JW]at h;obtain⟨h1,h2⟩:=h;rcases bX.1 hm with e|e;grind;exact q7 h2 e
def ZJ(ops:Array Oper)(D:Nat->Bool)(k:Nat):Prop:= ∀o,ops[k]?=some o-> ∀e∈o.after,Region.binds .any e=true->D e.on=true
def Cn(ops:Array Oper)(D:Nat->Bool):Prop:= ∀k,D k=true->ZJ ops D k
def iw(ops:Array Oper)(k i:Nat):Prop:= ∀D,Cn ops D->ZJ ops D k->D i=true
theorem Cr: ∀{os:List Oper} {acc:List (List Nat)},(∀(j:Nat) o,os[j]?=some o->ops[acc.length+j]?=some o)->(∀(k:Nat) l i,acc[k]?=some l->i∈l->iw ops k i)->
  ∀(k:Nat) l i,(kx acc os)[k]?=some l->i∈l->iw ops k i
 |[],acc,_,n=>n
 |o::r,acc,y,n=>by
  refine Cr (os:=r) (acc:=acc++[B5 acc o]) (λj x A=>?_) λk l i g hi=>?_;have:=y (j+1) x (by simpa using A);grind;rcases xX g with g|⟨B,g⟩;simp_all;have q:k=acc.length:=(by grind);subst q;simp at g;subst g;intro D hD z;replace hi:=JGM hi;simp only[List.mem_flatMap,List.mem_filter]at hi;obtain⟨e,⟨w,v⟩,hi⟩:=hi;have h:=z o (by simpa using y 0 o rfl) e (by simpa using w) v;rcases bX.1 hi with rfl|hi;exact h;cases hac:acc[e.on]? with
  |none=>simp_all
  |some l=>rw[hac]at hi;exact n _ l i hac hi D hD (hD _ h)
theorem sa{g:List (List Nat)}{pairs:List (Nat×Nat)}{j:Nat}{y:bR}: ∀{r:List bR} {e:Nat},IS g pairs j y e r=true-> ∀(k:Nat) x,r[k]?=some x->e+k<j->ZD g pairs (e+k) j x y=true
 |[],e,_,k,x,n,_=>by simp at n
 |z::r,e,h,k,x,n,o=>by
  simp only[IS,JW,wW,decide_eq_true_eq]at h;cases k with
  |zero=>grind
  |succ k=>
   have:=sa h.2 k x (by simpa using n) (by omega);grind
theorem rf{j:List (List Nat)}{pairs:List (Nat×Nat)}{g:List bR}: ∀{r:List bR} {e:Nat},OC j pairs g e r=true-> ∀(k:Nat) y,r[k]?=some y->IS j pairs (e+k) y 0 g=true
 |[],e,_,k,y,n=>by simp at n
 |z::r,e,h,k,y,n=>by
  simp only[OC,JW]at h;cases k with
  |zero=>simp_all
  |succ k=>
   have:=rf h.2 k y (by simpa using n);grind
theorem r9: ∀{r:List Oper} {g:Nat},OR g r=true-> ∀(k:Nat) o,r[k]?=some o-> ∀e∈o.after,Region.binds .any e=true->e.on<g+k
 |[],g,_,k,o,j=>by simp at j
 |z::r,g,h,k,o,j=>by
  simp only[OR,JW]at h;cases k with
  |zero=>
   grind [Array.all_eq_true_iff_forall_mem]
  |succ k=>intro e n q;have:=r9 h.2 k o (by simpa using j) e n q;omega
theorem JHP{x y:bR}(h:QJ x y=true):(∀m,x.dst=some m->y.dst≠some m/\m∉vA y)/\(∀m,y.dst=some m->m∉vA x):=by
 grind [QJ]
variable {ins:List bR} {new:Nat->Nat} {S:Nat->St} {eff:Nat->Eff}
theorem JIG(hr:Run F ins new S eff){i j:Nat}(hi:i<ins.length)(hj:j<ins.length)(h1:QJ ins[i] ins[j]=true)
  (h2:OZ ins[i] ins[j]=true\/(fV ((eff i).ws.map (·.1)) (iW ((bT F ins[j] (new j)).reads (S j)))=true/\
   fV ((eff i).ws.map (·.1)) ((eff j).ws.map (·.1))=true/\fV (iW ((bT F ins[i] (new i)).reads (S i))) ((eff j).ws.map (·.1))=true)):LZ F ins new S eff i j:=by
 obtain⟨s1,C⟩:=JHP h1;have q:ins[i]?=some ins[i]:=JV hi;have o:ins[j]?=some ins[j]:=JV hj;obtain⟨z,_⟩:=hr.step i _ q;obtain⟨v,_⟩:=hr.step j _ o;refine⟨λx y m g e r=>?_,λx y m g e r n=>?_,λy b e k=>?_,λx b g k n=>?_⟩;rw[q]at g;cases g;rw[o]at e;cases e;exact⟨(s1 m r).1,λn=>(s1 m r).2 (Fe F _ _ _ _ n)⟩;rw[q]at g;cases g;rw[o]at e;cases e;exact C m r (Fe F _ _ _ _ n);rw[o]at e;cases e;rcases h2 with h2|⟨w,A,B⟩;simp only[OZ,JW,wW,jD]at h2;rcases h2.1 with h|h;rw[YS F _ _ h _ _ z]at k;simp at k;refine⟨?_,Es F _ _ h _ _ v b⟩;rw[YS F _ _ (Ck h) _ _ v];simp;exact⟨dw A k,λn=>dw w k (QC n)⟩;rw[q]at g;cases g;rcases h2 with h2|⟨w,A,B⟩;simp only[OZ,JW,wW,jD]at h2;rcases h2.2 with h|h;rw[YS F _ _ h _ _ v]at k;simp at k;exact Es F _ _ h _ _ z b n;grind [dw,QC]
def Dl(e:Array Bool):Nat->Bool:=λj=>e.getD j false
theorem Cu{e:Array Bool}{i:Nat}(hi:i<e.size):Dl (e.setIfInBounds i true)=λj=>if j=i then true else Dl e j:=by
 funext j
 unfold Dl;by_cases h:j=i
 all_goals simp_all [Ne.symm]
theorem qz{l:Array Bool}{i:Nat}(hi:i<l.size)(h:l.getD i false=false):(l.setIfInBounds i true).count false+1=l.count false:=by
 have e:l[i]=false:=by simp_all
 grind [Array.getElem_mem]
theorem qy{l:Array Bool}(h:l.count false=0){i:Nat}(hi:i<l.size):l.getD i false=true:=by
 grind [qz]
theorem Bk{l:Array Bool}: ∀m,m<=l.size->(∀j,j<m->Dl l j=true)\/ ∃k,k<m/\Dl l k=false/\ ∀j,j<k->Dl l j=true
 |0,_=>.inl λj e=>by omega
 |m+1,h=>by
  rcases Bk (l:=l) m (by omega)with h1|⟨k,a,b,c⟩
  all_goals grind
theorem JG6{l:Array Bool}{j:Nat}(hj:j<l.size):l.getD j true=l.getD j false:=by simp[hj]
theorem JMP(hF:iV P F)(hr:Run F ins new S eff)(hlen:ins.length=ops.size)(hc: ∀(k:Nat) i,ins[k]?=some i-> ∃o,ops[k]?=some o/\xW P N ops i o=true)
  (G: ∀(k:Nat) o,ops[k]?=some o-> ∀e∈o.after,Region.binds .any e=true->e.on<k)
  (K: ∀i j,i<j->j<ins.length->iw ops j i\/LZ F ins new S eff i j)
  (next: ∀H w',Sim N E (S ins.length) H w'->Q .normal H w'):
  ∀(n:Nat) (g:Array Bool) (st:St) (a:Act) (w:World),g.size=ops.size->Agree ins eff (S 0) (Dl g) st->Sim N E st a w->Cn ops (Dl g)->g.count false=n->
   wpAny P .any ops Q n g a w:=by
 intro n
 induction n with
 |zero=>
  intro g st a w L C R r B;refine⟨?_,?_⟩;cases hre:Region.ready .any ops g with
  |nil=>rfl
  |cons j l=>
   exfalso;have h:j∈Region.ready .any ops g:=by rw[hre];simp
   grind [mem_ready,qy]
  ·obtain⟨e1,e2⟩:=JFx hr C λj x=>qy B (by omega);exact next a w (R.congr (λm=>(e1 m).symm) e2.symm)
 |succ n ih=>
  intro g st a w L C R r B;refine⟨λa2=>?_,λk I=>?_⟩;exfalso;rcases Bk (l:=g) ops.size (by omega)with z|⟨k,I,D,M⟩;have:g.count false=0:=(by rw[Array.count_eq_zero];intro h;obtain⟨i,hi,y⟩:=Array.getElem_of_mem h;have:=z i (by omega);unfold Dl at this;simp[hi,y]at this);omega;have h:k∈Region.ready .any ops g:=(by rw[mem_ready];refine⟨by rw[JG6 (by omega)];exact D,ops[k],by simp[I],λe y A=>?_⟩;exact M _ (G k ops[k] (by simp[I]) e y A));simp_all;obtain⟨h1,o,Y,z⟩:=mem_ready.1 I;have a0:k<ops.size:=(jo.1 Y).1;have D:Dl g k=false:=by grind [Dl]
  have T:ins[k]?=some (ins[k]'(by omega)):=JV _;obtain⟨o',W,U⟩:=hc k _ T;have q:ZJ ops (Dl g) k:=by intro O v e y A;rw[Y]at v;cases v;exact z e y A
  obtain⟨Z,r2⟩:=JIg hr C T D (λj x hDj=>by
   rcases K j k x (by omega)with h|h;have:=h _ r q;simp_all;exact h) (λj x V hDj=>by
   rcases K k j x V with h|h;have:=h _ r (r j hDj);simp_all;exact h)
  refine C3 hF R W U Z λH w' hs'=>ih _ _ H w' (by simp[L]) ?_ hs' ?_ ?_;grind [Cu];rw[Cu (by omega)];intro j x O v e y A;dsimp only at x⊢;have h:Dl g e.on=true->(if e.on=k then true else Dl g e.on)=true:=by simp_all
  by_cases J:j=k;subst J;exact h (q O v e y A);rw[if_neg J]at x;exact h (r j x O v e y A);grind [qz]
theorem JLv(Z:iV P F)(H:P.follows .mixedOrders=true){id:Nat}{draw:Bool}{pairs:List (Nat×Nat)}{ins:List bR}(h:region F pairs ins st=some st')
  (hc:XI P N draw pairs ins ops=true) (hs:Sim N E st a w) (next: ∀U w',Sim N E st' U w'->Q .normal U w'):(Code.region id ops draw).wp P Q a w:=by
 simp only[XI,JW,wW,jD]at hc;obtain⟨K,B⟩:=hc;obtain⟨hlen,G⟩:=pf K;have hlen:ins.length=ops.size:=by simp_all
 have G: ∀(k:Nat) i,ins[k]?=some i-> ∃o,ops[k]?=some o/\xW P N ops i o=true:=λk i hi=>by simp_all
 have T:=hs.room (news ins);have J: ∃(new:Nat->Nat) (S:Nat->St) (eff:Nat->Eff),Run F ins new S eff/\S 0=⟨st.env,room (news ins) st.sto⟩/\S ins.length=st'/\
   ∀i j,(i,j)∈pairs-> ∃x y,ins[i]?=some x/\ins[j]?=some y/\fV ((eff i).ws.map (·.1)) (iW ((bT F y (new j)).reads (S j)))=true/\
   fV ((eff i).ws.map (·.1)) ((eff j).ws.map (·.1))=true/\fV (iW ((bT F x (new i)).reads (S i))) ((eff j).ws.map (·.1))=true:=by
  unfold region at h;split at h;grind [B9];split at h;rename_i s' l n;split at h;rename_i M;cases h;obtain⟨new,S,eff,D,C,O,_,q⟩:=C1 n;refine⟨new,S,eff,D,C,O,λi j hm=>?_⟩;obtain⟨x,y,Y,W,d1,d2,d3⟩:=q7 M hm;have R: ∀(k:Nat) z,l[k]?=some z->k<ins.length:=by
   intro k z hk;have:=Jn hk;have a6:l.length=ins.length:=by
    clear q D C O M Y W;have: ∀{r:List bR} {e:Nat} {s0:St} {A v:Log} {s1:St},iU F r e s0 A=some (s1,v)->v.length=A.length+r.length:=by
     intro r
     induction r with
     |nil=>simp[iU]
     |cons i r ih=>
      grind [iU]
    grind
   omega
  have hi:=R i x Y;have g:=R j y W;have L:ins[i]?=some ins[i]:=JV hi;have I:ins[j]?=some ins[j]:=JV g;have qi:=q i _ L;have qj:=q j _ I;simp only[List.length_nil,jI]at qi qj;grind;cases h;cases h
 obtain⟨new,S,eff,D,C,O,M⟩:=J;cases draw with
 |false=>
  refine wp_region ?_;rw[List.range_eq_range',<-hlen];have a7: ∃e,fR F ins e ⟨st.env,room (news ins) st.sto⟩=some st':=by
   unfold region at h;split at h;grind;split at h;rename_i s' l n;split at h;cases h;have: ∀{r:List bR} {e:Nat} {s0:St} {A v:Log} {s1:St},iU F r e s0 A=some (s1,v)->fR F r e s0=some s1:=by
    intro r
    induction r with
    |nil=>intro e s0 A v s1 h;simp only[iU]at h;injection h with h;injection h with h1 h2;subst h1;rfl
    |cons i r ih=>
     grind [iU,fR]
   grind;cases h;cases h
  grind [qn]
 |true=>
  obtain⟨he,hd⟩:=B.resolve_left (by simp);refine wp_region_any H ?_;have V:Sim N E (S 0) a {w with drawn:=w.drawn+1}:=by rw[C];exact T.heap rfl rfl rfl
  refine JMP Z D hlen G (λk o ho=>?_) (λi j hij g=>?_) (by simp_all) ops.size _ (S 0) a _ (by simp) ?_ V ?_ ?_;have:=r9 he k o (by simpa using ho);simp_all;have L:ins[i]?=some (ins[i]'(by omega)):=JV _;have I:ins[j]?=some ins[j]:=JV g;have h1:=rf hd j _ I;rw[jI]at h1;have h2:=sa h1 i _ L (by omega);rw[jI]at h2;simp only[ZD,wW,JW]at h2;rcases h2 with h2|⟨h2,h3⟩;grind [Cr];grind [JIG];have:Dl (Array.replicate ops.size false)=λ_=>false:=by
   funext j;unfold Dl;simp[Array.getElem?_replicate];split<;>rfl
  rw[this];exact JAW;intro j g;unfold Dl at g;simp[Array.getElem?_replicate]at g;grind;simp
end
end Go.Am
end
section
namespace Go.Am
def cP(P:Program)(N:Nat):bW->Code->Bool
 | .bad,_=>true
 | .skip,c=>match c with| .skip=>true| .label _=>true|_=>false
 | .reg draw pairs ins,c=>match c with| .region _ ops d=>draw==d&&XI P N draw pairs ins ops|_=>false
 | .seq a b,c=>match c with| .seq x y=>cP P N a x&&cP P N b y|_=>false
 | .cond o a b,c=>match c with| .cond p x y=>bK o p&&cP P N a x&&cP P N b y|_=>false
 | .block id a,c=>match c with| .block e x=>id==e&&cP P N a x|_=>false
 | .loop _ a,c=>match c with| .loop x=>cP P N a x|_=>false
 | .lp _ _ _,_=>false
 | .scope a,c=>match c with| .scope x=>cP P N a x|_=>false
 | .exit id,c=>match c with| .exit e=>id==e|_=>false
 | .ret,c=>match c with| .ret=>true|_=>false
 | .keep _ a,c=>cP P N a c
 | .tidy _ a,c=>cP P N a c
 | .br _ pre o a b rest,c=>match c with| .seq (.seq p (.cond q x y)) z=>cP P N pre p&&bK o q&&cP P N a x&&cP P N b y&&cP P N rest z|_=>false
def qC:AX->Exit| .normal=>.normal| .exit id=>.exit id| .ret=>.ret
def IA(P:Program)(c:bW)(st:St)(r:Out):Prop:=
 match c with
 | .lp n _ b=> ∃k,∀(N:Nat) (e:Code) (E:Sn) (a:Act) (w:World) (Q:Exit->Act->World->Prop),cP P N b e=true->E.σ.length<=n->n<=st.sto.length->Sim N E st a w->
   (∀g w',Sim N E r.2 g w'->Q (qC r.1) g w')->Code.rounds P e Q k a w
 |c=> ∀(N:Nat) (e:Code) (E:Sn) (a:Act) (w:World) (Q:Exit->Act->World->Prop),cP P N c e=true->Sim N E st a w->
  (∀g w',Sim N E r.2 g w'->Q (qC r.1) g w')->e.wp P Q a w
theorem IA.get{P:Program}{c:bW}{st:St}{r:Out}(h:IA P c st r){N:Nat}{e:Code}{E:Sn}{a:Act}{w:World}{Q:Exit->Act->World->Prop}(hc:cP P N c e=true)(hs:Sim N E st a w)
  (next: ∀g w',Sim N E r.2 g w'->Q (qC r.1) g w'):e.wp P Q a w:=by
 cases c<;>first|exact h N e E a w Q hc hs next|grind [cP]
theorem OV{env:List (Nat×AV)}{n:Nat}{x:AV}: ∀{live:List Nat},lk n (restr live env)=some x->lk n env=some x
 |[],h=>by grind [restr,lk]
 |k::r,h=>by
  simp only[restr]at h;split at h;rename_i v e;simp only[lk]at h;split at h;simp_all;exact OV h;exact OV h
theorem C9{m:Nat}{sto:List Blk}{n:Nat}{y:AV}: ∀{env g:List (Nat×AV)},tN m sto env=some g->lk n g=some y-> ∃x,lk n env=some x/\fin m [] sto x=some y
 |[],g,h,hy=>by grind [tN,lk]
 |(k,x)::r,g,h,hy=>by
  simp only[tN]at h;split at h;rename_i z l q j;injection h with h;subst h;simp only[lk]at hy⊢;split at hy;simp_all;rename_i e;obtain⟨o,h1,h2⟩:=C9 j hy;simp_all;cases h
section
variable {P:Program} {N:Nat} {E:Sn} {st st':St} {a:Act} {w:World}
theorem Sim.restr(h:Sim N E st a w)(live:List Nat):Sim N E ⟨restr live st.env,st.sto⟩ a w:=by obtain⟨h1,h2,g,hi,e,ht⟩:=h;exact⟨h1,h2,g,hi,λn x j=>e n x (OV j),ht⟩
theorem OU{n:Nat}{live:List Nat}(h:Sim N E st a w)(hc:clean n live st=some st')(q:E.σ.length<=n)(hn:n<=st.sto.length):Sim N E st' a w/\st'.sto.length=n:=by
 unfold clean at hc;split at hc;rename_i e;injection hc with hc;subst hc;exact⟨h.restr live,e⟩;split at hc;rename_i ev l o A;injection hc with hc;subst hc;obtain⟨h1,h2,g,hi,C,ht⟩:=h;obtain⟨G,H⟩:=PZ A;have hlen:l.length=n:=by simp_all
 have j:kz ⟨st.sto,g,w⟩ n [] l:=(by refine⟨hi,hn,List.nodup_nil,λb r=>by simp at r,by simp[hlen],λk x I=>?_⟩;grind [sE]);refine⟨⟨h1,h2,(jN ⟨st.sto,g,w⟩ n [] l).g,Ds j,λk y B=>?_,py j ht q⟩,hlen⟩;obtain⟨x,D,z⟩:=C9 o B;obtain⟨v,F,hrel⟩:=C k x (OV D);exact⟨v,F,YW j hrel z⟩;cases hc
def nJ(P:Program):List tO->List ResultVar->Bool|[],[]=>true| .tmp t::r,.tmp t'::q=>t==t'&&nJ P r q| .cell t agg size::r,.cell t' ty::q=>t==t'&&agT P ty==some agg&&szT P ty==some size&&nJ P r q|_,_=>false
def TR(tmps:Array Value):ResultVar->Sem Value| .tmp t=>pure (tmps.getD t undef)| .cell a t=>do loadVar t (<-asAddr (tmps.getD a undef))
theorem ZE{s:Sn}{env:List (Nat×AV)}{tmps:Array Value}(hi:Inv s)(he:bM s tmps env): ∀{A:List tO} {B:List ResultVar} {vs:List AV},nJ P A B=true->(mT A).run ⟨env,s.σ⟩=some vs->
  ∃g:List Value,(B.mapM (TR tmps)).run P s.w=.ok g s.w/\vs.length=g.length/\ ∀(i:Nat) x v,vs[i]?=some x->g[i]?=some v->JA s x v
 |[],[],vs,_,h=>by simp_all [mT,RM.run]
 | .tmp t::r,.tmp t'::q,vs,hc,h=>by
  simp only[nJ,JW,beq_iff_eq]at hc;obtain⟨rfl,hc⟩:=hc;simp only[mT]at h;obtain⟨x,h1,h⟩:=bind_some h;obtain⟨l,h2,h⟩:=bind_some h;simp only[RM.run]at h;injection h with h;subst h;simp only[RM.run]at h1;split at h1;rename_i y n;injection h1 with h1;subst h1;obtain⟨v,L,D⟩:=he _ _ n;obtain⟨g,E,k,F⟩:=ZE hi he hc h2;refine⟨v::g,?_,by simp[k],λi x u K I=>?_⟩;simp_all [TR];grind;cases h1
 | .cell t agg size::r,.cell t' ty::q,vs,hc,h=>by
  simp only[nJ,JW,beq_iff_eq]at hc;obtain⟨⟨⟨rfl,M⟩,C⟩,hc⟩:=hc;simp only[mT]at h;obtain⟨x,h1,h⟩:=bind_some h;obtain⟨e,J,h⟩:=bind_some h;obtain⟨l,h2,h⟩:=bind_some h;simp only[RM.run]at h;injection h with h;subst h;simp only[RM.run]at h1;split at h1;rename_i y n;injection h1 with h1;subst h1;obtain⟨v,L,D⟩:=he _ _ n;obtain⟨g,E,k,F⟩:=ZE hi he hc h2;obtain⟨G,o,ws,S,N,H,_,O⟩:=pz hi J D;obtain⟨Q,R⟩:=r7 (P:=P) M C N H;have j: ∃u,(loadVar ty ⟨G,o,none⟩).run P s.w=.ok u s.w/\JA s e.val u:=(by grind);obtain⟨u,I,hrel⟩:=j;refine⟨u::g,?_,by simp[k],λi x z K C=>?_⟩;simp_all [TR,asAddr];grind;cases h1
 |[],_::_,_,hc,_=>by grind [nJ]
 | .tmp _::_,[],_,hc,_=>by grind [nJ]
 | .cell _ _ _::_,[],_,hc,_=>by grind [nJ]
 | .tmp _::_,.cell _ _::_,_,hc,_=>by grind [nJ]
 | .cell _ _ _::_,.tmp _::_,_,hc,_=>by grind [nJ]
theorem PU{m:Nat}{fresh:Bool}{sto:List Blk}: ∀{es:List Ent},∀b∈iX m fresh sto es,m<=b
 |[],b,h=>by grind [iX]
 | .elem _ _ _::r,b,h=>PU (es:=r) b (by simpa[iX]using h)
 | .whole c::r,b,h=>by
  simp only[iX]at h;split at h;exact PU (es:=r) b h;rename_i hc;have e:b∈c::iX m fresh sto r->m<=b:=(by intro h;rcases bX.1 h with rfl|h;omega;exact PU (es:=r) b h);grind
theorem Dp{s:Sn}{vs:List AV}{e:List Value}(hl:vs.length=e.length)(hr: ∀(i:Nat) x v,vs[i]?=some x->e[i]?=some v->JA s x v):
  JA s (one vs) (if h:e.toArray.size=1 then e.toArray[0]else .tuple e.toArray):=by
 by_cases h:e.toArray.size=1;rw[dif_pos h];cases e with
 |nil=>simp at h
 |cons u q=>
  cases vs with
  |nil=>simp at hl
  |cons x p=>
   have j:q=[]:=by simpa using h
   subst j;have g:p=[]:=by simpa using hl
   subst g;exact hr 0 x u rfl rfl
 rw[dif_neg h];have:one vs=.tup vs:=by
  match vs,hl with
  |[],_=>rfl
  |[x],hl=>simp_all
  |_::_::_,_=>rfl
 rw[this];exact .tup _ _ (by simpa using hl) λi x v n k=>hr i x v n (by simpa using k)
theorem qc{e:AFn}{fn:Func}{m:Nat}{r:Res}(hs:Sim N E st a w)(hm:E.σ.length=m)(h:gM e m st=some r)(hc:nJ P e.res fn.results.toList=true):
  a.defers=[]/\ ∃v,(results fn a.tmps).run P w=.ok v w/\ ∃g',Inv ⟨r.2,g',w⟩/\aW E ⟨r.2,g',w⟩/\JA ⟨r.2,g',w⟩ r.1 v:=by
 obtain⟨h1,h2,g,hi,K,ht⟩:=hs;refine⟨h2,?_⟩;unfold gM at h;cases hvs:(mT e.res).run st with
 |none=>simp_all
 |some vs=>
  rw[hvs]at h;dsimp only at h;obtain⟨y,R,W,H⟩:=ZE (P:=P) (s:=⟨st.sto,g,w⟩) (env:=st.env) hi K hc hvs;have n:(results fn a.tmps).run P w=.ok (if h:y.toArray.size=1 then y.toArray[0]else .tuple y.toArray) w:=by
   have:results fn a.tmps=(do
    let vs<-fn.results.mapM (TR a.tmps)
    pure (if h:vs.size=1 then vs[0]else .tuple vs)):=rfl
   simp_all [Array.mapM_eq_mapM_toList]
  refine⟨_,n,?_⟩;split at h;grind [Dp];split at h;rename_i C;have z:=PU (m:=m) (fresh:=e.fresh) (sto:=st.sto) (es:=pV st.sto (cF.entsOfL vs []) (cF.entsOfL vs []));generalize iX m e.fresh st.sto (pV st.sto (cF.entsOfL vs []) (cF.entsOfL vs []))=ids at*;split at h;rename_i ws l q B J I;split at h;rename_i q' D;injection h with h;subst h;obtain⟨Y,M⟩:=sM B;obtain⟨b1,b2⟩:=PZ J;obtain⟨U,V⟩:=q9 I;obtain⟨T,S⟩:=PZ D;have F:m<=st.sto.length:=by rw[<-hm];exact ht.len
  have hlen:l.length=m:=by simp_all
  have o:kz ⟨st.sto,g,w⟩ m ids (l++q'):=(by refine⟨hi,F,QF C,z,by simp;omega,λk x A=>?_⟩;rcases xX A with A|⟨O,A⟩;grind [sE];grind [fU]);refine⟨_,Ds o,py o ht (by omega),Dp (by omega) λi x v G L=>?_⟩;have Q:=Jn G;have j:vs[i]?=some (vs[i]'(by omega)):=JV _;exact YW o (H i _ v j L) (M i _ x j G);cases h;cases h;cases h
def kQ(P:Program)(f:FuncId)(e:AFn):Bool:=
 match P.funcs[f]? with
 |none=>false
 |some fn=>match fn.body with
  |none=>false
  |some g=>fn.name != "runtime.NumGoroutine" &&e.nt==e.np+(fn.ntmps-e.np)&&nJ P e.res fn.results.toList&&cP P e.nt e.body g
theorem ZA: ∀{args:List AV} {k n:Nat} {x:AV},lk n (iK k args)=some x->k<=n/\args[n-k]?=some x
 |[],k,n,x,h=>by grind [iK,lk]
 |y::r,k,n,x,h=>by
  simp only[iK,lk]at h;split at h;simp_all;rename_i e;obtain⟨h1,h2⟩:=ZA h;grind
end
section
variable {P:Program} {T:cW}
theorem JHu{f:FuncId}{j:AFn}{args:List AV}{blks:List Blk}{r:Res}(hc:kQ P f j=true)(K:args.length=j.np)
  (h: ∀(k:Code) (g:Gh) (w:World) (a:Act) (Q:Exit->Act->World->Prop),cP P j.nt j.body k=true->Sim j.nt ⟨blks,g,w⟩ ⟨iK 0 args,blks⟩ a w->
   (∀e s o w',(e=.normal\/e=.ret)->gM j blks.length s=some r->Sim j.nt ⟨blks,g,w⟩ s o w'->Q (qC e) o w')->k.wp P Q a w):J3W P f args blks r:=by
 unfold kQ at hc;split at hc;cases hc;rename_i fn A;split at hc;cases hc;rename_i k D;simp only[JW,beq_iff_eq,bne_iff_ne,ne_eq]at hc;obtain⟨⟨⟨F,J⟩,G⟩,z⟩:=hc;refine⟨⟨fn,A,by simp[D],by simp_all⟩,λg w vals hinv hlen hrel=>?_⟩;refine calls_of_wp A D ?_;have C:Sim j.nt ⟨blks,g,w⟩ ⟨iK 0 args,blks⟩ {tmps:=vals++Array.replicate (fn.ntmps-vals.size) undef,defers:=[]} w:=(by refine⟨by simp;omega,rfl,g,hinv,λn x y=>?_,.refl _⟩;obtain⟨_,y⟩:=ZA y;rw[pO]at y;have I:=Jn y;refine⟨vals[n]'(by omega),?_,hrel n x _ y (pN _)⟩;grind);have fin: ∀{s},gM j blks.length s=some r-> ∀o w',Sim j.nt ⟨blks,g,w⟩ s o w'->o.defers=[]/\ ∃v,(results fn o.tmps).run P w'=.ok v w'/\ ∃B g',Ending.returned v=.returned B/\
   Inv ⟨r.2,g',w'⟩/\aW ⟨blks,g,w⟩ ⟨r.2,g',w'⟩/\JA ⟨r.2,g',w'⟩ r.1 B:=by
  grind [qc]
 refine h k g w _ _ z C λe s o w' H q E=>?_;rcases H with rfl|rfl;exact fin q o w' E;exact fin q o w' E
theorem JIC{R:bW->St->Option Out}(ih: ∀c s r,R c s=some r->IA P c s r){f:FuncId}{k:oF}{args:List AV}{blks:List Blk}{r:Res}(hc:kQ P f k.af=true)(K:args.length=k.np)
  (h:BZ R k args blks=some r):J3W P f args blks r:=by
 refine JHu hc K λn g w a Q j z fin=>?_;simp only[oF.af]at j fin z;cases n<;>simp only[cP,dU]at j;rename_i S O;simp only[JW]at j;obtain⟨F,q⟩:=j;unfold BZ at h;split at h
 rename_i s0 I;split at h;rename_i s1 B;refine wp_seq ((ih _ _ _ I).get F z λa0 w0 x=>?_);split at q;rename_i cp H cx cy T;simp only[JW]at q;obtain⟨⟨⟨⟨Y,L⟩,hx⟩,hy⟩,W⟩:=q;simp only[qC,Exit.then];refine wp_seq (wp_seq ((ih _ _ _ B).get Y x λE C x=>?_));have Z: ∀{c:bW} {n:Code},cP P k.nt c n=true->wM k.af blks.length (thn (R c s1) λs=>R k.rest s)=some r->
   n.wp P (Exit.then (T.wp P Q) Q) E C:=by
  intro c n hc ht;cases hR:R c s1 with
  |none=>rw[hR]at ht;cases ht
  |some o=>
   obtain⟨e,G⟩:=o;rw[hR]at ht;refine(ih _ _ _ hR).get hc x λy w' hs'=>?_;cases e with
   |normal=>
    simp only[thn]at ht;cases hR2:R k.rest G with
    |none=>rw[hR2]at ht;cases ht
    |some U=>
     obtain⟨V,J⟩:=U;rw[hR2]at ht;simp only[qC,Exit.then];refine(ih _ _ _ hR2).get W hs' λy w' hs'=>?_;cases V with
     |normal=>exact fin .normal J y w' (.inl rfl) ht hs'
     |ret=>exact fin .ret J y w' (.inr rfl) ht hs'
     |exit id=>cases ht
   |exit id=>cases ht
   |ret=>exact fin .ret G y w' (.inr rfl) ht hs'
 have A:=x;obtain⟨_,_,g,hi,M,_⟩:=A;simp only[qC,Exit.then];split at h;rename_i b D;have hrel:=bH (s:=⟨s1.sto,g,C⟩) (env:=s1.env) M D L;generalize N:E.eval H=v at hrel;cases hrel with
 |p _ _ hrel=>cases hrel<;>grind [wp_cond]
 rename_i D;have hrel:=bH (s:=⟨s1.sto,g,C⟩) (env:=s1.env) M D L;generalize N:E.eval H=v at hrel;cases hrel with
 |unk t=>
  refine wp_cond N ?_;unfold HB at h;grind
 cases h;cases q;cases h;cases h
theorem o3{R:bW->St->Option Out}(ih: ∀c s r,R c s=some r->IA P c s r)(F: ∀f j,T f=some (.fn j)->kQ P f j=true)
  (L: ∀f g,T f=some (.prim g)-> ∀args blks r,g args blks=some r->J3W P f args blks r) (K: ∀f k,T f=some (.fork k)->kQ P f k.af=true):iV P (pX T R):=by
 intro f args blks r h;unfold pX at h;cases hTf:T f with
 |none=>simp_all
 |some en=>
  rw[hTf]at h;cases en with
  |prim g=>simp_all
  |fork k=>
   grind [JIC]
  |fn j=>
   dsimp only at h;split at h;rename_i I;have hc:=F f j hTf;unfold kQ at hc;split at hc;cases hc;rename_i fn z;split at hc;cases hc;rename_i E C;simp only[JW,beq_iff_eq,bne_iff_ne,ne_eq]at hc;obtain⟨⟨⟨D,J⟩,G⟩,o⟩:=hc;refine⟨⟨fn,z,by simp[C],by simp_all⟩,λg w vals hinv hlen hrel=>?_⟩;refine calls_of_wp z C ?_;have y:Sim j.nt ⟨blks,g,w⟩ ⟨iK 0 args,blks⟩ {tmps:=vals++Array.replicate (fn.ntmps-vals.size) undef,defers:=[]} w:=(by refine⟨by simp;omega,rfl,g,hinv,λn x q=>?_,.refl _⟩;obtain⟨_,q⟩:=ZA q;rw[pO]at q;have H:=Jn q;refine⟨vals[n]'(by omega),?_,hrel n x _ q (pN _)⟩;grind);have fin: ∀{s},gM j blks.length s=some r-> ∀e w',Sim j.nt ⟨blks,g,w⟩ s e w'->e.defers=[]/\ ∃v,(results fn e.tmps).run P w'=.ok v w'/\ ∃B g',Ending.returned v=.returned B/\
     Inv ⟨r.2,g',w'⟩/\aW ⟨blks,g,w⟩ ⟨r.2,g',w'⟩/\JA ⟨r.2,g',w'⟩ r.1 B:=by
    grind [qc]
   split at h;rename_i s hR;exact(ih _ _ _ hR).get o y λe w' A=>fin h e w' A;rename_i s hR;exact(ih _ _ _ hR).get o y λe w' A=>fin h e w' A;cases h;cases h
theorem JJJ(a3:P.follows .mixedOrders=true)(hT: ∀f af,T f=some (.fn af)->kQ P f af=true)
  (hP: ∀f g,T f=some (.prim g)-> ∀args blks r,g args blks=some r->J3W P f args blks r) (hK: ∀f k,T f=some (.fork k)->kQ P f k.af=true): ∀c s r,X T c s=some r->IA P c s r:=by
 refine Zy T _ ?_;intro R ih c s r h;have hF:iV P (pX T R):=o3 ih hT hP hK;cases c with
 |skip=>
  simp only[step]at h;injection h with h;subst h;intro N j E a w Q hc q next;cases j<;>first
   |exact wp_skip (next a w q)
   |exact wp_label (next a w q)
   |grind [cP]
 |bad=>grind [step]
 |reg d pairs ins=>
  simp only[step]at h;split at h;rename_i s' a0;injection h with h;subst h;intro N j E a w Q hc q next;cases j<;>simp only[cP,dU]at hc;simp only[JW,beq_iff_eq]at hc;obtain⟨rfl,hc⟩:=hc;exact JLv hF a3 a0 hc q next
  cases h
 |seq x y=>
  simp only[step]at h;intro N j E a w Q hc q next;cases j<;>simp only[cP,dU]at hc;simp only[JW]at hc;refine wp_seq ?_;split at h
  rename_i s' C;refine(ih _ _ _ C).get hc.1 q λz w' hs'=>?_;exact(ih _ _ _ h).get hc.2 hs' next;rename_i W;refine(ih _ _ _ h).get hc.1 q λz w' hs'=>?_;obtain⟨e,s'⟩:=r;cases e with
  |normal=>simp_all
  |exit id=>exact next z w' hs'
  |ret=>exact next z w' hs'
 |cond c x y=>
  simp only[step]at h;intro N j E a w Q hc q next;cases j<;>simp only[cP,dU]at hc;simp only[JW]at hc;obtain⟨⟨Y,C⟩,hy⟩:=hc;have hs':=q;obtain⟨_,_,g,hi,B,_⟩:=hs';split at h
  rename_i b G;have hrel:=bH (s:=⟨s.sto,g,w⟩) (env:=s.env) B G Y;generalize I:a.eval _=v at hrel;cases hrel with
  |p _ _ hrel=>
   cases hrel with
   |b=>
    refine wp_cond I ?_;cases b with
    |true=>exact(ih _ _ _ (by simpa using h)).get C q next
    |false=>exact(ih _ _ _ (by simpa using h)).get hy q next
  rename_i G;have hrel:=bH (s:=⟨s.sto,g,w⟩) (env:=s.env) B G Y;generalize I:a.eval _=v at hrel;cases hrel with
  |unk t=>
   refine wp_cond I ?_;unfold same at h;split at h;rename_i r1 r2 e1 e2;split at h;rename_i L;injection h with h;subst h;cases t with
   |true=>exact(ih _ _ _ e1).get C q next
   |false=>rw[L]at next;exact(ih _ _ _ e2).get hy q next
   cases h;cases h
  cases h
 |block id x=>
  simp only[step]at h;intro N j E a w Q hc q next;cases j<;>simp only[cP,dU]at hc;simp only[JW,beq_iff_eq]at hc;obtain⟨rfl,hc⟩:=hc;refine wp_block ?_;split at h
  rename_i k s' C;refine(ih _ _ _ C).get hc q λz w' hs'=>?_;grind [qC,Exit.inBlock];rename_i W;refine(ih _ _ _ h).get hc q λz w' hs'=>?_;obtain⟨e,s'⟩:=r;cases e with
  |normal=>exact next z w' hs'
  |exit id=>simp_all
  |ret=>exact next z w' hs'
 |loop live x=>
  simp only[step]at h;intro N j E a w Q hc q next;cases j<;>simp only[cP,dU]at hc;split at h
  rename_i s' A;obtain⟨k,hk⟩:=ih _ _ _ h;have H:E.σ.length<=s.sto.length:=by obtain⟨_,_,g,_,_,ht⟩:=q;exact ht.len
  obtain⟨hs',hl⟩:=OU q A H (zQ0 _);exact wp_loop_rounds k (hk N _ E a w Q hc H (by omega) hs' next);cases h
 |lp n live x=>
  simp only[step]at h;split at h
  ·rename_i s' C;split at h
   ·rename_i au A;obtain⟨k,hk⟩:=ih _ _ _ h;refine⟨k+1,λN j E a w Q hc H hn q next=>?_⟩;rw[rounds_succ];obtain⟨h1,h2,g,hi,B,ht⟩:=q;have D:Sim N ⟨s.sto,g,w⟩ s a w:=⟨h1,h2,g,hi,B,.refl _⟩;refine(ih _ _ _ C).get hc D λz w' hs'=>?_;obtain⟨S,M,g',J,K,F⟩:=hs';have hlen:s.sto.length<=s'.sto.length:=F.len;have a8:Sim N E s' z w':=⟨S,M,g',J,K,ht.trans F⟩;obtain⟨a9,hl⟩:=OU a8 A H (by omega);exact hk N j E z w' Q hc H (by omega) a9 next
   cases h
  ·rename_i W;refine⟨1,λN j E a w Q hc H hn q next=>?_⟩;rw[rounds_succ];refine(ih _ _ _ h).get hc q λz w' hs'=>?_;obtain⟨e,s'⟩:=r;cases e with|normal=>simp_all|exit id=>exact next z w' hs'|ret=>exact next z w' hs'
 |scope x=>simp only[step]at h;intro N j E a w Q hc q next;cases j<;>simp only[cP,dU]at hc;refine wp_scope_straight ((ih _ _ _ h).get hc q λz w' hs'=>?_);have:=next z w' hs';obtain⟨e,s'⟩:=r;cases e<;>exact this
 |exit id=>
  simp only[step]at h;injection h with h;subst h;intro N j E a w Q hc q next;cases j<;>simp only[cP,dU]at hc;simp only[beq_iff_eq]at hc;subst hc;exact wp_exit (next a w q)
 |ret=>
  simp only[step]at h;injection h with h;subst h;intro N j E a w Q hc q next;cases j<;>simp only[cP,dU]at hc;exact wp_ret (next a w q)
 |keep live x=>simp only[step]at h;intro N j E a w Q hc q next;exact(ih _ _ _ h).get (by grind [cP]) (q.restr live) next
 |tidy live x=>
  simp only[step,lW]at h;intro N j E a w Q hc q next;split at h;rename_i e U L;split at h;rename_i s3 A;injection h with h;subst h;obtain⟨h1,h2,g,hi,B,ht⟩:=q;have D:Sim N ⟨s.sto,g,w⟩ s a w:=⟨h1,h2,g,hi,B,.refl _⟩;refine(ih _ _ _ L).get (by grind [cP]) D λz w' hs'=>next z w' ?_;obtain⟨S,M,g',J,K,F⟩:=hs';exact(OU (st:=U) (st':=s3) ⟨S,M,g',J,K,ht.trans F⟩ A ht.len F.len).1;cases h;cases h
 |br live pre o x y rest=>
  simp only[step]at h;intro N j E a w Q hc q next;unfold cP at hc;split at hc;rename_i cp cq cx cy cz;simp only[JW]at hc;obtain⟨⟨⟨⟨hp,ho⟩,C⟩,hy⟩,hz⟩:=hc;split at h;rename_i s1 a5;refine wp_seq (wp_seq ((ih _ _ _ a5).get hp q λV O Z=>?_));have ac: ∀{c:bW} {j:Code} {r':Out},cP P N c j=true->thn (R c s1) (λs=>R rest s)=some r'->
    ∀{E:Sn} {a:Act} {w:World} {Q:Exit->Act->World->Prop},Sim N E s1 a w->(∀z w',Sim N E r'.2 z w'->Q (qC r'.1) z w')->j.wp P (Exit.then (cz.wp P Q) Q) a w:=by
   intro c j r' hc ht E a w Q q next;cases hR:R c s1 with
   |none=>rw[hR]at ht;cases ht
   |some o=>
    obtain⟨e,U⟩:=o;rw[hR]at ht;refine(ih _ _ _ hR).get hc q λz w' hs'=>?_;cases e with
    |normal=>exact(ih _ _ _ ht).get hz hs' next
    |exit id=>injection ht with ht;subst ht;exact next z w' hs'
    |ret=>injection ht with ht;subst ht;exact next z w' hs'
  have ag: ∀{c:bW} {j:Code},cP P N c j=true->lW s1.sto.length live (thn (R c s1) λs=>R rest s)=some r->j.wp P (Exit.then (cz.wp P Q) Q) V O:=(by intro c j hc ht;unfold lW at ht;split at ht;rename_i e U L;split at ht;rename_i s3 A;injection ht with ht;subst ht;obtain⟨h1,h2,g,hi,B,ht⟩:=Z;have D:Sim N ⟨s1.sto,g,O⟩ s1 V O:=⟨h1,h2,g,hi,B,.refl _⟩;refine ac hc L D λz w' hs'=>next z w' ?_;obtain⟨S,M,g',J,K,F⟩:=hs';exact(OU (st:=U) (st':=s3) ⟨S,M,g',J,K,ht.trans F⟩ A ht.len F.len).1;cases ht;cases ht);have a2:=Z;obtain⟨_,_,g,hi,B,_⟩:=a2;simp only[qC,Exit.then];split at h;rename_i b G;have hrel:=bH (s:=⟨s1.sto,g,O⟩) (env:=s1.env) B G ho;generalize I:V.eval cq=v at hrel;cases hrel with
  |p _ _ hrel=>cases hrel<;>grind [wp_cond]
  rename_i G;have hrel:=bH (s:=⟨s1.sto,g,O⟩) (env:=s1.env) B G ho;generalize I:V.eval cq=v at hrel;cases hrel with
  |unk t=>
   refine wp_cond I ?_;unfold same at h;grind
  cases h;cases h;cases hc
theorem Bv(e:P.follows .mixedOrders=true)(j: ∀f o,T f=some (.fn o)->kQ P f o=true)
  (h: ∀f g,T f=some (.prim g)-> ∀args blks r,g args blks=some r->J3W P f args blks r) (n: ∀f k,T f=some (.fork k)->kQ P f k.af=true):iV P (AF T):=
 o3 (JJJ e j h n) j h n
end
end Go.Am
end
section
namespace Go.Am
@[congr] theorem JNG{o e:Option Out}{k:St->Option Out}(h:o=e):thn o k=thn e k:=by rw[h]
@[congr] theorem JMS{α β:Type}{o e:RM α}{f:α->RM β}(h:o=e):o.bind f=e.bind f:=by rw[h]
@[congr] theorem JMT{α β:Type}{o e:Option α}{f:α->Option β}(h:o=e):o.bind f=e.bind f:=by rw[h]
@[simp] theorem IZ(s k):thn (some (.normal,s)) k=k s:=rfl
@[simp] theorem JHT(i s k):thn (some (.exit i,s)) k=some (.exit i,s):=rfl
@[simp] theorem JJH(s k):thn (some (.ret,s)) k=some (.ret,s):=rfl
@[simp] theorem JGP(k):thn none k=none:=rfl
def FH(o:Option Out)(k:St->Option Out):Option Out:=
 match o with
 |some (.normal,s)=>k s
 |_=>none
@[congr] theorem JMX{o e:Option Out}{k:St->Option Out}(h:o=e):FH o k=FH e k:=by rw[h]
@[simp] theorem JAC(s k):FH (some (.normal,s)) k=k s:=rfl
def blo(id:Nat)(o:Option Out):Option Out:=
 match o with
 |some (.exit k,s)=>if k=id then some (.normal,s)else some (.exit k,s)
 |o=>o
@[simp] theorem JEo(id s):blo id (some (.normal,s))=some (.normal,s):=rfl
@[simp] theorem nz(id i s):blo id (some (.exit i,s))=if i=id then some (.normal,s)else some (.exit i,s):=rfl
@[simp] theorem JKC(id s):blo id (some (.ret,s))=some (.ret,s):=rfl
@[simp] theorem JHw(id):blo id none=none:=rfl
def nrm(o:Option St):Option Out:=match o with|some s=>some (.normal,s)|none=>none
@[simp] theorem JIX(s):nrm (some s)=some (.normal,s):=rfl
@[simp] theorem JIc:nrm none=none:=rfl
def evv(x:Opd)(env:List (Nat×AV)):Option AV:=match x with| .t n=>lk n env| .c v=>some v
@[simp] theorem JOe(n env):evv (.t n) env=lk n env:=rfl
@[simp] theorem JOf(v env):evv (.c v) env=some v:=rfl
theorem NH(x:Opd)(s:St):(ev x).run s=evv x s.env:=by cases x<;>grind [ev,RM.run,evv]
section
variable (T:cW)
@[simp ↓] theorem JO9(s):X T .skip s=some (.normal,s):=by rw[lK];rfl
@[simp ↓] theorem B1(a b s):X T (.seq a b) s=thn (X T a s) λs=>X T b s:=by
 rw[lK];simp only[step];cases X T a s with
 |none=>rfl
 |some o=>obtain⟨e,s'⟩:=o;cases e<;>rfl
theorem Bt(d ps ins s):X T (.reg d ps ins) s=nrm (region (AF T) ps ins s):=by rw[lK];simp only[step];show(match region (AF T) ps ins s with|some s'=>some (AX.normal,s')|none=>none)=_;cases region (AF T) ps ins s<;>rfl
@[simp ↓] theorem JOb(d ins env sto):X T (.reg d [] ins) ⟨env,sto⟩=nrm (fR (AF T) ins sto.length ⟨env,room (news ins) sto⟩):=by rw[Bt];rfl
def cnd(x:Option AV)(a b:Option Out)(c:Unit->Option Out):Option Out:=
 match x with
 |some (.p (.b x))=>if x=true then a else b
 |some .unk=>c ()
 |_=>none
@[congr] theorem JNE{x e:Option AV}{a b:Option Out}{c:Unit->Option Out}(h:x=e):cnd x a b c=cnd e a b c:=by rw[h]
@[simp] theorem Bs(x a b c):cnd (some (.p (.b x))) a b c=if x=true then a else b:=rfl
@[simp] theorem JKH(a b c):cnd (some .unk) a b c=c ():=rfl
@[simp ↓] theorem JKT(x a b s):X T (.cond x a b) s=cnd (evv x s.env) (X T a s) (X T b s) λ_=>same (X T a s) (X T b s):=by
 rw[lK];simp only[step,NH];cases evv x s.env with
 |none=>rfl
 |some v=>
  cases v with
  |p c=>cases c<;>rfl
  |_=>rfl
@[simp ↓] theorem JJw(id c s):X T (.block id c) s=blo id (X T c s):=by
 rw[lK];simp only[step];cases X T c s with
 |none=>rfl
 |some o=>obtain⟨e,s'⟩:=o;cases e<;>rfl
@[simp ↓] theorem JJQ(c s):X T (.scope c) s=X T c s:=by rw[lK];rfl
@[simp ↓] theorem JO8(id s):X T (.exit id) s=some (.exit id,s):=by rw[lK];rfl
@[simp ↓] theorem Ze(s):X T .ret s=some (.ret,s):=by rw[lK];rfl
@[simp ↓] theorem B3(live c s):X T (.keep live c) s=X T c ⟨restr live s.env,s.sto⟩:=by rw[lK];rfl
@[simp ↓] theorem JOh(live pre x a b rest s):X T (.br live pre x a b rest) s=FH (X T pre s) λs1=>
  cnd (evv x s1.env) (thn (X T a s1) λs=>X T rest s) (thn (X T b s1) λs=>X T rest s) λ_=>
   same (lW s1.sto.length live (thn (X T a s1) λs=>X T rest s)) (lW s1.sto.length live (thn (X T b s1) λs=>X T rest s)):=by
 rw[lK];simp only[step,NH];cases X T pre s with
 |none=>rfl
 |some o=>
  obtain⟨e,s1⟩:=o;cases e with
  |normal=>
   dsimp only[FH];cases evv x s1.env with
   |none=>rfl
   |some v=>
    cases v with
    |p c=>cases c<;>rfl
    |_=>rfl
  |exit=>rfl
  |ret=>rfl
@[simp ↓] theorem JLU(live c env sto):X T (.loop live c) ⟨env,sto⟩=X T (.lp sto.length live c) ⟨restr live env,sto⟩:=by
 grind [lK,step,clean]
theorem ke(n live c s):X T (.lp n live c) s=thn (X T c s) λs=>match clean n live s with
  |some s=>X T (.lp n live c) s
  |none=>none:=by
 rw[lK];simp only[step];cases X T c s with
 |none=>rfl
 |some o=>obtain⟨e,s'⟩:=o;cases e<;>rfl
def EX(res:List tO)(fresh:Bool)(m:Nat)(o:Option Out):Option Res:=
 match o with
 |some (.normal,s)=>gM ⟨0,0,.skip,res,fresh⟩ m s
 |some (.ret,s)=>gM ⟨0,0,.skip,res,fresh⟩ m s
 |_=>none
@[congr] theorem JNm{res:List tO}{fresh:Bool}{m:Nat}{o e:Option Out}(h:o=e):EX res fresh m o=EX res fresh m e:=by rw[h]
@[simp] theorem JAL(res fresh m s):EX res fresh m (some (.normal,s))=gM ⟨0,0,.skip,res,fresh⟩ m s:=rfl
@[simp] theorem JID(res fresh m s):EX res fresh m (some (.ret,s))=gM ⟨0,0,.skip,res,fresh⟩ m s:=rfl
@[simp] theorem JNa(o:Option Res):HB o o=o:=by unfold HB;cases o<;>simp
theorem Y3{f:FuncId}{fn:AFn}(h:T f=some (.fn fn))(args blks):AF T f args blks=if args.length=fn.np then
  EX fn.res fn.fresh blks.length (X T fn.body ⟨iK 0 args,blks⟩)
 else none:=by
 unfold AF pX;rw[h];rfl
end
variable {F:Orc} {env:List (Nat×AV)} {sto:List Blk} {new:Nat} {r:List bR} {d:Nat}
@[simp] theorem JD1(s):fR F [] new s=some s:=rfl
theorem JAH(i s):fR F (i::r) new s=((bT F i new).run s).bind λe=>fR F r (new+kP i.op) (put i.dst e s):=by
 grind [fR]
@[simp] theorem JNN:news []=0:=rfl
@[simp ↓] theorem JNF(i):news (i::r)=kP i.op+news r:=rfl
@[simp] theorem JOc:room 0 sto=sto:=rfl
@[simp] theorem JNC(n):room (n+1) sto=sto++List.replicate (n+1) .dead:=rfl
@[simp] theorem JOd(n):lk n []=none:=rfl
@[simp] theorem JK7(n m v)(r:List (Nat×AV)):lk n ((m,v)::r)=if n=m then some v else lk n r:=rfl
attribute [simp ↓] JAH bT opD rS kP run_bind NH opR
attribute [simp] put val evs evo jZ nL
 mU wF wL unP iN FC fz fz.fzL fz.fz1 fzs yF fX hC sub spl qB MT GA HC HK lX ME mS lZ jS uQ uO eY kN iH mmP cellsOf unp oS jR
 mT one iK fY HX lY
@[simp] theorem JNH(o:Option Out):same o o=o:=by unfold same;cases o<;>simp
@[simp ↓] theorem JX{α:Type}(a:α)(s:St):(RM.ret a).run s=some a:=rfl
@[simp ↓] theorem JO2{α:Type}(s:St):(RM.fail:RM α).run s=none:=rfl
@[simp ↓] theorem vB{α:Type}(n:Nat)(k:AV->RM α)(s:St):(RM.slot n k).run s=(lk n s.env).bind λv=>(k v).run s:=by grind [RM.run]
@[simp ↓] theorem cS{α:Type}(n:Nat)(k:Blk->RM α)(s:St):(RM.blk n k).run s=(s.sto[n]?).bind λv=>(k v).run s:=by grind [RM.run]
@[simp] theorem JJq:upd [] sto=sto:=rfl
@[simp] theorem JHO(b x ws):upd ((b,x)::ws) sto=upd ws (sto.set b x):=rfl
@[simp] theorem JND:restr [] env=[]:=rfl
@[simp] theorem JEv(k l):restr (k::l) env=match lk k env with
 |some v=>(k,v)::restr l env
 |none=>restr l env:=rfl
end Go.Am
namespace Go.Am
def oP:AV->Bool| .p _| .data _| .cp _ _| .unk=>true|_=>false
@[simp] theorem JNO(c):oP (.p c)=true:=rfl
@[simp] theorem JMU(c):oP (.data c)=true:=rfl
@[simp] theorem JNB(c o):oP (.cp c o)=true:=rfl
theorem rz: ∀{args:List AV} {l:List Ent},args.all oP=true->cF.entsOfL args l=l|[],l,_=>rfl|x::r,l,h=>by simp only[List.all_cons,JW]at h;obtain⟨h1,h2⟩:=h;simp only[cF.entsOfL];cases x<;>simp[oP]at h1<;>simp only[cF]<;>exact rz h2
theorem px{ρ:Ent->Option Nat}: ∀{args:List AV},args.all oP=true->ren.renL ρ args=some args|[],_=>rfl|x::r,h=>by simp only[List.all_cons,JW]at h;have:=px (ρ:=ρ) h.2;have h1:=h.1;clear h;cases x<;>simp[oP]at h1<;>simp[ren.renL,ren,this]
theorem JHV{es:List Ent}{new:Nat}{x:AV}(h:oP x=true):bk es new x=some x:=by cases x<;>simp[oP]at h<;>rfl
theorem ff{es:List Ent}{new:Nat}: ∀{xs:List AV},xs.all oP=true->bk.bkL es new xs=some xs|[],_=>rfl|x::r,h=>by simp only[List.all_cons,JW]at h;simp[bk.bkL,JHV h.1,ff h.2]
@[simp] theorem JOg(es new c):bk es new (.p c)=some (.p c):=rfl
@[simp] theorem JO7(es new c):bk es new (.data c)=some (.data c):=rfl
@[simp] theorem JOa(es new l):bk es new (.tup l)=(bk.bkL es new l).map .tup:=by grind [bk]
@[simp] theorem JO6(es new):bk.bkL es new []=some []:=rfl
@[simp] theorem JNT(es new x l):bk.bkL es new (x::l)=(bk es new x).bind λy=>(bk.bkL es new l).map λl=>y::l:=by simp only[bk.bkL];cases bk es new x<;>simp;cases bk.bkL es new l<;>rfl
@[simp] theorem JMV(n live):lW n live none=none:=rfl
@[simp] theorem JA5(n live e s):lW n live (some (e,s))=(clean n live s).map λs=>(e,s):=by
 grind [lW]
attribute [simp ↓] JQ Option.bind_none IZ JHT JJH JGP JAC JIX JIc Bs JKH JEo nz JKC JHw JAL JID JD1 JK7 JEv JJq JHO
attribute [simp] clean tN pU fK fin fin.finL gM iX pV cF cF.entsOfL uP iT uB eE unp
end Go.Am
end
section
namespace Go.Am
inductive Fr where|sq (b:bW)|bl (id:Nat)|td (n:Nat) (live:List Nat)|lo (n:Nat) (live:List Nat) (c:bW)
noncomputable def again(T:cW)(n:Nat)(live:List Nat)(c:bW)(o:Option St):Option Out:=match o with|some s=>X T (.lp n live c) s|none=>none
section
variable (T:cW) (f:AFn) (m:Nat) (k:List Fr)
theorem JLm(live c s):X T (.tidy live c) s=lW s.sto.length live (X T c s):=by rw[lK];rfl
end
open Classical in
noncomputable def J4{σ ρ:Type}(f:σ->Option (σ⊕ρ))(s:σ):Option ρ:=
 let e:Nat->σ->Option ρ:=λn=>n.rec (λ_=>none) λ_ ih s=>match f s with|some (.inl s')=>ih s'|some (.inr r)=>some r|none=>none
 if h: ∃n r,e n s=some r then e (Classical.choose h) s else none
def cJ{σ ρ:Type}(f:σ->Option (σ⊕ρ)):Nat->σ->Option ρ|0,_=>none|n+1,s=>match f s with|some (.inl s')=>cJ f n s'|some (.inr r)=>some r|none=>none
section
variable {σ ρ:Type} {f:σ->Option (σ⊕ρ)}
theorem ZL(n:Nat): ∀s:σ,(Nat.rec (motive:=λ_=>σ->Option ρ) (λ_=>none) (λ_ ih s=>match f s with
  |some (.inl s')=>ih s'
  |some (.inr r)=>some r
  |none=>none) n) s=cJ f n s:=by
 induction n with
 |zero=>intro s;rfl
 |succ n ih=>grind [cJ]
theorem ee: ∀{n:Nat} {s:σ} {r:ρ} (m:Nat),cJ f n s=some r->cJ f (n+m) s=some r
 |0,_,_,_,h=>by cases h
 |n+1,s,r,m,h=>by
  rw[show n+1+m=(n+m)+1 by omega];simp only[cJ]at h⊢;split at h;exact ee m h
  all_goals simp_all
theorem JH9{n m:Nat}{s:σ}{r r':ρ}(h:cJ f n s=some r)(e:cJ f m s=some r'):r=r':=by
 have a:=ee m h;have b:=ee n e;grind
theorem gQ{s:σ}{r:ρ}:J4 f s=some r↔ ∃n,cJ f n s=some r:=by
 unfold J4;dsimp only;constructor;intro h;split at h;exact⟨_,by rw[<-ZL];exact h⟩;cases h;rintro⟨n,h⟩;have e: ∃n r,(Nat.rec (motive:=λ_=>σ->Option ρ) (λ_=>none) (λ_ ih s=>match f s with
  |some (.inl s')=>ih s'
  |some (.inr r)=>some r
  |none=>none) n) s=some r:=⟨n,r,by grind [ZL]⟩
 rw[dif_pos e];obtain⟨r',g⟩:=Classical.choose_spec e;rw[g];rw[ZL]at g;grind [JH9]
theorem eO{s:σ}{r:ρ}(h:f s=some (.inr r)):J4 f s=some r:=gQ.2 ⟨1,by grind [cJ]⟩
theorem hM{s s':σ}(h:f s=some (.inl s')):J4 f s=J4 f s':=by
 have g: ∀r,J4 f s=some r↔J4 f s'=some r:=by
  intro r;rw[gQ,gQ];constructor;rintro⟨n,e⟩;cases n<;>grind [cJ]
  rintro⟨n,e⟩;exact⟨n+1,by grind [cJ]⟩
 cases hs:J4 f s with
 |some r=>grind
 |none=>cases hs':J4 f s'<;>grind
theorem JDQ{s:σ}(h:f s=none):J4 f s=none:=by
 cases hs:J4 f s with
 |none=>rfl
 |some r=>obtain⟨n,e⟩:=gQ.1 hs;cases n<;>simp_all [cJ]
theorem eu{P:σ->ρ->Prop}(h1: ∀s r,f s=some (.inr r)->P s r)(h2: ∀s s' r,f s=some (.inl s')->P s' r->P s r){s:σ}{r:ρ}(h:J4 f s=some r):P s r:=by
 obtain⟨n,e⟩:=gQ.1 h;clear h
 induction n generalizing s with
 |zero=>cases e
 |succ n ih=>
  grind [cJ]
end
end Go.Am
end
section
namespace Go.Am
section
variable {α:Type}
def idx(l:List α)(n:Int):Option α:=if 0<=n then l[n.toNat]? else none
def aR(k:Nat)(n:Int):Option Unit:=if 0<=n/\n<k then some ()else none
def JC(bytes:Nat)(l e:List α):Option (List α):=if kN (l.length+e.length) bytes=true then some (l++e)else none
def cA(bytes:Nat)(l:List α):Option (List α):=if kN l.length bytes=true then some l else none
def ER(n:Int)(len:Nat):Option Nat:=if 0<=n/\n.toNat<=len then some n.toNat else none
def FB(n:Int)(len:Nat):Option Nat:=if 0<=n/\n.toNat<len then some n.toNat else none
def FM(bytes:Nat)(l:List α)(n:Nat)(e:List α):Option (List α):=if 0<l.length/\kN (l.length+e.length) bytes=true then some (l.take n++e)else none
def mkS(bytes:Nat)(n m:Int)(z:α):Option (List α):=if 0<=n/\n<=m/\bytes*m<=281474976710656/\m<=281474976710656 then some (List.replicate n.toNat z)else none
def BA(x:Option Int)(top e:Nat):Option Nat:=match x with|none=>some e|some n=>if 0<=n/\n<=top then some n.toNat else none
def xG(n:Nat)(lo hi:Option Int):Option (Nat×Nat):=match BA hi n n with|none=>none|some h=>match BA lo h 0 with|none=>none|some l=>some (l,h)
def bC(l:List α)(lo hi:Option Int):Option (List α):=match xG l.length lo hi with|some c=>some ((l.drop c.1).take (c.2-c.1))|none=>none
def Bb(k:IntKind)(x y:Int):Option Int:=if y=0 then none else some (k.wrap (x.tdiv y))
def tU(x y:Int):Option Int:=if y=0 then none else some (x.tmod y)
def wH(k:IntKind)(x y:Int):Option Int:=if y<0 then none else some (k.wrap (x*2^(min y.toNat k.bits)))
def kL(k:IntKind)(x y:Int):Option Int:=if y<0 then none else some (x.fdiv (2^(min y.toNat k.bits)))
def pR(k:IntKind)(x y:Int):Int:=k.wrap (BitVec.ofInt k.bits x&&&BitVec.ofInt k.bits y).toNat
def orI(k:IntKind)(x y:Int):Int:=k.wrap (BitVec.ofInt k.bits x|||BitVec.ofInt k.bits y).toNat
def fC(k:IntKind)(x y:Int):Int:=k.wrap (BitVec.ofInt k.bits x^^^BitVec.ofInt k.bits y).toNat
def UC(k:IntKind)(n:Int):Int:=k.wrap (BitVec.ofInt k.bits (if k.signed then -1 else k.max)^^^BitVec.ofInt k.bits n).toNat
def eJ(a b:List UInt8):Option (List UInt8):=if a.length+b.length<=4611686018427387904 then some (a++b)else none
def rH(l:List UInt8)(n:Int):Option Int:=if 0<=n then(match l[n.toNat]? with|some u=>some (u.toNat:Int)|none=>none)else none
def jh{k:Nat}(v:Vector α k)(n:Int):Option α:=if 0<=n/\n<k then v[n.toNat]? else none
def toStr(l:List Int):List UInt8:=l.map λn=>UInt8.ofNat n.toNat
def aQ(l:List UInt8):List Int:=l.map λu=>(u.toNat:Int)
def lR(x y:Int):Int:=if y<x then y else x
def eA(x y:Int):Int:=if y>x then y else x
end
@[reducible] def cat(a b:List PV):List PV:=a++b
def r_i(k:IntKind)(n:Int):List PV:=[.i k n]
def r_b(x:Bool):List PV:=[.b x]
def r_s(l:List UInt8):List PV:=[.s l]
def Zr{α:Type}(esz:Nat)(r:α->List PV)(l:List α):List PV:=[.sl esz (l.map r)]
def oI{α:Type}{n:Nat}(r:α->List PV)(v:Vector α n):List PV:=(v.toList.map r).flatten
section
variable {α:Type}
theorem yA(cs:List α)(off size:Nat):sub cs off size=if off+size<=cs.length then some ((cs.drop off).take size)else none:=by
 grind [sub]
theorem CU(cs:List α)(off:Nat)(vs:List α):spl cs off vs=if off+vs.length<=cs.length then some (cs.take off++vs++cs.drop (off+vs.length))else none:=by simp_all
theorem YN{cs:List α}{n:Nat}(h:cs.length=n):sub cs 0 n=some cs:=by simp_all
theorem E6{cs vs:List α}(h:cs.length=vs.length):spl cs 0 vs=some vs:=by simp_all
theorem JGE{a b c:List α}{off size:Nat}(h1:a.length=off)(h2:b.length=size):sub (a++(b++c)) off size=some b:=by
 grind [yA]
theorem JEP{b c:List α}{size:Nat}(h2:b.length=size):sub (b++c) 0 size=some b:=JGE (a:=[]) rfl h2
theorem JFy{a b c v:List α}{off:Nat}(h1:a.length=off)(h2:b.length=v.length):spl (a++(b++c)) off v=some (a++(v++c)):=by
 grind [CU]
theorem JF2{b c v:List α}(h2:b.length=v.length):spl (b++c) 0 v=some (v++c):=JFy (a:=[]) rfl h2
theorem Er{cs e r:List α}{a m k n:Nat}(h1:sub cs a m=some e)(h2:sub e k n=some r):sub cs (a+k) n=some r:=by
 grind [yA,List.drop_take,List.drop_drop]
theorem Du{cs g e v cs':List α}{a m k:Nat}(h1:sub cs a m=some g)(h2:spl g k v=some e)(h3:spl cs a e=some cs'):spl cs (a+k) v=some cs':=by
 rw[yA]at h1;rw[CU]at h2 h3⊢;split at h1;rename_i o;injection h1 with h1;subst h1;split at h2;rename_i j;injection h2 with h2;subst h2;simp at j;split at h3;injection h3 with h3;subst h3;rw[if_pos (by omega)]
 congr 1
 simp only[dZ,iJ,nU,List.take_take,List.drop_take,BI,nV];have h:cs.take (a+k)=cs.take a++(cs.drop a).take k:=List.take_add ..;rw[h,nV];rw[show min k m=k by omega]
 congr 3
 have n:cs.drop (a+k+v.length)=(cs.drop (a+(k+v.length))).take (m-(k+v.length))++cs.drop (a+m):=(by have:=mZ (m-(k+v.length)) (cs.drop (a+(k+v.length)));rw[BI]at this;rw[show a+(k+v.length)+(m-(k+v.length))=a+m by omega]at this;grind);rw[n]
 congr 2
 omega;cases h3;cases h2;cases h1
theorem CY{β:Type}(g:α->β)(cs:List α)(off size:Nat):sub (cs.map g) off size=(sub cs off size).map (List.map g):=by
 grind [yA,List.map_drop,List.map_take]
theorem CX{β:Type}(g:α->β)(cs:List α)(off:Nat)(vs:List α):spl (cs.map g) off (vs.map g)=(spl cs off vs).map (List.map g):=by
 grind [CU,List.map_drop,List.map_take]
theorem HT{n k w:Nat}{r:α->List PV}(hr: ∀x,(r x).length=w){v:Vector α n}{x:α}(h:v[k]?=some x):sub (oI r v) (k*w) w=some (r x):=by
 have g: ∀(l:List α) (k:Nat) (x:α),l[k]?=some x->sub ((l.map r).flatten) (k*w) w=some (r x):=by
  intro l
  induction l with
  |nil=>simp_all
  |cons y l ih=>
   intro k x h;cases k with
   |zero=>
    grind [JEP]
   |succ k=>
    simp at h;have:=ih k x h;rw[bP,pS];rw[yA]at this⊢;split at this;injection this with this;have e:(k+1)*w=w+k*w:=by grind
    rw[e,if_pos (by grind)];have j:w+k*w=(r y).length+k*w:=by rw[hr]
    rw[j,List.drop_length_add_append,this];cases this
 exact g _ _ _ (by simp_all)
theorem Cp{n k w:Nat}{r:α->List PV}(hr: ∀x,(r x).length=w){v:Vector α n}(h:k<n)(y:α):spl (oI r v) (k*w) (r y)=some (oI r (v.setIfInBounds k y)):=by
 have g: ∀(l:List α) (k:Nat),k<l.length->spl ((l.map r).flatten) (k*w) (r y)=some (((l.set k y).map r).flatten):=by
  intro l
  induction l with
  |nil=>simp_all
  |cons z l ih=>
   intro k h;cases k with
   |zero=>
    grind [JF2]
   |succ k=>
    simp at h;have:=ih k h;rw[bP,pS];rw[CU]at this⊢;split at this;rename_i j;injection this with this;have e:(k+1)*w=(r z).length+k*w:=by grind
    rw[e,if_pos (by grind)];simp only[List.set_cons_succ,bP,pS];rw[<-this];rw[show(r z).length+k*w+(r y).length=(r z).length+(k*w+(r y).length) by omega];simp[List.take_length_add_append];cases this
 grind [oI]
theorem JM2{n w:Nat}{r:α->List PV}(hr: ∀x,(r x).length=w)(v:Vector α n):(oI r v).length=n*w:=by
 have e: ∀l:List α,((l.map r).flatten).length=l.length*w:=by
  intro l
  induction l with
  |nil=>simp
  |cons x l ih=>grind
 grind [oI]
end
theorem IQ: ∀l:List PV,unp (l.map AV.p)=some l|[]=>rfl|x::l=>by simp[unp,IQ l]
theorem sj(l:List PV):jZ true (l.map AV.p)=some (.data l):=by simp[IQ]
theorem VR: ∀l:List PV,(l.map AV.p).all oP=true|[]=>rfl|x::l=>by simp
theorem pm(m:Nat)(ids:List Nat)(sto:List Blk): ∀l:List PV,fin.finL m ids sto (l.map AV.p)=some (l.map AV.p)|[]=>rfl|x::l=>by simp[fin.finL,fin,pm m ids sto l]
theorem qo(l:List PV)(acc:List Ent):cF.entsOfL (l.map AV.p) acc=acc:=rz (VR l)
theorem JFu{α:Type}{r:α->List PV}{l:List α}{n:Int}{x:α}(h:idx l n=some x):ME (l.map r) n=some (r x):=by simp_all [idx]
theorem D7{k:Nat}{n:Int}{u:Unit}(h:aR k n=some u):0<=n/\n<k:=by
 grind [aR]
theorem JGR{α:Type}{k:Nat}{v:Vector α k}{n:Int}{x:α}(h:jh v n=some x):(0<=n/\n<k)/\v[n.toNat]?=some x:=by
 grind [jh]
theorem JKg{α:Type}{r:α->List PV}{esz bytes b:Nat}{w:Bool}{l e g:List α}{y:AV}{s:St}(h:JC bytes l g=some e)(hb:s.sto[b]?=some (.arr w esz (l.map r)))(hy:(eY esz y).run s=some (g.map r)):
  (iH esz bytes (.slr b 0 l.length) y).run s=some ⟨.slr b 0 e.length,[(b,.arr w esz (e.map r))]⟩:=by
 grind [JC,iH,cS,run_bind,JX]
theorem fr: ∀l:List Int,sI (l.map (r_i .u8))=some (toStr l)|[]=>rfl|x::l=>by simp[sI,r_i,fr l,toStr]
theorem ZS(l:List UInt8):l.map lY=(aQ l).map (r_i .u8):=by simp[aQ,r_i]
theorem JGN{α:Type}{bytes:Nat}{l e:List α}(h:cA bytes l=some e):kN l.length bytes=true/\e=l:=by
 grind [cA]
theorem JKv{α:Type}{bytes:Nat}{n m:Int}{z:α}{l:List α}(h:mkS bytes n m z=some l):(0<=n/\n<=m/\bytes*m<=281474976710656/\m<=281474976710656)/\l=List.replicate n.toNat z:=by
 grind [mkS]
end Go.Am
end
section
set_option linter.unusedSimpArgs false
set_option linter.unusedVariables false
namespace Go.Am
open Go.RowKit
theorem m9{σ:List Blk}{g:Gh}{w w':World}(hi:Inv ⟨σ,g,w⟩)(hb:Below w.heap.size w w'):
  Inv ⟨σ,g,w'⟩/\aW ⟨σ,g,w⟩ ⟨σ,g,w'⟩:=by
 have j: ∀(r:Nat) x,w.heap[r]?=some x->w'.heap[r]?=some x:=λr x h=>by rw[hb.block r (vK h)];exact h
 have hc: ∀r o v,cellAt w r o=some v->cellAt w' r o=some v:=(by grind [cellAt]);have t:aW ⟨σ,g,w⟩ ⟨σ,g,w'⟩:=by
  refine⟨⟨hb.size,λr c e fz h=>⟨c,j r _ h,rfl,λ_ _=>rfl⟩,λr x h _=>j r x h,hb.os,hb.output⟩,λ_ _ h=>h,λ_ _ h=>.inl h,λr o ⟨b,hb⟩=>.inl ⟨b,hb⟩,zQ0 _,λ_ cs h=>⟨⟨cs,h,rfl⟩,rfl⟩,
   λ_ wm _ rows h=>⟨wm,rows,h,id,zQ0 _,λ_=>rfl⟩⟩
 exact⟨lU hi t (λ_=>False) (λ_ _=>⟨rfl,rfl⟩) (λ_ r o v _ _ h=>hc r o v h) (λ_ _ h=>h.elim) (λ_ _ _ _ h=>h.elim)
  (λ_ _ _ _ h=>h.elim) (λr o h=>Nat.lt_of_lt_of_le (hi.const r o h).1 hb.size) (λ_ _ _ _ h=>h.elim) (λ_ _ _ h k=>(k h).elim),t⟩
def Jcu:PV->Option Value| .b x=>some (.bool x)| .i k n=>some (.int k n)| .s l=>some (.string ⟨l.toArray⟩)|_=>none
theorem JgO{x:PV}{v:Value}(h:Jcu x=some v)(w:World)(C:Nat->Nat->Prop):J05 w C x v:=by
 cases x<;>simp only[Jcu,Option.some.injEq,reduceCtorEq]at h<;>subst h
 exact .b _;exact .i _ _;exact .s _
theorem ZB{x:PV}{v e:Value}{w:World}{C:Nat->Nat->Prop}(h:J05 w C x v)(hv:Jcu x=some e):v=e:=by cases x<;>simp only[Jcu,Option.some.injEq,reduceCtorEq]at hv<;>subst hv<;>cases h<;>rfl
theorem JCG{P:Program}{f:FuncId}{xs:List PV}{vs:List Value}{r:PV}{v:Value}{blks:List Blk}
  (hf: ∃fn,P.funcs[f]?=some fn∧fn.body.isSome=true∧(fn.name== "runtime.NumGoroutine")=false)
  (hx:xs.mapM Jcu=some vs) (hr:Jcu r=some v)
  (hc: ∀w,Calls P f vs.toArray w λe w'=>e=.returned v/\Below w.heap.size w w'):
  J3W P f (xs.map .p) blks (.p r,blks):=by
 refine⟨hf,λg w vals hi B D=>?_⟩;have h:vals=vs.toArray:=by
  have k: ∀(xs:List PV) (vs vl:List Value),xs.mapM Jcu=some vs->xs.length=vl.length->
    (∀(i:Nat) x v,(xs.map AV.p)[i]?=some x->vl[i]?=some v->JA ⟨blks,g,w⟩ x v)->vl=vs:=by
   intro xs
   induction xs with
   |nil=>grind
   |cons x r ih=>
    intro vs vl h1 h2 o;simp only[List.mapM_cons,Option.pure_def,Option.bind_eq_bind]at h1;obtain⟨v0,n,h1⟩:=bF.1 h1;obtain⟨y,j,h1⟩:=bF.1 h1;simp only[Option.some.injEq]at h1;subst h1;cases vl with
    |nil=>simp at h2
    |cons u q=>
     have:=o 0 (.p x) u rfl rfl;cases this with
     |p _ _ A=>rw[ZB A n,ih y q j (by simpa using h2) (λi x v hx C=>o (i+1) x v hx C)]
  apply EQ;rw[k xs vs vals.toList hx (by simpa using B) (λi x v h1 h2=>D i x v h1 (by simpa using h2))]
 subst h;refine(hc w).mono ?_;rintro e w' ⟨rfl,z⟩;obtain⟨hi',t⟩:=m9 hi z;exact⟨v,g,rfl,hi',t,.p _ _ (JgO hr _ _)⟩
theorem NW{T:cW}{f:FuncId}{g:List AV->List Blk->Option Res}(h:T f=some (.prim g))(args blks):AF T f args blks=g args blks:=by simp_all [AF,pX]
def An(a:Option AFn)(k:Option oF)(g q:Option (List AV->List Blk->Option Res)):Option Entry:=
 match a with
 |some a=>some (.fn a)
 |none=>match k with|some k=>some (.fork k)|none=>match g with|some g=>some (.prim g)|none=>q.map .prim
theorem DD{a:Option AFn}{k:Option oF}{g q:Option (List AV->List Blk->Option Res)}{e:Entry}(h:An a k g q=some e):
  (∃x,a=some x/\e=.fn x)\/(∃x,k=some x/\e=.fork x)\/(∃x,g=some x/\e=.prim x)\/(∃x,q=some x/\e=.prim x):=by
 cases a with
 |some a=>exact .inl ⟨a,rfl,by injection h with h;exact h.symm⟩
 |none=>
  cases k with
  |some k=>exact .inr (.inl ⟨k,rfl,by injection h with h;exact h.symm⟩)
  |none=>
   cases g with
   |some g=>exact .inr (.inr (.inl ⟨g,rfl,by injection h with h;exact h.symm⟩))
   |none=>
    cases q with
    |some q=>exact .inr (.inr (.inr ⟨q,rfl,by injection h with h;exact h.symm⟩))
    |none=>cases h
def JaP(n:Int)(i:Nat):Int:=IntKind.wrap .u8 ((IntKind.wrap .u64 n).fdiv (2^(8*i)))
def J9e(n:Int)(k:Nat):List UInt8:=toStr ((List.range k).map (JaP n))
def Jld(l:List UInt8)(n size:Int):Option (List UInt8):=if size<1\/8<size then some l else if l.length+8<=140737488355328 then some (l++J9e n size.toNat)else none
def JDf:List AV->List Blk->Option Res|[.p (.s l),.p (.i .i64 n),.p (.i .i64 k)],blks=>(Jld l n k).map λr=>(.p (.s r),blks)|_,_=>none
theorem JKu(x:Int):0<=IntKind.wrap .u8 x/\IntKind.wrap .u8 x<256:=by have h:IntKind.wrap .u8 x=x%256:=rfl;rw[h];omega
theorem JEK(n:Int)(i:Nat):((UInt8.ofNat (JaP n i).toNat).toNat:Int)=JaP n i:=by
 have h:0<=JaP n i/\JaP n i<256:=JKu _;grind [UInt8.toNat_ofNat_of_lt']
theorem JGn(n:Int)(k:Nat):J9e n (k+1)=J9e n k++[UInt8.ofNat (JaP n k).toNat]:=by simp[J9e,toStr,List.range_succ]
theorem JkV(n:Int)(k:Nat):(J9e n k).length=k:=by simp[J9e,toStr]
theorem Y6(x y:Bool):J1t [.b] [.b x] [.b y]=some (decide (x=y)):=by
 grind [J1t,Jhb]
theorem Za(k:IntKind)(x y:Int):J1t [.i k] [.i k x] [.i k y]=some (decide (x=y)):=by
 grind [J1t,Jhb]
theorem Zc(x y:List UInt8):J1t [.s] [.s x] [.s y]=some (decide (x=y)):=by
 grind [J1t,Jhb]
theorem Eo{p q:Prop} [Decidable p] [Decidable q]: ∀{e g:List KD} {a1 a2 b1 b2:List PV},J1t e a1 b1=some (decide p)->J1t g a2 b2=some (decide q)->J1t (e++g) (cat a1 a2) (cat b1 b2)=some (decide (p/\q)):=by
 have h: ∀(e g:List KD) (a1 a2 b1 b2:List PV) (r s:Bool),J1t e a1 b1=some r->J1t g a2 b2=some s->J1t (e++g) (a1++a2) (b1++b2)=some (r&&s):=by
  intro e
  induction e with
  |nil=>
   grind [J1t]
  |cons k ks ih=>
   intro g a1 a2 b1 b2 r s h1 h2;cases a1 with
   |nil=>grind [J1t]
   |cons a a1=>
    cases b1 with
    |nil=>grind [J1t]
    |cons b b1=>
     simp only[J1t]at h1;split at h1;rename_i u c j hc;injection h1 with h1;subst h1;simp only[lQ,J1t,j,ih _ _ _ _ _ _ _ hc h2,Bool.and_assoc];cases h1
 intro e g a1 a2 b1 b2 h1 h2;rw[h _ _ _ _ _ _ _ _ h1 h2,Bool.decide_and]
theorem JMe{α:Type} [DecidableEq α]{n:Nat}{ks:List KD}{r:α->List PV}(h: ∀x y,J1t ks (r x) (r y)=some (decide (x=y)))(v w:Vector α n):
  J1t (List.replicate n ks).flatten (oI r v) (oI r w)=some (decide (v=w)):=by
 have g: ∀(l e:List α),l.length=e.length->J1t (List.replicate l.length ks).flatten (l.map r).flatten (e.map r).flatten=some (decide (l=e)):=by
  intro l
  induction l with
  |nil=>grind [J1t]
  |cons a l ih=>
   intro e h1;cases e with
   |nil=>simp at h1
   |cons b e=>
    have h2:=Eo (h a b) (ih e (by simpa using h1));grind [decide]
 have j:=g v.toList w.toList (by simp);rw[show v.toList.length=n by simp]at j;rw[show decide (v=w)=decide (v.toList=w.toList) by simp[Vector.toList_inj]];exact j
end Go.Am
end
section
namespace Go.Am
def J1(k:IntKind)(a c:Int):Int:=k.wrap (a+c)
def Js(k:IntKind)(a c:Int):Int:=k.wrap (a-c)
def cM(k:IntKind)(a c:Int):Int:=k.wrap (a*c)
def Y1(k:IntKind)(n:Int):Int:=k.wrap (0-n)
def aY(k:IntKind)(n:Int):Int:=k.wrap n
def aJ(a c:Int):Bool:=decide (a=c)
def aM(a c:Int):Bool:= !decide (a=c)
def aK(a c:Int):Bool:=decide (a<c)
def aV(a c:Int):Bool:=decide (a<=c)
def aN(a c:Int):Bool:=decide (a>c)
def aP(a c:Int):Bool:=decide (a>=c)
def eqS(a c:List UInt8):Bool:=decide (a=c)
def neS(a c:List UInt8):Bool:= !decide (a=c)
def ltS(a c:List UInt8):Bool:=Op.bytesLess a c
def leS(a c:List UInt8):Bool:=Op.bytesLess a c||decide (a=c)
def gtS(a c:List UInt8):Bool:= !(Op.bytesLess a c||decide (a=c))
def geS(a c:List UInt8):Bool:= !Op.bytesLess a c
def eqB(a c:Bool):Bool:=decide (a=c)
def Jk(x:Bool):Bool:= !x
def J0{α:Type}(l:List α):Int:=l.length
def Z3{α:Type}(c:Bool)(x y:α):α:=if c=true then x else y
def aZ{α:Type}(l:List α)(i:Nat):Option α:=l[i]?
def aS{α:Type}(l:List α)(i:Nat)(x:α):List α:=l.set i x
def vat{α:Type}{n:Nat}(l:Vector α n)(i:Nat):Option α:=l[i]?
def bG{α:Type}{n:Nat}(l:Vector α n)(i:Nat)(x:α):Vector α n:=l.setIfInBounds i x
inductive Ty where
 |b
 |i (k:IntKind)
 |s
 |l (t:Ty)
 |pr (a c:Ty)
 |ar (n:Nat) (t:Ty)
 |u
 |f
 deriving DecidableEq
@[reducible] def Ty.D:Ty->Type
 | .b=>Bool
 | .i _=>Int
 | .s=>List UInt8
 | .l t=>List t.D
 | .pr a c=>a.D×c.D
 | .ar n t=>Vector t.D n
 | .u=>Unit
 | .f=>Unit
def Ty.sz:Ty->Nat| .b=>1| .i _=>1| .s=>1| .l _=>1| .pr a c=>a.sz+c.sz| .ar n t=>n*t.sz| .u=>0| .f=>1
def cel:(t:Ty)->t.D->List PV| .b,x=>[.b x]| .i k,x=>[.i k x]| .s,x=>[.s x]| .l t,x=>[.sl t.sz (x.map (cel t))]| .pr a c,x=>cel a x.1++cel c x.2| .ar _ t,x=>oI (cel t) x| .u,_=>[]| .f,_=>[.nf]
theorem dV: ∀(t:Ty) (x:t.D),(cel t x).length=t.sz| .b,_=>rfl| .i _,_=>rfl| .s,_=>rfl| .l _,_=>rfl| .pr a c,x=>by simp only[cel,dZ,dV a,dV c,Ty.sz]| .ar n t,x=>by simp only[cel,Ty.sz];exact JM2 (dV t) x| .u,_=>rfl| .f,_=>rfl
def Ty.eqd:(t:Ty)->DecidableEq t.D| .b=>inferInstanceAs (DecidableEq Bool)| .i _=>inferInstanceAs (DecidableEq Int)| .s=>inferInstanceAs (DecidableEq (List UInt8))| .l t=>have:=t.eqd;inferInstanceAs (DecidableEq (List t.D))| .pr a c=>have:=a.eqd;have:=c.eqd;inferInstanceAs (DecidableEq (a.D×c.D))| .ar n t=>have:=t.eqd;inferInstanceAs (DecidableEq (Vector t.D n))| .u=>inferInstanceAs (DecidableEq Unit)| .f=>inferInstanceAs (DecidableEq Unit)
def eqT(t:Ty)(x y:t.D):Bool:=have:=t.eqd;decide (x=y)
theorem J0F{t:Ty}{x y:t.D}:eqT t x y=true↔x=y:=by simp[eqT]
def Ty.zero:(t:Ty)->t.D| .b=>false| .i _=>(0:Int)| .s=>[]| .l _=>[]| .pr a c=>(a.zero,c.zero)| .ar n t=>Vector.replicate n t.zero| .u=>()| .f=>()
def Ty.ks:Ty->Option (List KD)
 | .b=>some [.b]
 | .i k=>some [.i k]
 | .s=>some [.s]
 | .l _=>none
 | .pr a c=>match a.ks,c.ks with|some x,some y=>some (x++y)|_,_=>none
 | .ar n t=>match t.ks with|some x=>some (List.replicate n x).flatten|none=>none
 | .u=>some []
 | .f=>none
theorem NV: ∀(t:Ty) {ks:List KD} (x y:t.D),t.ks=some ks->J1t ks (cel t x) (cel t y)=some (eqT t x y)
 | .b,ks,x,y,h=>by injection h with h;subst h;exact Y6 x y
 | .i k,ks,x,y,h=>by injection h with h;subst h;exact Za k x y
 | .s,ks,x,y,h=>by injection h with h;subst h;exact Zc x y
 | .l _,_,_,_,h=>by cases h
 | .pr a c,ks,x,y,h=>by
  simp only[Ty.ks]at h;split at h;rename_i p q e g;injection h with h;subst h;have h1:=NV a x.1 y.1 e;have h2:=NV c x.2 y.2 g;unfold eqT at h1 h2;have j:(have:=a.eqd;decide (x.1=y.1))= @decide _ (a.eqd x.1 y.1):=rfl;have:= @Eo _ _ (a.eqd x.1 y.1) (c.eqd x.2 y.2) _ _ _ _ _ _ h1 h2;simp only[cel];refine this.trans (congrArg some ?_);grind [eqT];cases h
 | .ar n t,ks,x,y,h=>by
  simp only[Ty.ks]at h;split at h;rename_i p e;injection h with h;subst h;have:= @JMe t.D t.eqd n p (cel t) (λx y=>by have:=NV t x y e;exact this) x y;grind [cel,eqT];cases h
 | .u,ks,x,y,h=>by injection h with h;subst h;rfl
 | .f,_,_,_,h=>by cases h
inductive Sp where
 |f (off:Nat)
 |a (i esz:Nat)
 deriving DecidableEq
def spo:List Sp->Nat|[]=>0| .f o::r=>o+spo r| .a i e::r=>i*e+spo r
def spf:Nat->List Sp->Nat×List Sp|o,.f k::r=>spf (o+k) r|o,r=>(o,r)
theorem LV: ∀(o:Nat) (p:List Sp),(spf o p).1+spo (spf o p).2=o+spo p|o,[]=>rfl|o,.f k::r=>by simp only[spf,LV,spo];omega|o,.a i e::r=>rfl
section
variable {R:Type}
def prt:(t:Ty)->t.D->(off:Nat)->List Sp->(w:Ty)->(w.D->Option R)->Option R
 |t,x,off,p,w,k=>
  if h:t=w/\off=0/\p=[]then k (h.1▸x)
  else match t,x with
   | .pr a c,x=>if off+(if p=[]then w.sz else 1)<=a.sz then prt a x.1 off p w k
    else if a.sz<=off then prt c x.2 (off-a.sz) p w k
    else none
   | .ar _ t,x=>if p=[]then(vat x (off/t.sz)).bind λy=>prt t y (off%t.sz) p w k
    else match off,p with|0,.a i e::r=>if e=t.sz then(vat x i).bind λy=>prt t y (spf 0 r).1 (spf 0 r).2 w k else none|_,_=>none
   |_,_=>none
def pst:(t:Ty)->t.D->(off:Nat)->List Sp->(w:Ty)->w.D->(t.D->Option R)->Option R
 |t,x,off,p,w,v,k=>
  if h:t=w/\off=0/\p=[]then k (h.1.symm▸v)
  else match t,x,k with
   | .pr a c,x,k=>if off+(if p=[]then w.sz else 1)<=a.sz then pst a x.1 off p w v λy=>k (y,x.2)
    else if a.sz<=off then pst c x.2 (off-a.sz) p w v λy=>k (x.1,y)
    else none
   | .ar _ t,x,k=>if p=[]then(vat x (off/t.sz)).bind λy=>pst t y (off%t.sz) p w v λy=>k (bG x (off/t.sz) y)
    else match off,p with|0,.a i e::r=>if e=t.sz then(vat x i).bind λy=>pst t y (spf 0 r).1 (spf 0 r).2 w v λy=>k (bG x i y)else none|_,_=>none
   |_,_,_=>none
end
theorem JI3{α:Type}{a b v:List α}{off n:Nat}(h:sub a off n=some v):sub (a++b) off n=some v:=by
 grind [yA]
theorem JGw{α:Type}{a b v:List α}{off n:Nat}(h0:a.length<=off)(h:sub b (off-a.length) n=some v):sub (a++b) off n=some v:=by
 grind [yA,List.drop_append,List.drop_of_length_le]
theorem JIU{α:Type}{a b v e:List α}{off:Nat}(h:spl a off v=some e):spl (a++b) off v=some (e++b):=by
 grind [CU]
theorem JFI{α:Type}{a b v e:List α}{off:Nat}(h0:a.length<=off)(h:spl b (off-a.length) v=some e):spl (a++b) off v=some (a++e):=by
 rw[CU]at h⊢;split at h;injection h with h;rw[if_pos (by simp;omega),<-h,List.take_append,List.take_of_length_le h0,List.drop_append,List.drop_of_length_le (by omega)];simp;omega;cases h
theorem D5{α:Type}{n i:Nat}{x:Vector α n}{y:α}(h:x[i]?=some y):i<n:=by
 grind
theorem uT{R:Type}{t w:Ty}{x:t.D}{off:Nat}{p:List Sp}{k:w.D->Option R}{r:R}(h0:t=w/\off=0/\p=[])(h:k (h0.1▸x)=some r):
  ∃y,sub (cel t x) (off+spo p) w.sz=some (cel w y)/\k y=some r:=by
 obtain⟨rfl,rfl,rfl⟩:=h0;grind [spo,YN,dV]
theorem uU{R:Type}{t w:Ty}{x:t.D}{off:Nat}{p:List Sp}{v:w.D}{k:t.D->Option R}{r:R}(h0:t=w/\off=0/\p=[])(h:k (h0.1.symm▸v)=some r):
  ∃y,spl (cel t x) (off+spo p) (cel w v)=some (cel t y)/\k y=some r:=by
 obtain⟨rfl,rfl,rfl⟩:=h0;grind [spo,E6,dV]
theorem uS{R:Type}: ∀{t:Ty} {x:t.D} {off:Nat} {p:List Sp} {w:Ty} {k:w.D->Option R} {r:R},prt t x off p w k=some r->
  ∃y,sub (cel t x) (off+spo p) w.sz=some (cel w y)/\k y=some r
 | .pr a c,x,off,p,w,k,r,h=>by
  unfold prt at h;by_cases g:Ty.pr a c=w/\off=0/\p=[];rw[dif_pos g]at h;exact uT g h;rw[dif_neg g]at h;dsimp only at h;by_cases h1:off+(if p=[]then w.sz else 1)<=a.sz;rw[if_pos h1]at h;obtain⟨y,v,o⟩:=uS h;exact⟨y,JI3 v,o⟩;rw[if_neg h1]at h;by_cases h2:a.sz<=off;rw[if_pos h2]at h;obtain⟨y,v,o⟩:=uS h;refine⟨y,JGw (by grind [dV]) ?_,o⟩;grind [dV];simp_all
 | .ar n t,x,off,p,w,k,r,h=>by
  unfold prt at h;by_cases g:Ty.ar n t=w/\off=0/\p=[];rw[dif_pos g]at h;exact uT g h;rw[dif_neg g]at h;dsimp only at h;by_cases A:p=[];rw[if_pos A]at h;obtain⟨z,j,h⟩:=bF.1 h;obtain⟨y,h1,h2⟩:=uS h;refine⟨y,?_,h2⟩;have:=Er (HT (dV t) j) h1;grind [cel,Nat.div_add_mod];rw[if_neg A]at h;split at h;rename_i _ i e q _;split at h;rename_i B;obtain⟨z,j,h⟩:=bF.1 h;obtain⟨y,h1,h2⟩:=uS h;refine⟨y,?_,h2⟩;have:=Er (HT (dV t) j) h1;grind [cel,LV,spo];cases h;cases h
 | .b,x,off,p,w,k,r,h=>by
  unfold prt at h;split at h
  next g=>exact uT g h
  next=>cases h
 | .i _,x,off,p,w,k,r,h=>by
  unfold prt at h;split at h
  next g=>exact uT g h
  next=>cases h
 | .s,x,off,p,w,k,r,h=>by
  unfold prt at h;split at h
  next g=>exact uT g h
  next=>cases h
 | .l _,x,off,p,w,k,r,h=>by
  unfold prt at h;split at h
  next g=>exact uT g h
  next=>cases h
 | .u,x,off,p,w,k,r,h=>by
  unfold prt at h;split at h
  next g=>exact uT g h
  next=>cases h
 | .f,x,off,p,w,k,r,h=>by
  unfold prt at h;split at h
  next g=>exact uT g h
  next=>cases h
theorem yB{R:Type}: ∀{t:Ty} {x:t.D} {off:Nat} {p:List Sp} {w:Ty} {v:w.D} {k:t.D->Option R} {r:R},pst t x off p w v k=some r->
  ∃y,spl (cel t x) (off+spo p) (cel w v)=some (cel t y)/\k y=some r
 | .pr a c,x,off,p,w,v,k,r,h=>by
  unfold pst at h;by_cases g:Ty.pr a c=w/\off=0/\p=[];rw[dif_pos g]at h;exact uU g h;rw[dif_neg g]at h;dsimp only at h;by_cases h1:off+(if p=[]then w.sz else 1)<=a.sz;rw[if_pos h1]at h;obtain⟨y,B,A⟩:=yB h;exact⟨(y,x.2),JIU B,A⟩;rw[if_neg h1]at h;by_cases h2:a.sz<=off;rw[if_pos h2]at h;obtain⟨y,B,A⟩:=yB h;refine⟨(x.1,y),JFI (by grind [dV]) ?_,A⟩;grind [dV];simp_all
 | .ar n t,x,off,p,w,v,k,r,h=>by
  unfold pst at h;by_cases g:Ty.ar n t=w/\off=0/\p=[];rw[dif_pos g]at h;exact uU g h;rw[dif_neg g]at h;dsimp only at h;by_cases o:p=[];rw[if_pos o]at h;obtain⟨z,j,h⟩:=bF.1 h;obtain⟨y,h1,h2⟩:=yB h;refine⟨_,?_,h2⟩;have:=Du (HT (dV t) j) h1 (Cp (dV t) (D5 j) y);subst o;simp only[spo,pP]at this⊢;rw[wZ,Nat.div_add_mod]at this;exact this;rw[if_neg o]at h;split at h;rename_i _ i e q _;split at h;rename_i C;obtain⟨z,j,h⟩:=bF.1 h;obtain⟨y,h1,h2⟩:=yB h;refine⟨_,?_,h2⟩;have:=Du (HT (dV t) j) h1 (Cp (dV t) (D5 j) y);have E:=LV 0 q;simp only[spo,C];rw[show i*t.sz+((spf 0 q).1+spo (spf 0 q).2)=0+(i*t.sz+spo q) by omega]at this;exact this;cases h;cases h
 | .b,x,off,p,w,v,k,r,h=>by
  unfold pst at h;split at h
  next g=>exact uU g h
  next=>cases h
 | .i _,x,off,p,w,v,k,r,h=>by
  unfold pst at h;split at h
  next g=>exact uU g h
  next=>cases h
 | .s,x,off,p,w,v,k,r,h=>by
  unfold pst at h;split at h
  next g=>exact uU g h
  next=>cases h
 | .l _,x,off,p,w,v,k,r,h=>by
  unfold pst at h;split at h
  next g=>exact uU g h
  next=>cases h
 | .u,x,off,p,w,v,k,r,h=>by
  unfold pst at h;split at h
  next g=>exact uU g h
  next=>cases h
 | .f,x,off,p,w,v,k,r,h=>by
  unfold pst at h;split at h
  next g=>exact uU g h
  next=>cases h
end Go.Am
end
section
namespace Go.Am
inductive TC where|d (t:Ty) (x:t.D)|sc (t:Ty) (rows:List t.D)|np|nf|un|ptr (b:Nat) (p:List Sp)|cp (t:Ty) (x:t.D) (p:List Sp)|slr (b:Nat)|slo (b n:Nat)|ep (b i:Nat) (p:List Sp)|epo (b e i:Nat) (p:List Sp)|pre (b k:Nat)|pro (b n k:Nat)|suf (b i:Nat)|suo (b i n:Nat)|fn (f:FuncId)
inductive TA where|c (x:TC)|dt (t:Ty) (x:t.D)|m (t:Ty) (cs:List TC)|fn (f:FuncId) (first caps:List TC)
inductive TV where|a (x:TA)|tup (vs:List TA)
inductive TB where|dead|box (t:Ty) (x:t.D)|mbox (t:Ty) (cs:List TC)|arr (w:Bool) (t:Ty) (rows:List t.D)
structure TSt where
 env:List (Nat×TV)
 sto:List TB
def hdP:List PV->PV|[c]=>c|_=>.np
def lnB:TB->Nat| .arr _ _ rows=>rows.length|_=>0
def lnO:Option TB->Nat|some x=>lnB x|none=>0
def lns(sto:List TB)(b:Nat):Nat:=lnO sto[b]?
section
variable (L:Nat->Nat)
def aX:TC->AV| .d t x=>.p (hdP (cel t x))| .sc t rows=>.p (.slc t.sz (rows.map (cel t)))| .np=>.p .np| .nf=>.p .nf| .un=>.unk| .ptr b p=>.ptr b (spo p)| .cp t x p=>.cp (cel t x) (spo p)| .slr b=>.slr b 0 (L b)| .slo b n=>.slr b 0 n| .ep b i p=>.ep b (L b) i (spo p)| .epo b e i p=>.ep b e i (spo p)| .pre b k=>.pre b (L b) k| .pro b n k=>.pre b n k| .suf b i=>.slr b (min i (L b)) (L b-i)| .suo b i n=>.slr b i n| .fn f=>.fn f [] []
def bN:TA->AV| .c x=>aX L x| .dt t x=>.data (cel t x)| .m _ cs=>.agg (cs.map (aX L))| .fn f a c=>.fn f (a.map (aX L)) (c.map (aX L))
def JR:TV->AV| .a x=>bN L x| .tup vs=>.tup (vs.map (bN L))
def aT:TB->Blk| .dead=>.dead| .box t x=>.box ((cel t x).map .p)| .mbox _ cs=>.box (cs.map (aX L))| .arr w t rows=>.arr w t.sz (rows.map (cel t))
end
def fF(L:Nat->Nat)(env:List (Nat×TV)):List (Nat×AV):=env.map λx=>(x.1,JR L x.2)
def Jw(s:TSt):St:=⟨fF (lns s.sto) s.env,s.sto.map (aT (lns s.sto))⟩
section
variable (L:Nat->Nat)
theorem CF(t x):aT L (.box t x)=.box ((cel t x).map .p):=rfl
theorem IC(t cs):aT L (.mbox t cs)=.box (cs.map (aX L)):=rfl
theorem NC(w t rows):aT L (.arr w t rows)=.arr w t.sz (rows.map (cel t)):=rfl
theorem jP(b p):JR L (.a (.c (.ptr b p)))=.ptr b (spo p):=rfl
theorem lN(t x p):JR L (.a (.c (.cp t x p)))=.cp (cel t x) (spo p):=rfl
theorem fN(b):JR L (.a (.c (.slr b)))=.slr b 0 (L b):=rfl
theorem lI(b i p):JR L (.a (.c (.ep b i p)))=.ep b (L b) i (spo p):=rfl
theorem e_i(k x):JR L (.a (.c (.d (.i k) x)))=.p (.i k x):=rfl
theorem e_b(x):JR L (.a (.c (.d .b x)))=.p (.b x):=rfl
theorem e_s(x):JR L (.a (.c (.d .s x)))=.p (.s x):=rfl
theorem e_l(t x):JR L (.a (.c (.d (.l t) x)))=.p (.sl t.sz (x.map (cel t))):=rfl
theorem Bf(f):JR L (.a (.c (.fn f)))=.fn f [] []:=rfl
theorem jm(t x):JR L (.a (.dt t x))=.data (cel t x):=rfl
theorem Al(f a c):JR L (.a (.fn f a c))=.fn f (a.map (aX L)) (c.map (aX L)):=rfl
theorem e_m(t cs):JR L (.a (.m t cs))=.agg (cs.map (aX L)):=rfl
end
theorem FR{t:Ty}(h:t.sz=1)(x:t.D):cel t x=[hdP (cel t x)]:=by
 have:=dV t x;rw[h]at this
 match hc:cel t x,this with
 |[c],_=>rfl
def kC(b n:Nat):TC->TC| .slr c=>if c=b then .slo b n else .slr c| .ep c i p=>if c=b then .epo b n i p else .ep c i p| .pre c k=>if c=b then .pro b n k else .pre c k| .suf c i=>if c=b then .suo b (min i n) (n-i)else .suf c i|x=>x
def kA(b n:Nat):TA->TA| .c x=>.c (kC b n x)| .dt t x=>.dt t x| .m t cs=>.m t (cs.map (kC b n))| .fn f a c=>.fn f (a.map (kC b n)) (c.map (kC b n))
def kV(b n:Nat):TV->TV| .a x=>.a (kA b n x)| .tup vs=>.tup (vs.map (kA b n))
def kB(b n:Nat):TB->TB| .mbox t cs=>.mbox t (cs.map (kC b n))|x=>x
def wS(b:Nat)(x:TB)(s:TSt):TSt:=⟨s.env,s.sto.set b x⟩
def wN(b:Nat)(x:TB)(s:TSt):TSt:=⟨s.env.map λy=>(y.1,kV b (lns s.sto b) y.2),(s.sto.map (kB b (lns s.sto b))).set b x⟩
def bA(d:Option Nat)(v:TV)(s:TSt):TSt:=
 match d with
 |some d=>⟨(d,v)::s.env,s.sto⟩
 |none=>s
section
variable {L L':Nat->Nat} {b:Nat}
theorem k_C(h: ∀c,c≠b->L' c=L c)(x:TC):aX L' (kC b (L b) x)=aX L x:=by cases x<;>grind [kC,aX]
theorem Av(h: ∀c,c≠b->L' c=L c)(xs:List TC):(xs.map (kC b (L b))).map (aX L')=xs.map (aX L):=by simp_all [k_C]
theorem k_A(h: ∀c,c≠b->L' c=L c)(x:TA):bN L' (kA b (L b) x)=bN L x:=by cases x<;>simp only[kA,bN,k_C h,Av h]
theorem k_V(h: ∀c,c≠b->L' c=L c)(x:TV):JR L' (kV b (L b) x)=JR L x:=by cases x<;>simp only[kV,JR,k_A h,xF,Function.comp_def]
theorem k_B(h: ∀c,c≠b->L' c=L c)(x:TB):aT L' (kB b (L b) x)=aT L x:=by cases x<;>simp only[kB,aT,Av h]
theorem JMy(b n:Nat)(x:TB):lnB (kB b n x)=lnB x:=by cases x<;>rfl
theorem JLl(sto:List TB)(b n c:Nat):lns (sto.map (kB b n)) c=lns sto c:=by
 unfold lns;rw[fB];cases sto[c]? with
 |none=>rfl
 |some x=>exact JMy b n x
theorem D9(sto:List TB)(b:Nat)(x:TB)(c:Nat)(h:c≠b):lns (sto.set b x) c=lns sto c:=by
 grind [lns]
theorem XG{sto:List TB}{b:Nat}(h:b<sto.length)(x:TB):lns (sto.set b x) b=lnB x:=by unfold lns;rw[AW h];rfl
theorem Bx(b:Nat)(x:TB)(s:TSt):Jw (wN b x s)=⟨(Jw s).env,(Jw s).sto.set b (aT (lns (wN b x s).sto) x)⟩:=by
 have h: ∀c,c≠b->lns (wN b x s).sto c=lns s.sto c:=λc hc=>by
  grind [wN,D9,JLl]
 unfold Jw
 congr 1
 show fF _ (s.env.map λy=>(y.1,kV b (lns s.sto b) y.2))=fF _ s.env;simp_all [fF,k_V];show((s.sto.map (kB b (lns s.sto b))).set b x).map _=_;grind [List.map_set,List.map_congr_left,k_B]
theorem CN{b:Nat}{x:TB}{s:TSt}(h:lnB x=lns s.sto b):lns (wS b x s).sto=lns s.sto:=by
 grind [wS,XG,List.set_eq_of_length_le,D9]
theorem xO{b:Nat}{x:TB}{s:TSt}(h:lnB x=lns s.sto b):Jw (wS b x s)=⟨(Jw s).env,(Jw s).sto.set b (aT (lns s.sto) x)⟩:=by
 grind [Jw,CN,wS,List.map_set]
theorem qD{s s1:TSt}{ws:List (Nat×Blk)}(h:Jw s1=⟨(Jw s).env,upd ws (Jw s).sto⟩)(d:Option Nat)(v:TV):put d ⟨JR (lns s1.sto) v,ws⟩ (Jw s)=Jw (bA d v s1):=by cases d<;>simp_all [bA,Jw,fF]
end
theorem II{s:TSt}(d:Option Nat)(v:TV):put d ⟨JR (lns s.sto) v,[]⟩ (Jw s)=Jw (bA d v s):=qD rfl d v
def tlk(n:Nat):List (Nat×TV)->Option TV|[]=>none|(m,v)::r=>if n=m then some v else tlk n r
theorem xU(L:Nat->Nat)(n:Nat): ∀env:List (Nat×TV),lk n (fF L env)=(tlk n env).map (JR L)
 |[]=>rfl
 |(m,v)::r=>by
  simp only[fF,bP,lk,tlk];split;rfl;exact xU L n r
theorem dH(s:TSt)(b:Nat):(Jw s).sto[b]?=(s.sto[b]?).map (aT (lns s.sto)):=by simp[Jw]
theorem iY{sto:List TB}{b:Nat}{w:Bool}{t:Ty}{rows:List t.D}(h:sto[b]?=some (.arr w t rows)):lns sto b=rows.length:=by unfold lns;rw[h];rfl
inductive TO where|t (n:Nat)|c (x:TV)
def erO:TO->Opd| .t n=>.t n| .c x=>.c (JR (λ_=>0) x)
def Bp:TC->Bool| .d _ _| .sc _ _| .np| .nf| .un| .fn _=>true|_=>false
def LX:TA->Bool| .c x=>Bp x| .dt _ _=>true| .m _ _=>false| .fn _ a c=>a.isEmpty&&c.isEmpty
def BQ:TV->Bool| .a x=>LX x| .tup vs=>vs.isEmpty
theorem JI5{L L':Nat->Nat}{v:TV}(h:BQ v=true):JR L v=JR L' v:=by
 cases v with
 |a x=>
  cases x with
  |c x=>cases x<;>first|rfl|grind [BQ,LX,Bp]
  |dt t x=>rfl
  |m t cs=>grind [BQ,LX]
  |fn f a c=>simp[BQ,LX]at h;obtain⟨rfl,rfl⟩:=h;rfl
 |tup vs=>simp[BQ]at h;subst h;rfl
def tev:TO->TSt->Option TV| .t n,s=>tlk n s.env| .c x,_=>if BQ x=true then some x else none
theorem bQ{x:TO}{s:TSt}{v:TV}(h:tev x s=some v):(ev (erO x)).run (Jw s)=some (JR (lns s.sto) v):=by
 cases x with
 |t n=>simp only[erO,ev,vB];show(lk n (fF (lns s.sto) s.env)).bind _=_;rw[xU,show tlk n s.env=some v from h];rfl
 |c x=>
  grind [tev,erO,ev,JX,JI5]
end Go.Am
end
section
namespace Go.Am
@[reducible] def vi(k:IntKind)(n:Int):TV:=.a (.c (.d (.i k) n))
@[reducible] def vb(x:Bool):TV:=.a (.c (.d .b x))
@[reducible] def vs(l:List UInt8):TV:=.a (.c (.d .s l))
@[reducible] def vl(t:Ty)(l:List t.D):TV:=.a (.c (.d (.l t) l))
def uv:TV:=.tup []
def mkv(agg:Bool)(t:Ty)(x:t.D):TV:=if agg=true then .a (.dt t x)else .a (.c (.d t x))
def Ok{R:Type}(m:RM Eff)(d:Option Nat)(s:TSt)(k:TSt->Option R)(r:R):Prop:= ∃e s',m.run (Jw s)=some e/\put d e (Jw s)=Jw s'/\k s'=some r
def asm:(t:Ty)->List TC->Option t.D
 | .pr a c,l=>match asm a (l.take a.sz),asm c (l.drop a.sz)with|some x,some y=>some (x,y)|_,_=>none
 | .ar _ _,_=>none
 | .u,l=>if l.isEmpty=true then some ()else none
 |t,l=>match l with|[.d t' x]=>if h:t'=t then some (h▸x)else none|_=>none
def wY:(t:Ty)->t.D->Option (List TC)
 | .pr a c,x=>match wY a x.1,wY c x.2 with|some l,some q=>some (l++q)|_,_=>none
 | .ar _ _,_=>none
 | .u,_=>some []
 |t,x=>some [.d t x]
theorem HQ(L:Nat->Nat): ∀{t:Ty} {l:List TC} {x:t.D},asm t l=some x->l.map (aX L)=(cel t x).map .p
 | .pr a c,l,x,h=>by
  simp only[asm]at h;split at h;rename_i y z g j;injection h with h;subst h;have h1:=HQ L g;have h2:=HQ L j;grind [cel,List.take_append_drop];cases h
 | .ar _ _,_,_,h=>by cases h
 | .u,l,x,h=>by
  simp only[asm]at h;split at h;rename_i e;rw[List.isEmpty_iff.1 e];rfl;cases h
 | .b,l,x,h=>by
  simp only[asm]at h;split at h;split at h;rename_i e;subst e;injection h with h;subst h;rfl;cases h;cases h
 | .i _,l,x,h=>by
  simp only[asm]at h;split at h;split at h;rename_i e;subst e;injection h with h;subst h;rfl;cases h;cases h
 | .s,l,x,h=>by
  simp only[asm]at h;split at h;split at h;rename_i e;subst e;injection h with h;subst h;rfl;cases h;cases h
 | .l _,l,x,h=>by
  simp only[asm]at h;split at h;split at h;rename_i e;subst e;injection h with h;subst h;rfl;cases h;cases h
 | .f,l,x,h=>by
  simp only[asm]at h;split at h;split at h;rename_i e;subst e;injection h with h;subst h;rfl;cases h;cases h
theorem IB(L:Nat->Nat): ∀{t:Ty} {x:t.D} {l:List TC},wY t x=some l->l.map (aX L)=(cel t x).map .p
 | .pr a c,x,l,h=>by
  simp only[wY]at h;split at h;rename_i y z e g;injection h with h;subst h;have h1:=IB L e;have h2:=IB L g;grind [cel];cases h
 | .ar _ _,_,_,h=>by cases h
 | .u,x,l,h=>by injection h with h;subst h;rfl
 | .b,x,l,h=>by injection h with h;subst h;rfl
 | .i _,x,l,h=>by injection h with h;subst h;rfl
 | .s,x,l,h=>by injection h with h;subst h;rfl
 | .l _,x,l,h=>by injection h with h;subst h;rfl
 | .f,x,l,h=>by injection h with h;subst h;rfl
def zcs:Ty->List TC| .pr a c=>zcs a++zcs c| .ar n t=>(List.replicate n (zcs t)).flatten| .u=>[]|t=>[.d t t.zero]
theorem CL(L:Nat->Nat): ∀t:Ty,(zcs t).map (aX L)=(cel t t.zero).map .p| .pr a c=>by simp only[zcs,wJ,CL L a,CL L c,Ty.zero,cel]| .ar n t=>by have ih:=CL L t;simp_all [cel,oI,Ty.zero,zcs]| .u=>rfl| .b=>rfl| .i _=>rfl| .s=>rfl| .l _=>rfl| .f=>rfl
def mkb(t:Ty)(cs:List TC):TB:=match asm t cs with|some x=>.box t x|none=>.mbox t cs
theorem OP(L:Nat->Nat)(t:Ty)(cs:List TC):aT L (mkb t cs)=.box (cs.map (aX L)):=by
 unfold mkb;split;grind [CF,HQ];rfl
theorem OF(t:Ty)(cs:List TC):lnB (mkb t cs)=0:=by unfold mkb;split<;>rfl
def SB:TC->Bool| .ptr _ _| .cp _ _ _| .slr _| .slo _ _| .ep _ _ _| .epo _ _ _ _| .un| .fn _| .pre _ _| .pro _ _ _| .suf _ _| .suo _ _ _=>true|_=>false
theorem YU(L:Nat->Nat): ∀{cs:List TC},cs.any SB=true->unp (cs.map (aX L))=none
 |[],h=>by simp at h
 |x::r,h=>by
  simp only[List.any_cons,wW]at h;rcases h with h|h;cases x<;>simp[SB]at h<;>rfl
  have:=YU L h;cases x<;>simp[aX,unp,this]
def mka(agg:Bool)(t:Ty)(cs:List TC):Option TV:=
 if agg=true then
  match asm t cs with
  |some x=>some (.a (.dt t x))
  |none=>if cs.any SB=true then some (.a (.m t cs))else none
 else match cs with|[c]=>some (.a (.c c))|_=>none
theorem CI(L:Nat->Nat){agg:Bool}{t:Ty}{cs:List TC}{v:TV}(h:mka agg t cs=some v):jZ agg (cs.map (aX L))=some (JR L v):=by
 unfold mka at h;split at h;rename_i e;subst e;split at h;rename_i x j;injection h with h;subst h;rw[HQ L j,sj];rfl;split at h;rename_i g;injection h with h;subst h;simp only[jZ,YU L g,if_true];rfl;cases h;rename_i e;split at h;injection h with h;subst h;have:agg=false:=by simpa using e
 subst this;rfl;cases h
def tcs:TV->Option (List TC)| .a (.c .un)=>none| .a (.c (.pre _ _))=>none| .a (.c (.pro _ _ _))=>none| .a (.c x)=>some [x]| .a (.dt t x)=>wY t x| .a (.m _ cs)=>some cs| .a (.fn f [] [])=>some [.fn f]|_=>none
theorem HY(L:Nat->Nat){v:TV}{cs:List TC}(h:tcs v=some cs):cellsOf (JR L v)=some (cs.map (aX L)):=by
 cases v with
 |a x=>
  cases x with
  |c x=>cases x<;>cases h<;>rfl
  |dt t x=>simp only[JR,bN,cellsOf];rw[IB L h]
  |m t cs=>injection h with h;subst h;rfl
  |fn f a c=>
   cases a with
   |nil=>cases c with
    |nil=>injection h with h;subst h;rfl
    |cons y c=>cases h
   |cons y a=>cases h
 |tup vs=>cases h
def tdv(t:Ty):TV->Option t.D| .a (.c (.d t' x))=>if h:t'=t then some (h▸x)else none| .a (.dt t' x)=>if h:t'=t then some (h▸x)else none|_=>none
def agv:TV->Bool| .a (.dt _ _)=>true|_=>false
theorem JMA(L:Nat->Nat){t:Ty}{v:TV}{x:t.D}(h:tdv t v=some x):JR L v=if agv v=true then .data (cel t x)else .p (hdP (cel t x)):=by
 unfold tdv at h;split at h;split at h;rename_i e;subst e;injection h with h;subst h;rfl;cases h;split at h;rename_i e;subst e;injection h with h;subst h;rfl;cases h;cases h
def rK:List Sp->Option Nat
 |[]=>some 0
 | .f o::r=>match rK r with|some n=>some (o+n)|none=>none
 | .a _ _::_=>none
theorem CE: ∀{p:List Sp} {n:Nat},rK p=some n->spo p=n
 |[],n,h=>by injection h with h
 | .f o::r,n,h=>by
  simp only[rK]at h;split at h;rename_i m e;injection h with h;simp only[spo,CE e,h];cases h
 | .a _ _::_,_,h=>by cases h
section
variable {R:Type}
def lz(agg:Bool)(t:Ty)(v:TV)(d:Option Nat)(s:TSt)(k:TSt->Option R):Option R:=
 if agg=true\/t.sz=1 then
  match v with
  | .a (.c (.cp t0 x p))=>prt t0 x (spf 0 p).1 (spf 0 p).2 t λy=>k (bA d (mkv agg t y) s)
  | .a (.c (.ptr b p))=>match s.sto[b]? with
   |some (.box t0 x)=>prt t0 x (spf 0 p).1 (spf 0 p).2 t λy=>k (bA d (mkv agg t y) s)
   |some (.mbox _ cs)=>match rK p with
    |some off=>match sub cs off t.sz with
     |some l=>match mka agg t l with|some v=>k (bA d v s)|none=>none
     |none=>none
    |none=>none
   |_=>none
  | .a (.c (.ep b i p))=>match s.sto[b]? with|some (.arr _ t0 rows)=>(aZ rows i).bind λrow=>prt t0 row (spf 0 p).1 (spf 0 p).2 t λy=>k (bA d (mkv agg t y) s)|_=>none
  |_=>none
 else none
theorem CD(L:Nat->Nat){agg:Bool}{t:Ty}(h:agg=true\/t.sz=1)(y:t.D):nL agg (cel t y)=some (JR L (mkv agg t y)):=by
 unfold mkv;split;rename_i e;subst e;rfl;rename_i e;have:agg=false:=by simpa using e
 subst this;have:=h.resolve_left (by simp);rw[FR this];rfl
theorem FA(p:List Sp):(spf 0 p).1+spo (spf 0 p).2=spo p:=by simp[LV]
theorem JII{agg:Bool}{t:Ty}{v:TV}{d:Option Nat}{s:TSt}{k:TSt->Option R}{r:R}(h:lz agg t v d s k=some r):Ok (fX agg t.sz (JR (lns s.sto) v)) d s k r:=by
 unfold lz at h;split at h;rename_i j;split at h;rename_i t0 x p;obtain⟨y,h1,h2⟩:=uS h;rw[FA]at h1;refine⟨_,_,?_,II d (mkv agg t y),h2⟩;simp only[jP,lN,lI,fN,fX,h1,CD (lns s.sto) j,val];rfl;rename_i b p;split at h;rename_i t0 x e;obtain⟨y,h1,h2⟩:=uS h;rw[FA]at h1;refine⟨_,_,?_,II d (mkv agg t y),h2⟩;have hc:jZ agg ((cel t y).map .p)=nL agg (cel t y):=by
  unfold jZ nL;split;rw[IQ];cases hcel:cel t y with
  |nil=>rfl
  |cons a l=>cases l<;>rfl
 simp only[jP,lN,lI,fN,fX,cS,dH,e,cH,JQ,aT,CY,h1,hc,CD (lns s.sto) j,val];rfl;rename_i cs e;split at h;rename_i off n;split at h;rename_i l o;split at h;rename_i v q;refine⟨_,_,?_,II d v,h⟩;simp only[jP,lN,lI,fN,fX,cS,dH,e,cH,JQ,aT,CY,CE n,o,CI (lns s.sto) q,val];rfl;cases h;cases h;cases h;cases h;rename_i b i p;split at h;rename_i w t0 rows e;obtain⟨row,g,h⟩:=bF.1 h;have g:rows[i]?=some row:=g;obtain⟨y,h1,h2⟩:=uS h;rw[FA]at h1;refine⟨_,_,?_,II d (mkv agg t y),h2⟩;simp only[jP,lN,lI,fN,fX,cS,dH,e,cH,JQ,aT,iY e,dP,if_true,fB,g,h1,CD (lns s.sto) j,val];rfl;cases h;cases h;cases h
end
end Go.Am
end
section
namespace Go.Am
section
variable {R:Type}
def fzC:(t:Ty)->List TC->TSt->(t.D->TSt->Option R)->Option R
 | .pr a c,l,s,k=>fzC a (l.take a.sz) s λx s=>fzC c (l.drop a.sz) s λy s=>k (x,y) s
 | .ar _ _,_,_,_=>none
 | .u,l,s,k=>if l.isEmpty=true then k () s else none
 | .l e,l,s,k=>match l with
  |[.d t' x]=>if h:t'=.l e then k (h▸x) s else none
  |[.slr b]=>match s.sto[b]? with|some (.arr _ e' rows)=>if h:e'=e then k (h▸rows) (wS b (.arr false e' rows) s)else none|_=>none
  |_=>none
 |t,l,s,k=>match l with|[.d t' x]=>if h:t'=t then k (h▸x) s else none|_=>none
def tfz(t:Ty)(v:TV)(s:TSt)(k:t.D->TSt->Option R):Option R:=
 match v with
 | .a (.dt t' x)=>if h:t'=t then k (h▸x) s else none
 | .a (.c x)=>fzC t [x] s k
 | .a (.m _ cs)=>fzC t cs s k
 |_=>none
def Fzd(s s':TSt)(ws:List (Nat×Blk)):Prop:=s'.env=s.env/\lns s'.sto=lns s.sto/\Jw s'=⟨(Jw s).env,upd ws (Jw s).sto⟩/\(∀(b:Nat) (t:Ty) (rows:List t.D) (w:Bool),s'.sto[b]?=some (TB.arr w t rows)-> ∃w',s.sto[b]?=some (TB.arr w' t rows))/\(∀(b:Nat) (t:Ty) (rows:List t.D),s.sto[b]?=some (TB.arr false t rows)->s'.sto[b]?=some (TB.arr false t rows))/\ ∀x∈ws,∃(t:Ty) (rows:List t.D),s'.sto[x.1]?=some (TB.arr false t rows)
theorem Fzd.refl(s:TSt):Fzd s s []:=⟨rfl,rfl,rfl,λb t rows w h=>⟨w,h⟩,λb t rows h=>h,λx h=>by cases h⟩
theorem Fzd.trans{s1 e g:TSt}{a c:List (Nat×Blk)}(h:Fzd s1 e a)(j:Fzd e g c):Fzd s1 g (a++c):=by
 obtain⟨h1,h2,B,z,o,y⟩:=h;obtain⟨n,q,A,v,k,r⟩:=j;refine⟨n.trans h1,q.trans h2,?_,λb t rows w h=>?_,λb t rows h=>k b t rows (o b t rows h),λx C=>?_⟩
 all_goals grind [eM]
theorem YV{s:TSt}{b:Nat}{w:Bool}{t:Ty}{rows:List t.D}(hb:s.sto[b]?=some (.arr w t rows)):Fzd s (wS b (.arr false t rows) s) [(b,.arr false t.sz (rows.map (cel t)))]:=by
 have e:lnB (.arr false t rows)=lns s.sto b:=by rw[iY hb];rfl
 have k:(wS b (.arr false t rows) s).sto[b]?=some (.arr false t rows):=by grind [wS]
 have j: ∀c,c≠b->(wS b (.arr false t rows) s).sto[c]?=s.sto[c]?:=λc hc=>by grind [wS]
 refine⟨rfl,CN e,xO e,λc t' g w' h=>?_,λc t' g h=>?_,λx n=>?_⟩
 all_goals grind
theorem JK3(x y:List AV)(st:St):(fz.fzL (x++y)).run st=((fz.fzL x).run st).bind λa=>((fz.fzL y).run st).map λc=>(a.1++c.1,a.2++c.2):=by
 induction x with
 |nil=>simp_all
 |cons v x ih=>
  simp only[lQ,fz.fzL,run_bind,ih];cases(fz.fz1 v).run st with
  |none=>rfl
  |some a=>
   simp only[JQ];cases(fz.fzL x).run st with
   |none=>rfl
   |some c=>simp only[JQ];cases(fz.fzL y).run st<;>simp_all
theorem HG{L:Nat->Nat}{t t':Ty}{x:t'.D}(h:t'=t)(h1:t.sz=1)(st:St):(fz.fzL ([TC.d t' x].map (aX L))).run st=some (cel t (h▸x),[]):=by
 grind [FR,aX,fz.fzL,fz.fz1,run_bind,JX]
theorem HV: ∀{t:Ty} {l:List TC} {s0 s:TSt} {w0:List (Nat×Blk)} {k:t.D->TSt->Option R} {r:R},Fzd s0 s w0->fzC t l s k=some r->
  ∃y s' ws,(fz.fzL (l.map (aX (lns s0.sto)))).run (Jw s0)=some (cel t y,ws)/\Fzd s0 s' (w0++ws)/\k y s'=some r
 | .pr a c,l,s0,s,w0,k,r,j,h=>by simp only[fzC]at h;obtain⟨x,s1,z,B,q,h⟩:=HV j h;obtain⟨y,v,C,A,E,h⟩:=HV q h;refine⟨(x,y),v,z++C,?_,by simp_all,h⟩;have:=JK3 ((l.take a.sz).map (aX (lns s0.sto))) ((l.drop a.sz).map (aX (lns s0.sto))) (Jw s0);rw[<-wJ,mZ,B,A]at this;exact this
 | .ar _ _,_,_,_,_,_,_,_,h=>by cases h
 | .u,l,s0,s,w0,k,r,j,h=>by
  simp only[fzC]at h;split at h;rename_i g;refine⟨(),s,[],?_,by simp_all,h⟩;rw[List.isEmpty_iff.1 g];rfl;cases h
 | .l e,l,s0,s,w0,k,r,j,h=>by
  simp only[fzC]at h;split at h;split at h;rename_i g;exact⟨_,s,[],HG g rfl _,by simp_all,h⟩;cases h;rename_i b;split at h;rename_i w e' rows o;split at h;rename_i g;subst g;obtain⟨w',n⟩:=j.2.2.2.1 b _ rows w o;refine⟨rows,_,[(b,.arr false e'.sz (rows.map (cel e')))],?_,j.trans (YV o),h⟩;simp only[bP,List.map_nil,aX,fz.fzL,fz.fz1,run_bind,cS,dH,n,cH,JQ,aT,iY n,dP,jI,if_true,wX,JX];rfl;cases h;cases h;cases h
 | .b,l,s0,s,w0,k,r,j,h=>by
  simp only[fzC]at h;split at h;split at h;rename_i g;exact⟨_,s,[],HG g rfl _,by simp_all,h⟩;cases h;cases h
 | .i _,l,s0,s,w0,k,r,j,h=>by
  simp only[fzC]at h;split at h;split at h;rename_i g;exact⟨_,s,[],HG g rfl _,by simp_all,h⟩;cases h;cases h
 | .s,l,s0,s,w0,k,r,j,h=>by
  simp only[fzC]at h;split at h;split at h;rename_i g;exact⟨_,s,[],HG g rfl _,by simp_all,h⟩;cases h;cases h
 | .f,l,s0,s,w0,k,r,j,h=>by
  simp only[fzC]at h;split at h;split at h;rename_i g;exact⟨_,s,[],HG g rfl _,by simp_all,h⟩;cases h;cases h
theorem Zu(x:AV)(hx:(∀cs,x≠.data cs)/\ ∀cs,x≠.agg cs)(st:St){y:List PV}{ws:List (Nat×Blk)}(h:(fz.fzL [x]).run st=some (y,ws)):(fz x).run st=some (y,ws):=by simp only[fz.fzL,run_bind,JX]at h;cases x<;>simp_all [bF]
theorem Cd{t:Ty}{v:TV}{s0 s:TSt}{w0:List (Nat×Blk)}{k:t.D->TSt->Option R}{r:R}(g:Fzd s0 s w0)(h:tfz t v s k=some r):
  ∃y s' ws,(fz (JR (lns s0.sto) v)).run (Jw s0)=some (cel t y,ws)/\Fzd s0 s' (w0++ws)/\k y s'=some r:=by
 unfold tfz at h;split at h;split at h;rename_i j;subst j;exact⟨_,s,[],rfl,by simp_all,h⟩;cases h;rename_i x;obtain⟨y,s',ws,h1,h2,e⟩:=HV g h;refine⟨y,s',ws,Zu _ ⟨λcs=>?_,λcs=>?_⟩ _ h1,h2,e⟩<;>cases x<;>simp[aX,JR,bN]
 obtain⟨y,s',ws,h1,h2,e⟩:=HV g h;exact⟨y,s',ws,h1,h2,e⟩;cases h
end
end Go.Am
end
section
namespace Go.Am
section
variable {R:Type}
theorem fg(L:Nat->Nat){t:Ty}{v:TV}{x:t.D}(h:tdv t v=some x)(ha:agv v=true\/t.sz=1):cellsOf (JR L v)=some ((cel t x).map .p):=by
 rw[JMA L h];split;rfl;rename_i e;rw[FR (ha.resolve_left e)];rfl
def XN(t:Ty)(x u:TV)(d:Option Nat)(s:TSt)(k:TSt->Option R):Option R:=
 match x with
 | .a (.c (.ptr b p))=>match s.sto[b]? with
  |some (.box t0 y)=>match tdv t u with
   |some z=>if agv u=true\/t.sz=1 then pst t0 y (spf 0 p).1 (spf 0 p).2 t z λg=>k (bA d uv (wS b (.box t0 g) s))else none
   |none=>match rK p,wY t0 y,tcs u with
    |some off,some cs,some l=>if l.length=t.sz then
     match spl cs off l with
     |some cs'=>k (bA d uv (wS b (mkb t0 cs') s))
     |none=>none
     else none
    |some off,none,some l=>if off=0/\l.length=t0.sz/\l.length=t.sz then k (bA d uv (wS b (mkb t0 l) s))else none
    |_,_,_=>none
  |some (.mbox t0 cs)=>match rK p,tcs u with
   |some off,some l=>if l.length=t.sz then
    match spl cs off l with
    |some cs'=>k (bA d uv (wS b (mkb t0 cs') s))
    |none=>none
    else none
   |_,_=>none
  |_=>none
 | .a (.c (.ep b i p))=>tfz t u s λz s1=>match s1.sto[b]? with|some (.arr true t0 rows)=>(aZ rows i).bind λrow=>pst t0 row (spf 0 p).1 (spf 0 p).2 t z λe=>k (bA d uv (wS b (.arr true t0 (aS rows i e)) s1))|_=>none
 |_=>none
theorem JMD(L:Nat->Nat):JR L uv=fY:=rfl
theorem NX{s:TSt}{b:Nat}{t:Ty}{x:t.D}(h:s.sto[b]?=some (.box t x)):lns s.sto b=0:=by unfold lns;rw[h];rfl
theorem oq{s:TSt}{b:Nat}{t:Ty}{cs:List TC}(h:s.sto[b]?=some (.mbox t cs)):lns s.sto b=0:=by unfold lns;rw[h];rfl
theorem yG{s:TSt}{b:Nat}(h:s.sto[b]?=some .dead):lns s.sto b=0:=by unfold lns;rw[h];rfl
theorem GK{m:RM Eff}{d:Option Nat}{s:TSt}{k:TSt->Option R}{r:R}{b:Nat}{x:TB}{v:TV}(hl:lnB x=lns s.sto b)(hm:m.run (Jw s)=some ⟨JR (lns s.sto) v,[(b,aT (lns s.sto) x)]⟩)
  (h:k (bA d v (wS b x s))=some r):Ok m d s k r:=by
 refine⟨_,_,hm,?_,h⟩;have e:=CN hl;rw[<-e];refine qD ?_ d v;simp_all [xO]
theorem LW{m:RM Eff}{d:Option Nat}{s:TSt}{k:TSt->Option R}{r:R}{b:Nat}{x:TB}{v:TV}(hm:m.run (Jw s)=some ⟨JR (lns (wN b x s).sto) v,[(b,aT (lns (wN b x s).sto) x)]⟩)
  (h:k (bA d v (wN b x s))=some r):Ok m d s k r:=
 ⟨_,_,hm,qD (Bx b x s) d v,h⟩
theorem eX{m:RM Eff}{d:Option Nat}{s:TSt}{k:TSt->Option R}{r:R}{v:TV}(hm:m.run (Jw s)=some ⟨JR (lns s.sto) v,[]⟩)(h:k (bA d v s)=some r):Ok m d s k r:=
 ⟨_,_,hm,II d v,h⟩
theorem XE{m:RM Eff}{d:Option Nat}{s s':TSt}{ws:List (Nat×Blk)}{k:TSt->Option R}{r:R}{v:TV}(f:Fzd s s' ws)(hm:m.run (Jw s)=some ⟨JR (lns s.sto) v,ws⟩)(h:k (bA d v s')=some r):Ok m d s k r:=by refine⟨_,_,hm,?_,h⟩;rw[<-f.2.1];exact qD f.2.2.1 d v
theorem JFl{t:Ty}{x u:TV}{d:Option Nat}{s:TSt}{k:TSt->Option R}{r:R}(h:XN t x u d s k=some r):Ok (hC t.sz (JR (lns s.sto) x) (JR (lns s.sto) u)) d s k r:=by
 unfold XN at h;split at h;rename_i b p;split at h;rename_i t0 y e;split at h;rename_i z F;split at h;rename_i I;obtain⟨D,h1,h2⟩:=yB h;rw[FA]at h1;refine GK (x:=.box t0 D) (v:=uv) (NX e).symm ?_ h2;simp only[jP,lN,lI,fN,hC,cS,dH,e,cH,JQ,aT,fg (lns s.sto) F I,dP,dV,if_true,CX,h1,JX];rfl;cases h;split at h;rename_i off cs l o hc j;split at h;rename_i B;split at h;rename_i cs' A;refine GK (x:=mkb t0 cs') (v:=uv) ((OF _ _).trans (NX e).symm) ?_ h;rw[OP];simp only[jP,lN,lI,fN,hC,cS,dH,e,cH,JQ,aT,HY (lns s.sto) j,dP,B,if_true,CE o,<-IB (lns s.sto) hc,CX,A,JX];rfl;cases h;cases h;rename_i off l o _ j;split at h;rename_i E;obtain⟨rfl,h1,h2⟩:=E;refine GK (x:=mkb t0 l) (v:=uv) ((OF _ _).trans (NX e).symm) ?_ h;rw[OP];have J:spl ((cel t0 y).map AV.p) 0 (l.map (aX (lns s.sto)))=some (l.map (aX (lns s.sto))):=E6 (by grind [dV]);simp only[jP,lN,lI,fN,hC,cS,dH,e,cH,JQ,aT,HY (lns s.sto) j,dP,h2,if_true,CE o,J,JX];rfl;cases h;cases h;rename_i t0 cs e;split at h;rename_i off l o j;split at h;rename_i B;split at h;rename_i cs' A;refine GK (x:=mkb t0 cs') (v:=uv) ((OF _ _).trans (oq e).symm) ?_ h;rw[OP];simp only[jP,lN,lI,fN,hC,cS,dH,e,cH,JQ,aT,HY (lns s.sto) j,dP,B,if_true,CE o,CX,A,JX];rfl;cases h;cases h;cases h;cases h;rename_i b i p;obtain⟨z,s1,ws,h1,f,h⟩:=Cd (Fzd.refl s) h;rw[jE]at f;split at h;rename_i t0 rows e;obtain⟨row,w,h⟩:=bF.1 h;have w:rows[i]?=some row:=w;obtain⟨g,C,K⟩:=yB h;rw[FA]at C;obtain⟨w',n⟩:=f.2.2.2.1 b _ rows true e;have G:w'=true:=by
  cases w' with
  |true=>rfl
  |false=>have:=f.2.2.2.2.1 b _ rows n;simp_all
 subst G;have q:(ws.all λy=>y.1 !=b)=true:=(by rw[FI];intro y H;obtain⟨t',rows',L⟩:=f.2.2.2.2.2 y H;grind);have j:lnB (.arr true t0 (aS rows i g))=lns s1.sto b:=by grind [iY,lnB,aS]
 refine⟨⟨fY,ws++[(b,.arr true t0.sz ((aS rows i g).map (cel t0)))]⟩,_,?_,?_,K⟩;simp only[jP,lN,lI,fN,hC,cS,dH,n,cH,JQ,aT,iY n,dP,if_true,fB,w,run_bind,h1,dV,q,and_self,C,JX,List.map_set,aS];rw[<-JMD (lns (wS b (.arr true t0 (aS rows i g)) s1).sto)];refine qD ?_ d uv;rw[xO j,f.2.2.1,eM];rfl;cases h;cases h
def tpv:List (Nat×Ty×TO)->TSt->Option (List (Nat×(w:Ty)×w.D))
 |[],_=>some []
 |(off,w,o)::r,s=>match tev o s with
  |some v=>match tdv w v with
   |some z=>if agv v=true\/w.sz=1 then
    match tpv r s with
    |some l=>some ((off,⟨w,z⟩)::l)
    |none=>none
    else none
   |none=>none
  |none=>none
def MC(t:Ty):t.D->List (Nat×(w:Ty)×w.D)->(t.D->Option R)->Option R|x,[],k=>k x|x,(off,⟨w,z⟩)::r,k=>pst t x off [] w z λe=>MC t e r k
def tpc:List (Nat×Ty×TO)->TSt->Option (List (Nat×Nat×List TC))
 |[],_=>some []
 |(off,w,o)::r,s=>match tev o s with
  |some v=>match tcs v with
   |some l=>match tpc r s with|some q=>some ((off,w.sz,l)::q)|none=>none
   |none=>none
  |none=>none
def GI:List (Nat×Nat×List TC)->List TC->Option (List TC)
 |[],cs=>some cs
 |(off,n,c)::r,cs=>if c.length=n then
  match spl cs off c with
  |some cs'=>GI r cs'
  |none=>none
  else none
def erP(parts:List (Nat×Ty×TO)):List (Nat×Nat×Opd):=parts.map λx=>(x.1,x.2.1.sz,erO x.2.2)
theorem XW{s:TSt}: ∀{parts:List (Nat×Ty×TO)} {l:List (Nat×Nat×List TC)},tpc parts s=some l->
  (jR (erP parts)).run (Jw s)=some (l.map λx=>(x.1,x.2.1,x.2.2.map (aX (lns s.sto))))
 |[],l,h=>by injection h with h;subst h;rfl
 |(off,w,o)::r,l,h=>by
  simp only[tpc]at h;split at h;rename_i v g;split at h;rename_i c hc;split at h;rename_i q e;injection h with h;subst h;have ih:=XW e;simp only[erP,bP,jR,run_bind,bQ g,JQ,HY (lns s.sto) hc];simp_all [erP];cases h;cases h;cases h
theorem B7{s:TSt}: ∀{parts:List (Nat×Ty×TO)} {l:List (Nat×(w:Ty)×w.D)},tpv parts s=some l->
  (jR (erP parts)).run (Jw s)=some (l.map λx=>(x.1,x.2.1.sz,(cel x.2.1 x.2.2).map .p))
 |[],l,h=>by injection h with h;subst h;rfl
 |(off,w,o)::r,l,h=>by
  simp only[tpv]at h;split at h;rename_i v g;split at h;rename_i z k;split at h;rename_i j;split at h;rename_i q e;injection h with h;subst h;have ih:=B7 e;simp only[erP,bP,jR,run_bind,bQ g,JQ,fg (lns s.sto) k j];simp_all [erP];cases h;cases h;cases h;cases h
theorem o6{t:Ty}: ∀{l:List (Nat×(w:Ty)×w.D)} {x:t.D} {k:t.D->Option R} {r:R},MC t x l k=some r->
  ∃y,oS (l.map λx=>(x.1,x.2.1.sz,(cel x.2.1 x.2.2).map .p)) ((cel t x).map .p)=some ((cel t y).map .p)/\k y=some r
 |[],x,k,r,h=>⟨x,rfl,h⟩
 |(off,⟨w,z⟩)::q,x,k,r,h=>by
  simp only[MC]at h;obtain⟨e,h1,h2⟩:=yB h;obtain⟨y,j,g⟩:=o6 h2;grind [oS,dV,CX,spo]
theorem dj(L:Nat->Nat): ∀{l:List (Nat×Nat×List TC)} {cs cs':List TC},GI l cs=some cs'->
  oS (l.map λx=>(x.1,x.2.1,x.2.2.map (aX L))) (cs.map (aX L))=some (cs'.map (aX L))
 |[],cs,cs',h=>by injection h with h;subst h;rfl
 |(off,n,c)::q,cs,cs',h=>by
  simp only[GI]at h;split at h;rename_i e;split at h;rename_i j g;simp only[bP,oS,dP,e,if_true,CX,g,cH];exact dj L h;cases h;cases h
def XP(t:Ty)(parts:List (Nat×Ty×TO))(d:Option Nat)(s:TSt)(k:TSt->Option R):Option R:=
 match tpv parts s with
 |some l=>MC t t.zero l λy=>k (bA d (.a (.dt t y)) s)
 |none=>match tpc parts s with
  |some l=>match GI l (zcs t)with
   |some cs'=>match mka true t cs' with|some v=>k (bA d v s)|none=>none
   |none=>none
  |none=>none
theorem JG4(F:Orc)(new:Nat){t:Ty}{parts:List (Nat×Ty×TO)}{d:Option Nat}{s:TSt}{k:TSt->Option R}{r:R}(h:XP t parts d s k=some r):Ok (opR F (.build (cel t t.zero) (erP parts)) new) d s k r:=by
 unfold XP at h;split at h;rename_i l e;obtain⟨y,h1,h2⟩:=o6 h;refine eX (v:=.a (.dt t y)) ?_ h2;simp only[opR,run_bind,B7 e,JQ,h1,sj,val,JX];rfl;split at h;rename_i l e;split at h;rename_i cs' g;split at h;rename_i v j;refine eX (v:=v) ?_ h;simp only[opR,run_bind,XW e,JQ,<-CL (lns s.sto) t,dj (lns s.sto) g,CI (lns s.sto) j,val,JX];cases h;cases h;cases h
def XQ(agg:Bool)(off:Nat)(t:Ty)(v:TV)(d:Option Nat)(s:TSt)(k:TSt->Option R):Option R:=
 if agg=true\/t.sz=1 then
  match v with
  | .a (.dt t0 x)=>prt t0 x off [] t λy=>k (bA d (mkv agg t y) s)
  | .a (.m _ cs)=>match sub cs off t.sz with
   |some l=>match mka agg t l with|some v=>k (bA d v s)|none=>none
   |none=>none
  |_=>none
 else none
theorem JFF{agg:Bool}{off:Nat}{t:Ty}{v:TV}{d:Option Nat}{s:TSt}{k:TSt->Option R}{r:R}(h:XQ agg off t v d s k=some r):Ok (val (qB agg off t.sz (JR (lns s.sto) v))) d s k r:=by
 unfold XQ at h;split at h;rename_i j;split at h;rename_i t0 x;obtain⟨y,h1,h2⟩:=uS h;refine eX (v:=mkv agg t y) ?_ h2;grind [spo,jm,qB,CD,val,JX];rename_i cs;split at h;rename_i l e;split at h;rename_i v g;refine eX (v:=v) ?_ h;grind [e_m,qB,CY,CI,val,JX];cases h;cases h;cases h;cases h
end
end Go.Am
end
section
namespace Go.Am
section
variable {R:Type}
theorem ZG{α:Type} [BEq α] [LawfulBEq α] [DecidableEq α](x y:α):(x==y)=decide (x=y):=by
 grind
def Vl(m:Option AV)(s:TSt)(kk:TV->Option R)(r:R):Prop:= ∃v,m=some (JR (lns s.sto) v)/\kk v=some r
theorem Vl.ok{m:Option AV}{d:Option Nat}{s:TSt}{k:TSt->Option R}{r:R}(h:Vl m s (λv=>k (bA d v s)) r):Ok (val m) d s k r:=by obtain⟨v,h1,h2⟩:=h;refine eX (v:=v) ?_ h2;rw[h1];rfl
def ja(op:BinOp)(k:IntKind)(a c:Int)(kk:TV->Option R):Option R:=
 match op with
 | .add=>kk (vi k (J1 k a c))
 | .sub=>kk (vi k (Js k a c))
 | .mul=>kk (vi k (cM k a c))
 | .quo=>(Bb k a c).bind λq=>kk (vi k q)
 | .rem=>(tU a c).bind λq=>kk (vi k q)
 | .and=>kk (vi k (pR k a c))
 | .or=>kk (vi k (orI k a c))
 | .xor=>kk (vi k (fC k a c))
 | .eql=>kk (vb (aJ a c))
 | .neq=>kk (vb (aM a c))
 | .lss=>kk (vb (aK a c))
 | .leq=>kk (vb (aV a c))
 | .gtr=>kk (vb (aN a c))
 | .geq=>kk (vb (aP a c))
 |_=>none
def kq(op:BinOp)(a c:List UInt8)(kk:TV->Option R):Option R:=
 match op with
 | .add=>(eJ a c).bind λq=>kk (vs q)
 | .eql=>kk (vb (eqS a c))
 | .neq=>kk (vb (neS a c))
 | .lss=>kk (vb (ltS a c))
 | .leq=>kk (vb (leS a c))
 | .gtr=>kk (vb (gtS a c))
 | .geq=>kk (vb (geS a c))
 |_=>none
inductive TBT where|plain|bool|flat (t:Ty)|nilp|nilf
def erT:TBT->BT| .plain=>.plain| .bool=>.bool| .flat t=>.flat (t.ks.getD [])| .nilp=>.nilp| .nilf=>.nilf
def mW(op:BinOp)(x:Bool)(kk:TV->Option R):Option R:=
 match op with
 | .eql=>kk (vb x)
 | .neq=>kk (vb (Jk x))
 |_=>none
def js(op:BinOp)(bt:TBT)(x y:TV)(kk:TV->Option R):Option R:=
 match bt with
 | .plain=>match x,y with
  | .a (.c (.d (.i k) a)),.a (.c (.d (.i j) c))=>match op with| .shl=>(wH k a c).bind λq=>kk (vi k q)| .shr=>(kL k a c).bind λq=>kk (vi k q)|_=>if k=j then ja op k a c kk else none
  | .a (.c (.d .s a)),.a (.c (.d .s c))=>kq op a c kk
  |_,_=>none
 | .bool=>match x,y with| .a (.c (.d .b a)),.a (.c (.d .b c))=>mW op (eqB a c) kk|_,_=>none
 | .flat t=>match x,y with| .a (.dt g a),.a (.dt e c)=>if h:g=t/\e=t/\t.ks.isSome=true then mW op (eqT t (h.1▸a) (h.2.1▸c)) kk else none|_,_=>none
 | .nilp=>match x with| .a (.c .np)=>mW op true kk| .a (.c (.ptr _ _))=>mW op false kk| .a (.c (.cp _ _ _))=>mW op false kk| .a (.c (.ep _ _ _))=>mW op false kk|_=>none
 | .nilf=>match x with| .a (.c .nf)=>mW op true kk| .a (.fn _ _ _)=>mW op false kk| .a (.c (.fn _))=>mW op false kk| .a (.c (.d .f _))=>mW op true kk|_=>none
theorem NZ{op:BinOp}{x:Bool}{s:TSt}{kk:TV->Option R}{r:R}(h:mW op x kk=some r):Vl (iN op (some x)) s kk r:=by
 unfold mW at h;split at h;exact⟨_,rfl,h⟩;exact⟨_,rfl,h⟩;cases h
theorem JJk{op:BinOp}{k:IntKind}{a c:Int}{s:TSt}{kk:TV->Option R}{r:R}(h:ja op k a c kk=some r):Vl ((wF op k a c).map .p) s kk r:=by
 unfold ja at h;split at h<;>first
  |exact⟨_,rfl,h⟩
  |(obtain⟨q,h1,h⟩:=bF.1 h
    refine⟨_,?_,h⟩
    first|unfold Bb at h1|unfold tU at h1
    split at h1;cases h1;rename_i e;injection h1 with h1;simp only[wF,if_neg e,h1,cH,e_i])
  |(refine⟨_,?_,h⟩;simp only[wF,ZG,cH,e_b,bne,aJ,aM,aK,aV,aN,aP];done)
  |cases h
theorem JKJ{op:BinOp}{a c:List UInt8}{s:TSt}{kk:TV->Option R}{r:R}(h:kq op a c kk=some r):Vl ((wL op a c).map .p) s kk r:=by
 unfold kq at h;split at h<;>first
  |(obtain⟨q,h1,h⟩:=bF.1 h
    refine⟨_,?_,h⟩;unfold eJ at h1;split at h1;rename_i e;injection h1 with h1;simp only[wL,if_pos e,h1,cH,e_s];cases h1)
  |(refine⟨_,?_,h⟩;simp only[wL,ZG,cH,e_b,eqS,neS,ltS,leS,gtS,geS];done)
  |cases h
theorem JK8{op:BinOp}{bt:TBT}{x y:TV}{s:TSt}{kk:TV->Option R}{r:R}(h:js op bt x y kk=some r):Vl (mU op (erT bt) (JR (lns s.sto) x) (JR (lns s.sto) y)) s kk r:=by
 unfold js at h;split at h;split at h;rename_i k a g c;simp only[e_i,erT,mU];split at h;obtain⟨q,h1,h⟩:=bF.1 h;unfold wH at h1;split at h1;cases h1;rename_i e;injection h1 with h1;exact⟨_,by simp_all [e_i],h⟩;obtain⟨q,h1,h⟩:=bF.1 h;unfold kL at h1;split at h1;cases h1;rename_i e;injection h1 with h1;exact⟨_,by simp_all [e_i],h⟩;grind [JJk];exact JKJ h;cases h;split at h;rename_i a c;simp only[e_b,erT,mU,ZG];exact NZ h;cases h;grind [Option.isSome_iff_exists,jm,erT,mU,NV,NZ];split at h<;>first|exact NZ h|cases h
 split at h<;>first|exact NZ h|cases h
def tUn(op:UnOp)(x:TV)(kk:TV->Option R):Option R:=
 match op,x with
 | .neg,.a (.c (.d (.i k) n))=>kk (vi k (Y1 k n))
 | .xor,.a (.c (.d (.i k) n))=>kk (vi k (UC k n))
 | .not,.a (.c (.d .b x))=>kk (vb (Jk x))
 |_,_=>none
theorem JMk{op:UnOp}{x:TV}{s:TSt}{kk:TV->Option R}{r:R}(h:tUn op x kk=some r):Vl (unP op (JR (lns s.sto) x)) s kk r:=by unfold tUn at h;split at h<;>first|exact⟨_,rfl,h⟩|cases h
def tMm(mx:Bool)(x y:TV)(kk:TV->Option R):Option R:=
 match x,y with
 | .a (.c (.d (.i k) a)),.a (.c (.d (.i _) c))=>kk (vi k (if mx=true then eA a c else lR a c))
 |_,_=>none
theorem JMM{mx:Bool}{x y:TV}{s:TSt}{kk:TV->Option R}{r:R}(h:tMm mx x y kk=some r):Vl (mmP mx (JR (lns s.sto) x) (JR (lns s.sto) y)) s kk r:=by
 unfold tMm at h;split at h;exact⟨_,by cases mx<;>rfl,h⟩;cases h
def tls(t:Ty)(v:TV)(s:TSt):Option (List t.D):=
 match v with
 | .a (.c (.d (.l t') l))=>if h:t'=t then some (h▸l)else none
 | .a (.c (.d .s l))=>if h:t=.i .u8 then some (h▸(aQ l:List (Ty.i .u8).D))else none
 | .a (.c (.slr b))=>match s.sto[b]? with|some (.arr _ t' rows)=>if h:t'=t then some (h▸rows)else none|_=>none
 | .a (.c (.suf b i))=>match s.sto[b]? with|some (.arr _ t' rows)=>if h:t'=t then some (h▸rows.drop i)else none|_=>none
 |_=>none
theorem NQ{t:Ty}{v:TV}{s:TSt}{l:List t.D}(h:tls t v s=some l):(eY t.sz (JR (lns s.sto) v)).run (Jw s)=some (l.map (cel t)):=by
 unfold tls at h;split at h;grind [e_l,eY,JX];split at h;rename_i g;subst g;injection h with h;subst h;simp only[e_s,eY,Ty.sz,if_true,JX,ZS];rfl;cases h;rename_i b;split at h;rename_i w t' rows j;split at h;rename_i g;subst g;injection h with h;subst h;simp only[fN,eY,cS,dH,j,cH,JQ,aT,iY j,dP,jI,and_self,if_true,JX,wX];cases h;cases h;rename_i b i;split at h;rename_i w t' rows j;split at h;rename_i g;subst g;injection h with h;subst h;have e:JR (lns s.sto) (.a (.c (.suf b i)))=.slr b (min i (lns s.sto b)) (lns s.sto b-i):=rfl;have n:min i rows.length+(rows.length-i)=rows.length:=by omega
 have k:(rows.map (cel t')).drop (min i rows.length)=(rows.map (cel t')).drop i:=(by rcases Nat.le_total i rows.length with h|h;rw[Nat.min_eq_left h];rw[Nat.min_eq_right h,List.drop_of_length_le (by simp),List.drop_of_length_le (by simpa using h)]);simp only[e,eY,cS,dH,j,cH,JQ,aT,iY j,dP,n,and_self,if_true,JX,k,List.map_drop];cases h;cases h;cases h
def lh(k:CK)(x:TV)(d:Option Nat)(new:Nat)(s:TSt)(kk:TSt->Option R):Option R:=
 match k with
 | .int k=>match x with| .a (.c (.d (.i _) n))=>kk (bA d (vi k (aY k n)) s)|_=>none
 | .same=>match x with| .a (.c (.d .s l))=>kk (bA d (vs l) s)|_=>none
 | .toStr=>match tls (.i .u8) x s with|some l=>kk (bA d (vs (toStr l)) s)|none=>none
 | .toBytes own=>match x with| .a (.c (.d .s l))=>if own=true then kk (bA d (.a (.c (.slr new))) (wN new (.arr true (.i .u8) (aQ l)) s))else kk (bA d (vl (.i .u8) (aQ l)) s)|_=>none
theorem JHE(F:Orc){k:CK}{x:TO}{v:TV}{d:Option Nat}{new:Nat}{s:TSt}{kk:TSt->Option R}{r:R}(hx:tev x s=some v)(hn:k=.toBytes true->new<s.sto.length)(h:lh k v d new s kk=some r):Ok (opR F (.conv k (erO x)) new) d s kk r:=by
 unfold lh at h;split at h;split at h;refine eX (v:=vi _ _) ?_ h;simp only[opR,run_bind,bQ hx,JQ,e_i,JX,aY];cases h;split at h;refine eX (v:=vs _) ?_ h;grind [opR,run_bind,bQ,e_s,JX];cases h;split at h;rename_i l j;refine eX (v:=vs _) ?_ h;have:=NQ j;have e:l.map (cel (.i .u8))=l.map (r_i .u8):=rfl;rw[e]at this;simp only[opR,run_bind,bQ hx,JQ,this,fr,e_s,JX,Ty.sz];rw[show(eY 1 (JR (lns s.sto) v)).run (Jw s)=some (l.map (r_i .u8))from this];simp[fr];cases h;rename_i own;split at h;rename_i l;split at h;rename_i g;subst g;refine LW (x:=.arr true (.i .u8) (aQ l)) (v:=.a (.c (.slr new))) ?_ h;simp only[opR,run_bind,bQ hx,JQ,e_s,if_true,JX,fN,aT,ZS];have e:lns (wN new (TB.arr true (Ty.i IntKind.u8) (aQ l)) s).sto new=l.length:=(by grind [wN,XG,lnB,aQ]);rw[e];rfl;rename_i g;have:own=false:=by simpa using g
 subst this;refine eX (v:=vl _ _) ?_ h;simp only[opR,run_bind,bQ hx,JQ,e_s,dU,if_false,JX,e_l,ZS];rfl;cases h
end
end Go.Am
end
section
namespace Go.Am
section
variable {R:Type}
theorem Eh(p q:List Sp):spo (p++q)=spo p+spo q:=by
 induction p with
 |nil=>simp[spo]
 |cons x p ih=>cases x<;>simp only[lQ,spo,ih]<;>omega
def YB(off:Nat)(x:TV)(kk:TV->Option R):Option R:=
 match x with
 | .a (.c (.ptr b p))=>kk (.a (.c (.ptr b (p++[.f off]))))
 | .a (.c (.cp t x p))=>kk (.a (.c (.cp t x (p++[.f off]))))
 | .a (.c (.ep b i p))=>kk (.a (.c (.ep b i (p++[.f off]))))
 |_=>none
theorem JFU{off:Nat}{x:TV}{s:TSt}{kk:TV->Option R}{r:R}(h:YB off x kk=some r):Vl (HC off (JR (lns s.sto) x)) s kk r:=by
 unfold YB at h;split at h<;>first
  |(refine⟨_,?_,h⟩;simp only[jP,lN,lI,HC,Eh,spo,pP];done)
  |cases h
def XX(len esz:Nat)(x i:TV)(kk:TV->Option R):Option R:=
 match i with
 | .a (.c (.d (.i _) n))=>(aR len n).bind λ_=>match x with| .a (.c (.ptr b p))=>kk (.a (.c (.ptr b (p++[.a n.toNat esz]))))| .a (.c (.cp t x p))=>kk (.a (.c (.cp t x (p++[.a n.toNat esz]))))| .a (.c (.ep b i p))=>kk (.a (.c (.ep b i (p++[.a n.toNat esz]))))|_=>none
 |_=>none
theorem JG8{len esz:Nat}{x i:TV}{s:TSt}{kk:TV->Option R}{r:R}(h:XX len esz x i kk=some r):Vl (HK len esz (JR (lns s.sto) x) (JR (lns s.sto) i)) s kk r:=by
 unfold XX at h;split at h;obtain⟨_,h1,h⟩:=bF.1 h;have e:=D7 h1;split at h<;>first
  |(refine⟨_,?_,h⟩;simp only[jP,lN,lI,e_i,HK,if_pos e,Eh,spo,pP];done)
  |cases h
 cases h
def XO(t:Ty)(x i:TV)(s:TSt)(kk:TV->Option R):Option R:=
 match i with
 | .a (.c (.d (.i _) n))=>match x with
  | .a (.c (.d (.l t') l))=>if t'=t then(idx l n).bind λy=>kk (.a (.c (.cp t' y [])))else none
  | .a (.c (.slr b))=>match s.sto[b]? with|some (.arr _ t' rows)=>if t'=t then(aR rows.length n).bind λ_=>kk (.a (.c (.ep b n.toNat [])))else none|_=>none
  |_=>none
 |_=>none
theorem JFz{t:Ty}{x i:TV}{d:Option Nat}{s:TSt}{k:TSt->Option R}{r:R}(h:XO t x i s (λv=>k (bA d v s))=some r):Ok (lX t.sz (JR (lns s.sto) x) (JR (lns s.sto) i)) d s k r:=by
 unfold XO at h;split at h;split at h;split at h;rename_i e;subst e;obtain⟨y,h1,h⟩:=bF.1 h;refine eX (v:=.a (.c (.cp _ y []))) ?_ h;grind [e_l,e_i,lN,lX,JFu,JX,spo];cases h;rename_i b;split at h;rename_i w t' rows g;split at h;rename_i e;subst e;obtain⟨_,h1,h⟩:=bF.1 h;have e:=D7 h1;refine eX (v:=.a (.c (.ep b _ []))) ?_ h;simp only[fN,e_i,lI,lX,cS,dH,g,cH,JQ,aT,iY g,dP,jI,true_and];rw[if_pos e];rfl;cases h;cases h;cases h;cases h
def mc(x i:TV)(kk:TV->Option R):Option R:=
 match x,i with
 | .a (.c (.d .s l)),.a (.c (.d (.i _) n))=>(rH l n).bind λu=>kk (vi .u8 u)
 |_,_=>none
theorem JJ1(F:Orc){x i:TO}{g e:TV}{d:Option Nat}{new:Nat}{s:TSt}{k:TSt->Option R}{r:R}(hx:tev x s=some g)(hi:tev i s=some e)(h:mc g e (λv=>k (bA d v s))=some r):Ok (opR F (.sidx (erO x) (erO i)) new) d s k r:=by
 unfold mc at h;split at h
 ·rename_i l o n;obtain⟨u,h1,h⟩:=bF.1 h;refine eX (v:=vi .u8 u) ?_ h;simp only[opR,run_bind,bQ hx,bQ hi,JQ,e_s,e_i];unfold rH at h1;split at h1
  ·rename_i j;rw[if_pos j];split at h1
   all_goals simp_all
  cases h1
 cases h
def SL(j:Int)(k:Nat->Option R):Nat->Option R|0=>none|m+1=>if aJ j m=true then k m else SL j k m
theorem Dm{j:Int}{k:Nat->Option R}{r:R}: ∀{n:Nat},SL j k n=some r-> ∃m,m<n/\j=m/\k m=some r
 |0,h=>by cases h
 |n+1,h=>by
  simp only[SL]at h;split at h;grind [aJ];obtain⟨m,h1,h2,e⟩:=Dm h;grind
def lm(agg:Bool)(len:Nat)(t:Ty)(x i:TV)(d:Option Nat)(s:TSt)(k:TSt->Option R):Option R:=
 if agg=true\/t.sz=1 then
  match x,i with
  | .a (.dt (.ar n t') v),.a (.c (.d (.i _) j))=>if h:t'=t/\n=len then(jh v j).bind λy=>k (bA d (mkv agg t (h.1▸y)) s)else none
  | .a (.m _ cs),.a (.c (.d (.i _) j))=>SL j (λm=>match sub cs (m*t.sz) t.sz with
   |some l=>match mka agg t l with|some v=>k (bA d v s)|none=>none
   |none=>none) len
  |_,_=>none
 else none
theorem JI1(F:Orc){agg:Bool}{len:Nat}{t:Ty}{x i:TO}{o g:TV}{d:Option Nat}{new:Nat}{s:TSt}{k:TSt->Option R}{r:R}(hx:tev x s=some o)(hi:tev i s=some g)(h:lm agg len t o g d s k=some r):
  Ok (opR F (.aidx agg len t.sz (erO x) (erO i)) new) d s k r:=by
 unfold lm at h;split at h;rename_i C;split at h;rename_i n t' v w j;split at h;rename_i z;obtain⟨rfl,rfl⟩:=z;obtain⟨y,h1,h⟩:=bF.1 h;obtain⟨h2,e⟩:=JGR h1;refine eX (v:=mkv agg t' y) ?_ h;simp only[opR,run_bind,bQ hx,bQ hi,JQ,jm,e_i,if_pos h2,qB];grind [cel,HT,dV,CD,val,JX];cases h;rename_i t0 cs w j;obtain⟨m,h1,q,e⟩:=Dm h;clear h;subst q;split at e;rename_i l A;split at e;rename_i v B;refine eX (v:=v) ?_ e;have h2:(0:Int)<=m/\(m:Int)<len:=by omega
 simp only[opR,run_bind,bQ hx,bQ hi,JQ,e_m,e_i,if_pos h2,qB,Int.toNat_natCast,CY,A,cH,CI (lns s.sto) B,val,JX];cases e;cases e;cases h;cases h
def lq(x:TV)(i:Nat)(kk:TV->Option R):Option R:=
 match x with
 | .tup vs=>match vs[i]? with|some v=>kk (.a v)|none=>none
 |_=>none
theorem JIN{x:TV}{i:Nat}{s:TSt}{kk:TV->Option R}{r:R}(h:lq x i kk=some r):Vl (MT i (JR (lns s.sto) x)) s kk r:=by
 unfold lq at h;split at h;split at h;rename_i v e;refine⟨_,?_,h⟩;simp_all [JR];cases h;cases h
def ko(str:Bool)(x:TV)(s:TSt)(kk:TV->Option R):Option R:=
 match str,x with
 |true,.a (.c (.d .s l))=>kk (vi .i64 (J0 l))
 |false,.a (.c (.d (.l _) l))=>kk (vi .i64 (J0 l))
 |false,.a (.c (.slr b))=>match s.sto[b]? with|some (.arr _ _ rows)=>kk (vi .i64 (J0 rows))|_=>none
 |false,.a (.c (.slo _ n))=>kk (vi .i64 n)
 |_,_=>none
theorem JJr{str:Bool}{x:TV}{s:TSt}{kk:TV->Option R}{r:R}(h:ko str x s kk=some r):Vl (GA str (JR (lns s.sto) x)) s kk r:=by
 unfold ko at h;split at h;exact⟨_,rfl,h⟩;exact⟨_,by simp[e_l,e_i,J0],h⟩;split at h;rename_i e;exact⟨_,by grind [fN,GA,iY,e_i,J0],h⟩;cases h;exact⟨_,rfl,h⟩;cases h
theorem YZ{s:TSt}{new:Nat}(hn:new<s.sto.length){w:Bool}{t:Ty}{rows:List t.D}:lns (wN new (TB.arr w t rows) s).sto new=rows.length:=by unfold wN;rw[XG (by simpa using hn)];rfl
theorem YF{m:RM Eff}{d:Option Nat}{s:TSt}{k:TSt->Option R}{r:R}{new:Nat}{t:Ty}{rows:List t.D}(hn:new<s.sto.length)
  (hm:m.run (Jw s)=some ⟨.slr new 0 rows.length,[(new,.arr true t.sz (rows.map (cel t)))]⟩) (h:k (bA d (.a (.c (.slr new))) (wN new (.arr true t rows) s))=some r):Ok m d s k r:=by
 refine LW (x:=.arr true t rows) (v:=.a (.c (.slr new))) ?_ h;rw[hm,fN,YZ hn];rfl
def ZR(own:Bool)(t:Ty)(bytes:Nat)(l c:TV)(d:Option Nat)(new:Nat)(s:TSt)(k:TSt->Option R):Option R:=
 match l,c with
 | .a (.c (.d (.i _) n)),.a (.c (.d (.i _) m))=>(mkS bytes n m t.zero).bind λrows=>
  if own=true then k (bA d (.a (.c (.slr new))) (wN new (.arr true t rows) s))else k (bA d (vl t rows) s)
 |_,_=>none
theorem JAU(F:Orc){own:Bool}{t:Ty}{bytes:Nat}{l c:TO}{e n:TV}{d:Option Nat}{new:Nat}{s:TSt}{k:TSt->Option R}{r:R}(hl:tev l s=some e)(hc:tev c s=some n)(hn:own=true->new<s.sto.length)
  (h:ZR own t bytes e n d new s k=some r):Ok (opR F (.mkslice own t.sz bytes (cel t t.zero) (erO l) (erO c)) new) d s k r:=by
 unfold ZR at h;split at h;obtain⟨rows,h1,j⟩:=bF.1 h;obtain⟨h2,rfl⟩:=JKv h1;clear h;split at j;rename_i g;subst g;refine YF (hn rfl) ?_ j;simp only[opR,run_bind,bQ hl,bQ hc,JQ,e_i,if_pos h2,if_true,JX,GB,TH];rename_i g;have:own=false:=by simpa using g
 subst this;refine eX (v:=vl t _) ?_ j;simp only[opR,run_bind,bQ hl,bQ hc,JQ,e_i,if_pos h2,dU,if_false,JX,e_l,TH];cases h
def iv(t:Ty)(bytes:Nat)(x y:TV)(d:Option Nat)(s:TSt)(k:TSt->Option R):Option R:=
 match x with
 | .a (.c (.slr b))=>match s.sto[b]? with
  |some (.arr w t' rows)=>if h:t'=t then
   match tls t' y s with
   |some l=>(JC bytes rows l).bind λm=>k (bA d (.a (.c (.slr b))) (wN b (.arr w t' m) s))
   |none=>none
   else none
  |_=>none
 |_=>none
theorem JKI{t:Ty}{bytes:Nat}{x y:TV}{d:Option Nat}{s:TSt}{k:TSt->Option R}{r:R}(h:iv t bytes x y d s k=some r):Ok (iH t.sz bytes (JR (lns s.sto) x) (JR (lns s.sto) y)) d s k r:=by
 unfold iv at h;split at h;rename_i b;split at h;rename_i w t' rows e;split at h;rename_i j;subst j;split at h;rename_i l n;obtain⟨m,h1,h⟩:=bF.1 h;refine LW (x:=.arr w t' m) (v:=.a (.c (.slr b))) ?_ h;have g:(Jw s).sto[b]?=some (.arr w t'.sz (rows.map (cel t'))):=by rw[dH,e];rfl
 have:=JKg h1 g (NQ n);rw[fN,iY e,this,fN,YZ (Jn e)];rfl;cases h;cases h;cases h;cases h
def l8(x hi:TV)(d:Option Nat)(s:TSt)(k:TSt->Option R):Option R:=
 match x,hi with
 | .a (.c (.slr b)),.a (.c (.d (.i _) n))=>match s.sto[b]? with|some (.arr _ _ rows)=>(ER n rows.length).bind λj=>k (bA d (.a (.c (.pre b j))) s)|_=>none
 |_,_=>none
theorem JHQ{x hi:TV}{d:Option Nat}{s:TSt}{k:TSt->Option R}{r:R}(h:l8 x hi d s k=some r):Ok (rC (JR (lns s.sto) x) (JR (lns s.sto) hi)) d s k r:=by
 unfold l8 at h;split at h;rename_i b q n;split at h;rename_i w t rows g;obtain⟨j,h1,h⟩:=bF.1 h;unfold ER at h1;split at h1;rename_i o;injection h1 with h1;subst h1;refine eX (v:=.a (.c (.pre b n.toNat))) ?_ h;have e:JR (lns s.sto) (.a (.c (.pre b n.toNat)))=.pre b (lns s.sto b) n.toNat:=rfl;simp only[e,fN,e_i,rC,cS,dH,g,cH,JQ,aT,iY g,dP,true_and,o,and_self,if_true,JX];cases h1;cases h;cases h
def l9(t:Ty)(x lo:TV)(d:Option Nat)(s:TSt)(k:TSt->Option R):Option R:=
 match x,lo with
 | .a (.c (.slr b)),.a (.c (.d (.i _) n))=>match s.sto[b]? with|some (.arr _ t' rows)=>if t'=t then(FB n rows.length).bind λj=>k (bA d (.a (.c (.suf b j))) s)else none|_=>none
 |_,_=>none
theorem JIH{t:Ty}{x lo:TV}{d:Option Nat}{s:TSt}{k:TSt->Option R}{r:R}(h:l9 t x lo d s k=some r):Ok (rO t.sz (JR (lns s.sto) x) (JR (lns s.sto) lo)) d s k r:=by
 unfold l9 at h;split at h;rename_i b y n;split at h;rename_i w t' rows g;split at h;rename_i ht;subst ht;obtain⟨j,h1,h⟩:=bF.1 h;unfold FB at h1;split at h1;rename_i o;injection h1 with h1;subst h1;refine eX (v:=.a (.c (.suf b n.toNat))) ?_ h;have e:JR (lns s.sto) (.a (.c (.suf b n.toNat)))=.slr b (min n.toNat (lns s.sto b)) (lns s.sto b-n.toNat):=rfl;have q:min n.toNat rows.length=n.toNat:=Nat.min_eq_left (by omega);simp only[e,fN,e_i,rO,cS,dH,g,cH,JQ,aT,iY g,dP,jI,true_and,o,and_self,if_true,JX,q];cases h1;cases h;cases h;cases h
def mg(t:Ty)(bytes:Nat)(x y:TV)(d:Option Nat)(s:TSt)(k:TSt->Option R):Option R:=
 match x with
 | .a (.c (.pre b n))=>match s.sto[b]? with
  |some (.arr true t' rows)=>if h:t'=t then
   match tls t' y s with
   |some l=>(FM bytes rows n l).bind λm=>k (bA d (vl t' m) (wN b (.arr false t' (m++rows.drop (n+l.length))) s))
   |none=>none
   else none
  |_=>none
 |_=>none
theorem JGW{t:Ty}{bytes:Nat}{x y:TV}{d:Option Nat}{s:TSt}{k:TSt->Option R}{r:R}(h:mg t bytes x y d s k=some r):Ok (rJ t.sz bytes (JR (lns s.sto) x) (JR (lns s.sto) y)) d s k r:=by
 unfold mg at h;split at h;rename_i b n;split at h;rename_i t' rows j;split at h;rename_i o;subst o;split at h;rename_i l q;obtain⟨m,h1,h⟩:=bF.1 h;unfold FM at h1;split at h1;rename_i hc;injection h1 with h1;subst h1;refine LW (x:=.arr false t' (rows.take n++l++rows.drop (n+l.length))) (v:=vl t' (rows.take n++l)) ?_ h;have g:(Jw s).sto[b]?=some (.arr true t'.sz (rows.map (cel t'))):=by rw[dH,j];rfl
 have e:JR (lns s.sto) (.a (.c (.pre b n)))=.pre b (lns s.sto b) n:=rfl;simp only[e,iY j,rJ,cS,g,JQ,run_bind,NQ q,dP,hc,and_self,if_true,JX,e_l,NC,wJ,TT,List.map_drop];cases h1;cases h;cases h;cases h;cases h
def kv(t:Ty)(bytes:Nat)(y:TV)(d:Option Nat)(new:Nat)(s:TSt)(k:TSt->Option R):Option R:=
 match tls t y s with
 |some l=>(cA bytes l).bind λm=>k (bA d (.a (.c (.slr new))) (wN new (.arr true t m) s))
 |none=>none
theorem JHg(F:Orc){t:Ty}{bytes:Nat}{z:List PV}{y:TO}{e:TV}{d:Option Nat}{new:Nat}{s:TSt}{k:TSt->Option R}{r:R}(hy:tev y s=some e)(hn:new<s.sto.length)(h:kv t bytes e d new s k=some r):Ok (opR F (.appn t.sz bytes z (erO y)) new) d s k r:=by
 unfold kv at h;split at h;rename_i l g;obtain⟨m,h1,j⟩:=bF.1 h;obtain⟨h2,rfl⟩:=JGN h1;refine YF hn ?_ j;simp only[opR,run_bind,bQ hy,JQ,NQ g,dP,h2,if_true,JX];cases h
def tbn(x:Option TO)(s:TSt):Option (Option (IntKind×Int)):=
 match x with
 |none=>some none
 |some o=>match tev o s with|some (.a (.c (.d (.i k) n)))=>some (some (k,n))|_=>none
def bv(x:Option (IntKind×Int)):Option AV:=x.map λy=>.p (.i y.1 y.2)
theorem CC{x:Option TO}{s:TSt}{y:Option (IntKind×Int)}(h:tbn x s=some y):(evo (x.map erO)).run (Jw s)=some (bv y):=by
 cases x with
 |none=>injection h with h;subst h;rfl
 |some o=>
  simp only[tbn]at h;split at h;rename_i k n e;injection h with h;subst h;simp only[cH,evo,run_bind,bQ e,JQ,JX,bv,e_i];cases h
theorem JMd(x:Option (IntKind×Int))(top d:Nat):lZ (bv x) top d=BA (x.map (·.2)) top d:=by cases x<;>rfl
theorem C0(n:Nat)(lo hi:Option (IntKind×Int)):mS n (bv lo) (bv hi)=xG n (lo.map (·.2)) (hi.map (·.2)):=by
 grind [mS,xG,JMd]
inductive TSK where|str|sl (t:Ty)
def erK:TSK->SK| .str=>.str| .sl t=>.sl t.sz
def jj(t:Ty)(x:TV)(s:TSt)(kk:List t.D->TSt->Option R):Option R:=
 match x with
 | .a (.c (.d (.l t') l))=>if h:t'=t then kk (h▸l) s else none
 | .a (.c (.slr b))=>match s.sto[b]? with|some (.arr _ t' rows)=>if h:t'=t then kk (h▸rows) (wS b (.arr false t' rows) s)else none|_=>none
 |_=>none
theorem JKk{t:Ty}{x:TV}{s:TSt}{kk:List t.D->TSt->Option R}{r:R}(h:jj t x s kk=some r):
  ∃l s' ws,Fzd s s' ws/\kk l s'=some r/\((JR (lns s.sto) x=.p (.sl t.sz (l.map (cel t)))/\ws=[])\/
   ∃b,JR (lns s.sto) x=.slr b 0 l.length/\(fz (.slr b 0 l.length)).run (Jw s)=some ([.sl t.sz (l.map (cel t))],ws)):=by
 unfold jj at h;split at h;grind [Fzd.refl,e_l];rename_i b;split at h;rename_i w t' rows e;split at h;rename_i g;subst g;refine⟨_,_,_,YV e,h,.inr ⟨b,by rw[fN,iY e],?_⟩⟩;simp_all [dH,aT];cases h;cases h;cases h
def XA(e:TSK)(x:TV)(lo hi mx:Option (IntKind×Int))(d:Option Nat)(s:TSt)(k:TSt->Option R):Option R:=
 match e with
 | .str=>match x,mx with| .a (.c (.d .s l)),none=>(bC l (lo.map (·.2)) (hi.map (·.2))).bind λq=>k (bA d (vs q) s)|_,_=>none
 | .sl t=>jj t x s λl s1=>match mx with|none=>(bC l (lo.map (·.2)) (hi.map (·.2))).bind λq=>k (bA d (vl t q) s1)|some (_,n)=>match lo,hi with|none,some (_,h)=>if h=l.length/\n=l.length then k (bA d (.a (.c (.sc t l))) s1)else none|_,_=>none
theorem Ew{α:Type}{l q:List α}{lo hi:Option Int}(h:bC l lo hi=some q): ∃c,xG l.length lo hi=some c/\q=(l.drop c.1).take (c.2-c.1):=by
 grind [bC]
theorem JFV(F:Orc){n:TSK}{x:TO}{j:TV}{lo hi mx:Option TO}{l g m:Option (IntKind×Int)}{d:Option Nat}{new:Nat}{s:TSt}{k:TSt->Option R}{r:R}(hx:tev x s=some j)(hl:tbn lo s=some l)(hh:tbn hi s=some g)(hm:tbn mx s=some m)
  (h:XA n j l g m d s k=some r):Ok (opR F (.slice (erK n) (erO x) (lo.map erO) (hi.map erO) (mx.map erO)) new) d s k r:=by
 unfold XA at h;split at h;split at h;rename_i z;obtain⟨q,h1,h⟩:=bF.1 h;obtain⟨c,hc,rfl⟩:=Ew h1;refine eX (v:=vs _) ?_ h;have o:bv none=none:=rfl;simp only[opR,run_bind,bQ hx,CC hl,CC hh,CC hm,JQ,e_s,erK,o,jS,uQ,val,C0,hc,JX];cases h;rename_i t;obtain⟨y,s1,ws,f,h,B⟩:=JKk h;have e: ∀(res:AV),jS (.sl t.sz) (.p (.sl t.sz (y.map (cel t)))) (bv l) (bv g) (bv m)=some res->
   (opR F (.slice (erK (.sl t)) (erO x) (lo.map erO) (hi.map erO) (mx.map erO)) new).run (Jw s)=some ⟨res,ws⟩:=by
  intro res A;simp only[opR,run_bind,bQ hx,CC hl,CC hh,CC hm,JQ,erK];grind [val,JX,run_bind]
 split at h;obtain⟨q,h2,h⟩:=bF.1 h;obtain⟨c,hc,rfl⟩:=Ew h2;refine XE (v:=vl t _) f (e _ ?_) h;grind [bv,jS,uO,C0,e_l,List.map_take,List.map_drop];split at h;split at h;rename_i w;refine XE (v:=.a (.c (.sc t y))) f (e _ ?_) h;simp only[bv,Option.map_none,cH,jS,MR,dP,w,and_self,if_true];rfl;cases h;cases h
end
end Go.Am
end
section
namespace Go.Am
section
variable {R:Type}
def RV(t:Ty):List (Nat×TO)->TSt->TSt->(List (Nat×t.D)->TSt->Option R)->Option R|[],_,s,k=>k [] s|(i,o)::r,s0,s,k=>match tev o s0 with|some v=>tfz t v s λz s'=>RV t r s0 s' λl e=>k ((i,z)::l) e|none=>none
theorem Fc{t:Ty}: ∀{parts:List (Nat×TO)} {s0 s:TSt} {w0:List (Nat×Blk)} {k:List (Nat×t.D)->TSt->Option R} {r:R},Fzd s0 s w0->RV t parts s0 s k=some r->
  ∃l s' ws,(fzs (parts.map λx=>erO x.2)).run (Jw s0)=some (l.map λx=>cel t x.2,ws)/\Fzd s0 s' (w0++ws)/\l.map (·.1)=parts.map (·.1)/\k l s'=some r
 |[],s0,s,w0,k,r,f,h=>⟨[],s,[],rfl,by simp_all,rfl,h⟩
 |(i,o)::q,s0,s,w0,k,r,f,h=>by
  simp only[RV]at h;split at h;rename_i v w;obtain⟨z,s1,j,h1,e,h⟩:=Cd f h;obtain⟨l,g,y,h2,A,n,h⟩:=Fc e h;refine⟨(i,z)::l,g,j++y,?_,by simp_all,by simp[n],h⟩;simp only[bP,fzs,run_bind,bQ w,JQ,h1,h2,JX];cases h
def NG{α:Type}:List (Nat×α)->List α->Option (List α)|[],rows=>some rows|(i,c)::r,rows=>if i<rows.length then NG r (rows.set i c)else none
theorem qs{t:Ty}: ∀{l:List (Nat×t.D)} {rows rows':List t.D},NG l rows=some rows'->
  yF t.sz ((l.map (·.1)).zip (l.map λx=>cel t x.2)) (rows.map (cel t))=some (rows'.map (cel t))/\rows'.length=rows.length
 |[],rows,rows',h=>by injection h with h;simp_all
 |(i,c)::q,rows,rows',h=>by
  simp only[NG]at h;split at h;rename_i e;obtain⟨h1,h2⟩:=qs h;simp_all [dV];cases h
def l4(own:Bool)(t:Ty)(n:Nat)(parts:List (Nat×TO))(d:Option Nat)(new:Nat)(s:TSt)(k:TSt->Option R):Option R:=
 RV t parts s s λl s1=>match NG l (List.replicate n t.zero)with|some rows=>if own=true then k (bA d (.a (.c (.slr new))) (wN new (.arr true t rows) s1))else k (bA d (vl t rows) s1)|none=>none
theorem JHr(F:Orc){own:Bool}{t:Ty}{n:Nat}{parts:List (Nat×TO)}{d:Option Nat}{new:Nat}{s:TSt}{k:TSt->Option R}{r:R}(hn:own=true->new<s.sto.length)
  (h:l4 own t n parts d new s k=some r):Ok (opR F (.lits own t.sz n (cel t t.zero) (parts.map λx=>(x.1,erO x.2))) new) d s k r:=by
 unfold l4 at h;obtain⟨l,s1,ws,h1,f,h2,e⟩:=Fc (Fzd.refl s) h;rw[jE]at f;clear h;split at e;rename_i rows o;obtain⟨j,q⟩:=qs o;rw[GB]at q;rw[TH]at j;have z:(parts.map λx=>(x.1,erO x.2)).map (·.2)=parts.map λx=>erO x.2:=by simp
 have y:(parts.map λx=>(x.1,erO x.2)).map (·.1)=l.map (·.1):=by rw[h2];simp
 split at e;rename_i g;subst g;have w:new<s1.sto.length:=(by have:=congrArg (λst=>st.sto.length) f.2.2.1;grind [Jw,yD]);refine⟨⟨JR (lns (wN new (.arr true t rows) s1).sto) (.a (.c (.slr new))),ws++[(new,.arr true t.sz (rows.map (cel t)))]⟩,_,?_,qD ?_ d _,e⟩;grind [fN,YZ,opR,run_bind,JX];rw[Bx,f.2.2.1,eM];rfl;rename_i g;have:own=false:=by simpa using g
 subst this;refine XE (v:=vl t rows) f ?_ e;grind [opR,run_bind,JX,e_l];cases e
def nC(s:TSt):Nat->Nat->Bool
 |_,0=>true
 |new,k+1=>(match s.sto[new]? with
  |some .dead=>true
  |_=>false)&&nC s (new+1) k
theorem n5{s:TSt}: ∀{k new:Nat},nC s new k=true->(rS new k).run (Jw s)=some ()
 |0,_,_=>rfl
 |k+1,new,h=>by
  simp only[nC,JW]at h;obtain⟨h1,h2⟩:=h;split at h1;rename_i hd;simp only[rS,cS,dH,hd,cH,JQ,aT];exact n5 h2;cases h1
theorem uZ{s:TSt}: ∀{k new:Nat},nC s new k=true-> ∀j,j<k->s.sto[new+j]?=some .dead
 |0,_,_,j,hj=>by omega
 |k+1,new,h,j,hj=>by
  simp only[nC,JW]at h;obtain⟨h1,h2⟩:=h;cases j with
  |zero=>
   grind
  |succ j=>
   have:=uZ h2 j (by omega);grind
theorem YO{m:RM Eff}{d:Option Nat}{s:TSt}{k:TSt->Option R}{r:R}{new:Nat}{x:TB}(hd:s.sto[new]?=some .dead)(h0:lnB x=0)
  (hm:m.run (Jw s)=some ⟨.ptr new 0,[(new,aT (lns s.sto) x)]⟩) (h:k (bA d (.a (.c (.ptr new []))) (wS new x s))=some r):Ok m d s k r:=by
 refine GK (x:=x) (v:=.a (.c (.ptr new []))) (h0.trans (yG hd).symm) ?_ h;rw[hm];rfl
def Fa(t:Ty)(d:Option Nat)(new:Nat)(s:TSt)(k:TSt->Option R):Option R:=k (bA d (.a (.c (.ptr new []))) (wS new (.box t t.zero) s))
theorem JDe(F:Orc){t:Ty}{d:Option Nat}{new:Nat}{s:TSt}{k:TSt->Option R}{r:R}(hd:s.sto[new]?=some .dead)(h:Fa t d new s k=some r):Ok (opR F (.newbox (cel t t.zero)) new) d s k r:=
 YO hd (x:=.box t t.zero) rfl rfl h
def jc(t:Ty)(x:TV)(d:Option Nat)(new:Nat)(s:TSt)(k:TSt->Option R):Option R:=
 match tdv t x with
 |some z=>if agv x=true\/t.sz=1 then k (bA d (.a (.c (.ptr new []))) (wS new (.box t z) s))else none
 |none=>match tcs x with|some cs=>if cs.length=t.sz then k (bA d (.a (.c (.ptr new []))) (wS new (.mbox t cs) s))else none|none=>none
theorem JJt(F:Orc){t:Ty}{x:TO}{v:TV}{d:Option Nat}{new:Nat}{s:TSt}{k:TSt->Option R}{r:R}(hd:s.sto[new]?=some .dead)(hx:tev x s=some v)(h:jc t v d new s k=some r):Ok (opR F (.box t.sz (erO x)) new) d s k r:=by
 unfold jc at h;split at h;rename_i z j;split at h;rename_i e;refine YO hd (x:=.box t z) rfl ?_ h;simp only[opR,run_bind,bQ hx,JQ,fg (lns s.sto) j e,dP,dV,if_true,JX,aT];cases h;split at h;rename_i cs hc;split at h;rename_i g;refine YO hd (x:=.mbox t cs) rfl ?_ h;simp only[opR,run_bind,bQ hx,JQ,HY (lns s.sto) hc,dP,g,if_true,JX,aT];cases h;cases h
def oN:List (Nat×Ty)->Nat->TSt->TSt|[],_,s=>s|(_,t)::r,n,s=>oN r (n+1) (wS n (.arr true t []) s)
def wR:List (Nat×Ty)->Nat->List TC->List TC|[],_,cs=>cs|(off,_)::r,n,cs=>wR r (n+1) (cs.set off (.slr n))
def kM(os:List (Nat×Ty)):List (Nat×Nat):=os.map λx=>(x.1,x.2.sz)
theorem ZY: ∀{os:List (Nat×Ty)} {new:Nat} {s:TSt},(∀j,j<os.length->s.sto[new+j]?=some .dead)->
  lns (oN os new s).sto=lns s.sto/\Jw (oN os new s)=⟨(Jw s).env,upd (gJ (kM os) new) (Jw s).sto⟩/\(∀b,(∀j,j<os.length->b≠new+j)->(oN os new s).sto[b]?=s.sto[b]?)
 |[],_,s,_=>⟨rfl,rfl,λ_ _=>rfl⟩
 |(off,t)::q,new,s,h=>by
  have hd:s.sto[new]?=some .dead:=h 0 (by simp);have k:lnB (.arr true t [])=lns s.sto new:=(yG hd).symm;have e:=CN k;have g: ∀c,c≠new->(wS new (.arr true t []) s).sto[c]?=s.sto[c]?:=λc hc=>by grind [wS]
  obtain⟨h1,h2,r⟩:=ZY (os:=q) (new:=new+1) (s:=wS new (.arr true t []) s) (λj o=>by
   rw[g _ (by omega)];have:=h (j+1) (by simp;omega);grind)
  refine⟨h1.trans e,?_,λb n=>?_⟩;simp only[oN];rw[h2,xO k];simp only[kM,bP,gJ];rfl;simp only[oN];rw[r b (λj o=>by have:=n (j+1) (by simp;omega);omega),g b (by have:=n 0 (by simp);omega)]
theorem ZQ{L:Nat->Nat}: ∀{os:List (Nat×Ty)} {new:Nat} {cs:List TC},(∀j,j<os.length->L (new+j)=0)->(wR os new cs).map (aX L)=lJ (kM os) new (cs.map (aX L))
 |[],_,_,_=>rfl
 |(off,t)::q,new,cs,h=>by
  simp only[wR,kM,bP,lJ];rw[ZQ (os:=q) (new:=new+1) (λj e=>by have:=h (j+1) (by simp;omega);grind),List.map_set];have:aX L (.slr new)=.slr new 0 0:=by simp only[aX];rw[show L new=0 from h 0 (by simp)]
  rw[this];rfl
def dg(t:Ty)(os:List (Nat×Ty))(d:Option Nat)(new:Nat)(s:TSt)(k:TSt->Option R):Option R:=k (bA d (.a (.c (.ptr (new+os.length) []))) (wS (new+os.length) (.mbox t (wR os new (zcs t))) (oN os new s)))
theorem JAS(F:Orc){t:Ty}{os:List (Nat×Ty)}{d:Option Nat}{new:Nat}{s:TSt}{k:TSt->Option R}{r:R}(hd:nC s new (os.length+1)=true)(h:dg t os d new s k=some r):
  Ok (opR F (.newboxo (cel t t.zero) (kM os)) new) d s k r:=by
 unfold dg at h;generalize hc:zcs t=cs at h;have g:=uZ hd;obtain⟨h1,h2,q⟩:=ZY (os:=os) (new:=new) (s:=s) (λj o=>g j (by omega));have n:lnB (.mbox t (wR os new cs))=lns (oN os new s).sto (new+os.length):=by rw[h1,yG (g os.length (by omega))];rfl
 have e:=CN n;have el:(kM os).length=os.length:=by simp[kM]
 refine⟨⟨JR (lns (wS (new+os.length) (.mbox t (wR os new cs)) (oN os new s)).sto) (.a (.c (.ptr (new+os.length) []))),gJ (kM os) new++[(new+os.length,.box (lJ (kM os) new ((cel t t.zero).map .p)))]⟩,_,?_,qD ?_ d _,h⟩;simp only[opR,JX,el];rfl;rw[xO n,h2,eM];simp only[aT];rw[ZQ (λj o=>by rw[h1];grind [yG]),<-hc,CL];rfl
def ZP(t:Ty)(parts:List (Nat×Ty×TO))(os:List (Nat×Ty))(d:Option Nat)(new:Nat)(s:TSt)(k:TSt->Option R):Option R:=
 match tpc parts s with
 |some l=>match GI l (wR os new (zcs t))with
  |some cs'=>match mka true t cs' with|some v=>k (bA d v (oN os new s))|none=>none
  |none=>none
 |none=>none
theorem JD7(F:Orc){t:Ty}{parts:List (Nat×Ty×TO)}{os:List (Nat×Ty)}{d:Option Nat}{new:Nat}{s:TSt}{k:TSt->Option R}{r:R}(hd:nC s new os.length=true)(h:ZP t parts os d new s k=some r):
  Ok (opR F (.buildo (cel t t.zero) (erP parts) (kM os)) new) d s k r:=by
 unfold ZP at h;split at h;rename_i l w;have e:=uZ hd;obtain⟨h1,h2,x⟩:=ZY (os:=os) (new:=new) (s:=s) (λj o=>e j (by omega));split at h;rename_i cs' g;split at h;rename_i v y;refine⟨⟨JR (lns (oN os new s).sto) v,gJ (kM os) new⟩,_,?_,qD h2 d _,h⟩;have n:=ZQ (L:=lns s.sto) (os:=os) (new:=new) (cs:=zcs t) (λj o=>yG (e j (by omega)));rw[CL]at n;have q:=dj (lns s.sto) g;grind [opR,run_bind,XW,CI,JX];cases h;cases h;cases h
def Cb(t:Ty)(d:Option Nat)(new:Nat)(s:TSt)(k:TSt->Option R):Option R:=k (bA d (.a (.c (.slr new))) (wN new (.arr true t []) s))
theorem JFi(F:Orc){t:Ty}{x:Opd}{d:Option Nat}{new:Nat}{s:TSt}{k:TSt->Option R}{r:R}(hn:new<s.sto.length)(h:Cb t d new s k=some r):Ok (opR F (.mkarr t.sz x) new) d s k r:=
 YF (rows:=[]) hn rfl h
def tyB:Option TB->Ty|some (.box t _)=>t|some (.mbox t _)=>t|_=>.u
def ZI(t:Ty)(x:TV)(d:Option Nat)(new:Nat)(s:TSt)(k:TSt->Option R):Option R:=
 match x with
 | .a (.c (.ptr b p))=>match rK p,(match s.sto[b]? with
   |some (.box t0 y)=>wY t0 y
   |some (.mbox _ cs)=>some cs
   |_=>none)with
  |some off,some cs=>match spl cs off [.slr new]with|some cs'=>k (bA d uv (wS b (.mbox (tyB s.sto[b]?) cs') (wS new (.arr true t []) s)))|none=>none
  |_,_=>none
 |_=>none
theorem JD6(F:Orc){t:Ty}{x:TO}{v:TV}{d:Option Nat}{new:Nat}{s:TSt}{k:TSt->Option R}{r:R}(hd:s.sto[new]?=some .dead)(hx:tev x s=some v)(h:ZI t v d new s k=some r):Ok (opR F (.storen t.sz (erO x)) new) d s k r:=by
 unfold ZI at h;split at h;rename_i b p;split at h;rename_i off cs A hc;split at h;rename_i cs' E;have o:lnB (.arr true t [])=lns s.sto new:=(yG hd).symm;have n:b≠new/\lns s.sto b=0/\(Jw s).sto[b]?=some (.box (cs.map (aX (lns s.sto)))):=(by split at hc;rename_i t0 y g;refine⟨λe=>?_,NX g,?_⟩;simp_all;rw[dH,g,IB _ hc];rfl;rename_i t0 D g;injection hc with hc;subst hc;refine⟨λe=>?_,oq g,?_⟩;simp_all;rw[dH,g];rfl;cases hc);obtain⟨C,w,g⟩:=n;have q:=CN o;have j:lnB (.mbox (tyB s.sto[b]?) cs')=lns (wS new (.arr true t []) s).sto b:=by rw[q,w];rfl
 refine⟨⟨JR (lns (wS b (.mbox (tyB s.sto[b]?) cs') (wS new (.arr true t []) s)).sto) uv,(new,.arr true t.sz [])::[(b,.box (cs'.map (aX (lns s.sto))))]⟩,_,?_,qD ?_ d _,h⟩;have z:aX (lns s.sto) (.slr new)=.slr new 0 0:=by grind [aX,yG]
 have B:spl (cs.map (aX (lns s.sto))) (spo p) [.slr new 0 0]=some (cs'.map (aX (lns s.sto))):=by rw[<-z,CE A];have:=CX (aX (lns s.sto)) cs off [TC.slr new];simp_all
 simp only[opR,run_bind,bQ hx,JQ,jP,hC,cS,g,cellsOf,tM,List.length_nil,jI,if_true,B,JX];rfl;rw[xO j,xO o,q];rfl;cases h;cases h;cases h
def lf(c:Bool)(a b:Option TV)(kk:TV->Option R):Option R:=
 match a,b with
 |some (.a (.c (.d t x))),some (.a (.c (.d t' y)))=>if h:t'=t then kk (.a (.c (.d t (Z3 c x (h▸y)))))else none
 |some x,some y=>if c=true then kk x else kk y
 |some x,none=>if c=true then kk x else none
 |none,some y=>if c=true then none else kk y
 |none,none=>none
theorem JIK(F:Orc){c a b:TO}{x:Bool}{d:Option Nat}{new:Nat}{s:TSt}{k:TSt->Option R}{r:R}(hc:tev c s=some (vb x))(h:lf x (tev a s) (tev b s) (λv=>k (bA d v s))=some r):Ok (opR F (.pick (erO c) (erO a) (erO b)) new) d s k r:=by
 have e: ∃v,(if x=true then tev a s else tev b s)=some v/\k (bA d v s)=some r:=by
  unfold lf at h;split at h;rename_i t y t' z n j;split at h;rename_i g;subst g;refine⟨_,?_,h⟩;rw[n,j];cases x<;>rfl
  cases h
  all_goals grind
 obtain⟨v,h1,h2⟩:=e;refine eX (v:=v) ?_ h2;simp only[opR,run_bind,bQ hc,JQ,e_b];grind [run_bind,bQ,JX]
def km(x:TV)(kk:TV->Option R):Option R:=
 match x with
 | .a (.c (.ptr b p))=>kk (.a (.c (.ptr b p)))
 | .a (.c (.cp t y p))=>kk (.a (.c (.cp t y p)))
 | .a (.c (.ep b i p))=>kk (.a (.c (.ep b i p)))
 | .a (.fn f a c)=>kk (.a (.fn f a c))
 | .a (.c (.fn f))=>kk (.a (.c (.fn f)))
 |_=>none
theorem JJx(F:Orc){x:TO}{v:TV}{d:Option Nat}{new:Nat}{s:TSt}{k:TSt->Option R}{r:R}(hx:tev x s=some v)(h:km v (λv=>k (bA d v s))=some r):Ok (opR F (.nilchk (erO x)) new) d s k r:=by
 unfold km at h;split at h<;>first
  |(refine eX (v:=_) ?_ h
    simp only[opR,run_bind,bQ hx,JQ,jP,lN,lI,Al,Bf,JX];done)
  |cases h
end
end Go.Am
end
section
namespace Go.Am
section
variable {R:Type}
def jb(keep:Bool)(v:TV)(s:TSt)(kk:TA->TSt->Option R):Option R:=
 match v with
 | .a x=>if keep=true then kk x s else
  match x with
  | .c (.slr b)=>match s.sto[b]? with|some (.arr _ t' rows)=>kk (.c (.d (.l t') rows)) (wS b (.arr false t' rows) s)|_=>none
  | .c (.slo _ _)=>none
  | .c (.suf _ _)=>none
  | .c (.suo _ _ _)=>none
  | .m t cs=>fzC t cs s λx s'=>kk (.dt t x) s'
  |x=>kk x s
 | .tup _=>none
def GF:List (TV×Bool)->TSt->(List TA->TSt->Option R)->Option R|[],s,kk=>kk [] s|(v,keep)::r,s,kk=>jb keep v s λx s=>GF r s λl s=>kk (x::l) s
theorem JKd{keep:Bool}{v:TV}{s0 s:TSt}{w0:List (Nat×Blk)}{kk:TA->TSt->Option R}{r:R}(f:Fzd s0 s w0)(h:jb keep v s kk=some r):
  ∃x s' ws,(if keep=true then RM.ret (JR (lns s0.sto) v,[])else iG (JR (lns s0.sto) v)).run (Jw s0)=some (bN (lns s0.sto) x,ws)/\Fzd s0 s' (w0++ws)/\kk x s'=some r:=by
 unfold jb at h;split at h;rename_i x;split at h;rename_i g;subst g;exact⟨x,s,[],rfl,by simp_all,h⟩;rename_i g;have:keep=false:=by simpa using g
 subst this;simp only[dU,if_false];split at h;rename_i b;split at h;rename_i w t' rows j;obtain⟨w',e⟩:=f.2.2.2.1 b _ rows w j;refine⟨_,_,[(b,.arr false t'.sz (rows.map (cel t')))],?_,f.trans (YV j),h⟩;simp only[fN,iG,fz,run_bind,cS,dH,e,cH,JQ,aT,iY e,dP,jI,if_true,wX,JX];rfl;cases h;cases h;cases h;cases h;obtain⟨y,s',ws,h1,h2,k⟩:=HV f h;refine⟨_,s',ws,?_,h2,k⟩;simp only[e_m,iG,fz,run_bind,h1,JQ,JX];rfl;rename_i A B q z o;refine⟨x,s,[],?_,by simp_all,h⟩;cases x with
 |c x=>
  cases x with
  |slr b=>simp_all
  |slo b n=>simp_all
  |suf b i=>simp_all
  |suo b i n=>simp_all
  |_=>rfl
 |m t cs=>simp_all
 |_=>rfl
 cases h
theorem cv: ∀{vs:List (TV×Bool)} {s0 s:TSt} {w0:List (Nat×Blk)} {kk:List TA->TSt->Option R} {r:R},Fzd s0 s w0->GF vs s kk=some r->
  ∃xs s' ws,(eT (vs.map (·.2)) (vs.map λx=>JR (lns s0.sto) x.1)).run (Jw s0)=some (xs.map (bN (lns s0.sto)),ws)/\Fzd s0 s' (w0++ws)/\kk xs s'=some r
 |[],s0,s,w0,kk,r,f,h=>⟨[],s,[],rfl,by simp_all,h⟩
 |(v,keep)::q,s0,s,w0,kk,r,f,h=>by simp only[GF]at h;obtain⟨x,s1,j,h1,e,h⟩:=JKd f h;obtain⟨xs,g,k,h2,n,h⟩:=cv e h;refine⟨x::xs,g,j++k,?_,by simp_all,h⟩;cases keep<;>simp_all [eT]
theorem QI: ∀(vs:List AV),eT [] vs=jK vs|[]=>rfl|x::r=>by simp only[eT,jK,QI r]
theorem KK: ∀(m:List Bool) (vs:List AV),(∀x∈m,x=false)->eT m vs=jK vs|[],vs,_=>QI vs|b::m,[],_=>rfl|b::m,x::r,h=>by have:b=false:=h b (by simp);subst this;simp only[eT,jK,KK m r (λx e=>h x (by simp[e]))]
def FQ(b:Nat)(l:List Nat):List Nat:=if l.any (λx=>x==b)=true then l else l++[b]
def MA(x:TC)(l:List Nat):Option (List Nat):=
 match x with
 | .ptr b _=>some (FQ b l)
 | .slr b=>some (FQ b l)
 | .slo b _=>some (FQ b l)
 | .ep _ _ _=>none
 | .epo _ _ _ _=>none
 | .suf _ _=>none
 | .suo _ _ _=>none
 |_=>some l
def tX:List TC->List Nat->Option (List Nat)|[],l=>some l|x::r,l=>match MA x l with|some l=>tX r l|none=>none
def mb(x:TA)(l:List Nat):Option (List Nat):=
 match x with
 | .c x=>MA x l
 | .dt _ _=>some l
 | .m _ cs=>tX cs l
 | .fn _ a c=>match tX a l with|some l=>tX c l|none=>none
def CH:List TA->List Nat->Option (List Nat)|[],l=>some l|x::r,l=>match mb x l with|some l=>CH r l|none=>none
def tZ(s:TSt):List Nat->List Nat->Option (List Nat)
 |[],acc=>some acc
 |b::r,acc=>match s.sto[b]? with
  |some (.mbox _ cs)=>match tX cs acc with|some acc=>tZ s r acc|none=>none
  |some _=>tZ s r acc
  |none=>none
theorem F5(b:Nat)(l:List Nat):uP (.whole b) (l.map .whole)=(FQ b l).map .whole:=by
 grind [uP,FQ]
section
variable (L:Nat->Nat)
theorem o7{x:TC}{l g:List Nat}(h:MA x l=some g):cF (aX L x) (l.map .whole)=g.map .whole:=by
 unfold MA at h;split at h<;>first
  |(injection h with h;subst h;simp only[aX,cF,F5];done)
  |(cases h;done)
  |skip
 injection h with h;subst h;rename_i q r v w o j k;cases x with
 |ptr b p=>simp_all
 |slr b=>simp_all
 |slo b n=>simp_all
 |ep b i p=>simp_all
 |epo b e i p=>grind
 |suf b i=>grind
 |suo b i n=>grind
 |_=>rfl
theorem IN: ∀{xs:List TC} {l e:List Nat},tX xs l=some e->cF.entsOfL (xs.map (aX L)) (l.map .whole)=e.map .whole
 |[],l,e,h=>by injection h with h;subst h;rfl
 |x::r,l,e,h=>by
  simp only[tX]at h;split at h;rename_i g h1;simp only[bP,cF.entsOfL,o7 L h1];exact IN h;cases h
theorem JI9{x:TA}{l e:List Nat}(h:mb x l=some e):cF (bN L x) (l.map .whole)=e.map .whole:=by
 cases x with
 |c x=>exact o7 L h
 |dt t x=>injection h with h;subst h;rfl
 |m t cs=>exact IN L h
 |fn f a c=>
  simp only[mb]at h;split at h
  all_goals simp_all [bN,IN]
theorem PM: ∀{xs:List TA} {l e:List Nat},CH xs l=some e->cF.entsOfL (xs.map (bN L)) (l.map .whole)=e.map .whole
 |[],l,e,h=>by injection h with h;subst h;rfl
 |x::r,l,e,h=>by
  simp only[CH]at h;split at h;rename_i g h1;simp only[bP,cF.entsOfL,JI9 L h1];exact PM h;cases h
end
theorem de{s0 s1:TSt}{ws:List (Nat×Blk)}(f:Fzd s0 s1 ws){b:Nat}{y:TB}(h:s1.sto[b]?=some y):(pQ ws b).run (Jw s0)=some (aT (lns s0.sto) y):=by
 have h1:(Jw s1).sto[b]?=some (aT (lns s0.sto) y):=by rw[dH,h,f.2.1];rfl
 rw[f.2.2.1]at h1;grind [yD,uR,pQ,cS,JX]
theorem yH{s0 s1:TSt}{ws:List (Nat×Blk)}(f:Fzd s0 s1 ws): ∀{r acc l:List Nat},tZ s1 r acc=some l->(dS ws (r.map .whole) (acc.map .whole)).run (Jw s0)=some (l.map .whole)
 |[],acc,l,h=>by injection h with h;subst h;rfl
 |b::r,acc,l,h=>by
  simp only[tZ]at h;split at h;rename_i cs e;split at h;rename_i g j;simp only[bP,dS,run_bind,de f e,JQ,aT,IN (lns s0.sto) j];exact yH f h;cases h;rename_i x k e;simp only[bP,dS,run_bind,de f e,JQ];cases x with
  |mbox t cs=>simp_all
  |box t x=>simp only[aT];rw[qo];exact yH f h
  |_=>exact yH f h
  cases h
end
end Go.Am
end
section
namespace Go.Am
def kCs(K:List Nat)(L:Nat->Nat):TC->TC| .slr c=>if K.any (λx=>x==c)=true then .slo c (L c)else .slr c| .ep c i p=>if K.any (λx=>x==c)=true then .epo c (L c) i p else .ep c i p| .pre c k=>if K.any (λx=>x==c)=true then .pro c (L c) k else .pre c k| .suf c i=>if K.any (λx=>x==c)=true then .suo c (min i (L c)) (L c-i)else .suf c i|x=>x
def kAs(K:List Nat)(L:Nat->Nat):TA->TA| .c x=>.c (kCs K L x)| .dt t x=>.dt t x| .m t cs=>.m t (cs.map (kCs K L))| .fn f a c=>.fn f (a.map (kCs K L)) (c.map (kCs K L))
def kVs(K:List Nat)(L:Nat->Nat):TV->TV| .a x=>.a (kAs K L x)| .tup vs=>.tup (vs.map (kAs K L))
def kBs(K:List Nat)(L:Nat->Nat):TB->TB| .mbox t cs=>.mbox t (cs.map (kCs K L))|x=>x
section
variable {K:List Nat} {L L':Nat->Nat} (h: ∀c,K.any (λx=>x==c)=false->L' c=L c)
include h
theorem A1(x:TC):aX L' (kCs K L x)=aX L x:=by cases x<;>grind [kCs,aX]
theorem Br(xs:List TC):(xs.map (kCs K L)).map (aX L')=xs.map (aX L):=by
 grind [List.map_congr_left,A1]
theorem Zz(x:TA):bN L' (kAs K L x)=bN L x:=by cases x<;>simp only[kAs,bN,A1 h,Br h]
theorem Y0(x:TV):JR L' (kVs K L x)=JR L x:=by cases x<;>simp only[kVs,JR,Zz h,xF,Function.comp_def]
theorem Z1(x:TB):aT L' (kBs K L x)=aT L x:=by cases x<;>simp only[kBs,aT,Br h]
end
theorem JKy(K:List Nat)(L:Nat->Nat)(x:TB):lnB (kBs K L x)=lnB x:=by cases x<;>rfl
theorem JKb(sto:List TB)(K:List Nat)(L:Nat->Nat)(c:Nat):lns (sto.map (kBs K L)) c=lns sto c:=by
 unfold lns;rw[fB];cases sto[c]? with
 |none=>rfl
 |some x=>exact JKy K L x
def tP(ws:List (Nat×Bool×TB))(sto:List TB):List TB:=ws.foldl (λσ x=>σ.set x.1 x.2.2) sto
def mX(ws:List (Nat×Bool×TB))(s:TSt):TSt:=
 match ws with
 |[]=>s
 |ws=>
  let K:=(ws.filter λx=> !x.2.1).map (·.1)
  ⟨s.env.map λy=>(y.1,kVs K (lns s.sto) y.2),tP ws (s.sto.map (kBs K (lns s.sto)))⟩
theorem dy: ∀{ws:List (Nat×Bool×TB)} {sto:List TB} {c:Nat},c∉ws.map (·.1)->(tP ws sto)[c]?=sto[c]?|[],_,_,_=>rfl|x::ws,sto,c,h=>by simp only[bP,bX,not_or]at h;show(tP ws (sto.set x.1 x.2.2))[c]?=_;rw[dy h.2,EO (λe=>h.1 e.symm)]
theorem Dg: ∀{ws:List (Nat×Bool×TB)} {sto:List TB},(ws.map (·.1)).Nodup-> ∀x∈ws,x.1<sto.length->(tP ws sto)[x.1]?=some x.2.2
 |[],_,_,x,e,_=>by cases e
 |y::ws,sto,g,x,e,h=>by
  simp only[bP,List.nodup_cons]at g;show(tP ws (sto.set y.1 y.2.2))[x.1]?=_;rcases bX.1 e with rfl|e;grind [dy];exact Dg g.2 x e (by simpa using h)
theorem ov(f:TB->Blk): ∀(ws:List (Nat×Bool×TB)) (sto:List TB),(tP ws sto).map f=upd (ws.map λx=>(x.1,f x.2.2)) (sto.map f)
 |[],_=>rfl
 |x::ws,sto=>by show(tP ws (sto.set x.1 x.2.2)).map f=upd (ws.map λx=>(x.1,f x.2.2)) ((sto.map f).set x.1 (f x.2.2));rw[ov f ws,List.map_set]
theorem JKB{ws:List (Nat×Bool×TB)}{s:TSt}(hn:(ws.map (·.1)).Nodup)(hl: ∀x∈ws,x.1<s.sto.length)(hf: ∀x∈ws,x.2.1=true->lnB x.2.2=lns s.sto x.1):
  Jw (mX ws s)=⟨(Jw s).env,upd (ws.map λx=>(x.1,aT (lns (mX ws s).sto) x.2.2)) (Jw s).sto⟩/\ ∀x∈ws,lns (mX ws s).sto x.1=lnB x.2.2:=by
 cases ws with
 |nil=>exact⟨rfl,λx g=>by cases g⟩
 |cons x0 j=>
  generalize k:x0::j=ws at*;have e:mX ws s=⟨s.env.map λy=>(y.1,kVs ((ws.filter λx=> !x.2.1).map (·.1)) (lns s.sto) y.2),tP ws (s.sto.map (kBs ((ws.filter λx=> !x.2.1).map (·.1)) (lns s.sto)))⟩:=by subst k;rfl
  have h: ∀x∈ws,lns (mX ws s).sto x.1=lnB x.2.2:=λx g=>by rw[e];unfold lns;rw[Dg hn x g (by grind)];rfl
  have o: ∀c,((ws.filter λx=> !x.2.1).map (·.1)).any (λx=>x==c)=false->lns (mX ws s).sto c=lns s.sto c:=(by intro c hc;by_cases n:c∈ws.map (·.1);obtain⟨x,g,rfl⟩:=hX.1 n;grind;rw[e];have:=JKb s.sto ((ws.filter λx=> !x.2.1).map (·.1)) (lns s.sto) c;grind [lns,dy]);refine⟨?_,h⟩;generalize hL:lns (mX ws s).sto=L' at*;unfold Jw;rw[hL,e];grind [fF,List.map_congr_left,Y0,ov,Z1]
theorem Db(b:Nat): ∀(ids:List Nat) (k:Nat),cV (.whole b) (ids.map .whole) k=eE b ids k
 |[],_=>rfl
 |x::r,k=>by
  simp only[bP,cV,eE];by_cases h:x=b;subst h;simp;simp[h,Db b r (k+1)]
def MF(ids:List Nat):TC->Option TC| .ptr b p=>(eE b ids 0).bind λk=>some (.ptr k p)| .slr b=>(eE b ids 0).bind λk=>some (.slr k)| .slo b n=>(eE b ids 0).bind λk=>some (.slo k n)| .ep _ _ _=>none| .epo _ _ _ _=>none| .pre _ _=>none| .pro _ _ _=>none| .suf _ _=>none| .suo _ _ _=>none|x=>some x
def xM(ids:List Nat):List TC->Option (List TC)|[]=>some []|x::r=>match MF ids x,xM ids r with|some y,some l=>some (y::l)|_,_=>none
def GP(ids:List Nat):TA->Option TA
 | .c x=>match MF ids x with|some y=>some (.c y)|none=>none
 | .dt t x=>some (.dt t x)
 | .m t cs=>match xM ids cs with|some l=>some (.m t l)|none=>none
 | .fn f a c=>match xM ids a,xM ids c with|some a,some c=>some (.fn f a c)|_,_=>none
def NF(ids:List Nat):List TA->Option (List TA)|[]=>some []|x::r=>match GP ids x,NF ids r with|some y,some l=>some (y::l)|_,_=>none
def XK(ids:List Nat):TB->Option TB
 | .box t x=>some (.box t x)
 | .mbox t cs=>match xM ids cs with|some l=>some (.mbox t l)|none=>none
 | .arr w t rows=>some (.arr w t rows)
 | .dead=>none
def uW(ids:List Nat)(s:TSt):List Nat->Option (List TB)
 |[]=>some []
 |b::r=>match s.sto[b]? with
  |some x=>match XK ids x,uW ids s r with|some y,some l=>some (y::l)|_,_=>none
  |none=>none
section
variable {ids:List Nat} {L L':Nat->Nat} (hL: ∀b k,eE b ids 0=some k->L' k=L b)
include hL
theorem n8{x y:TC}(h:MF ids x=some y):ren (λe=>cV e (ids.map .whole) 0) (aX L x)=some (aX L' y):=by
 cases x<;>simp only[MF]at h<;>first
  |(obtain⟨k,g,h⟩:=bF.1 h
    injection h with h;subst h;simp only[aX,ren,Db,g,cH]
    try rw[hL _ _ g]
    done)
  |(injection h with h;subst h;rfl)
  |cases h
theorem PI: ∀{xs g:List TC},xM ids xs=some g->ren.renL (λe=>cV e (ids.map .whole) 0) (xs.map (aX L))=some (g.map (aX L'))
 |[],g,h=>by injection h with h;subst h;rfl
 |x::r,g,h=>by
  simp only[xM]at h;split at h;rename_i y l k j;injection h with h;subst h;simp only[bP,ren.renL,n8 hL k,PI j];cases h
theorem JHS{x y:TA}(h:GP ids x=some y):ren (λe=>cV e (ids.map .whole) 0) (bN L x)=some (bN L' y):=by
 cases x with
 |c x=>
  simp only[GP]at h;split at h;rename_i y g;injection h with h;subst h;exact n8 hL g;cases h
 |dt t x=>injection h with h;subst h;rfl
 |m t cs=>
  grind [GP,bN,ren,PI]
 |fn f a c=>
  grind [GP,bN,ren,PI]
theorem p7: ∀{xs g:List TA},NF ids xs=some g->ren.renL (λe=>cV e (ids.map .whole) 0) (xs.map (bN L))=some (g.map (bN L'))
 |[],g,h=>by injection h with h;subst h;rfl
 |x::r,g,h=>by
  simp only[NF]at h;split at h;rename_i y l k j;injection h with h;subst h;simp only[bP,ren.renL,JHS hL k,p7 j];cases h
theorem ra{s0 s1:TSt}{ws:List (Nat×Blk)}(f:Fzd s0 s1 ws)(j:lns s0.sto=L): ∀{k:List Nat} {bl:List TB},uW ids s1 k=some bl->
  (jU ws (λe=>cV e (ids.map .whole) 0) (k.map .whole)).run (Jw s0)=some (bl.map (aT L'))
 |[],bl,h=>by injection h with h;subst h;rfl
 |b::r,bl,h=>by
  simp only[uW]at h;split at h;rename_i x o;split at h;rename_i y l g q;injection h with h;subst h;have ih:=ra f j q;have n:=de f o;rw[j]at n;simp only[bP,jU,xK,run_bind,n,JQ];cases x with
  |dead=>cases g
  |box t x=>injection g with g;grind [px,VR,aT,JX]
  |mbox t cs=>
   grind [XK,aT,PI,JX]
  |arr w t rows=>injection g with g;grind [aT,JX]
  cases h;cases h
end
theorem se{ids:List Nat}{s:TSt}: ∀{g:List Nat} {bl:List TB},uW ids s g=some bl->bl.length=g.length/\ ∀(k b:Nat),g[k]?=some b->lns bl k=lns s.sto b
 |[],bl,h=>by injection h with h;simp_all
 |b::r,bl,h=>by
  simp only[uW]at h;split at h;rename_i x n;split at h;rename_i y l e o;injection h with h;subst h;obtain⟨h1,h2⟩:=se o;refine⟨by simp[h1],λk c j=>?_⟩;cases k with
  |zero=>
   simp at j;subst j;unfold lns;rw[n];show lnB y=lnB x;cases x with
   |dead=>cases e
   |box t x=>injection e with e;subst e;rfl
   |mbox t cs=>
    simp only[XK]at e;split at e;injection e with e;subst e;rfl;cases e
   |arr w t rows=>injection e with e;subst e;rfl
  |succ k=>
   grind [lns]
  cases h;cases h
def eR(ids:List Nat)(new m k:Nat):Option Nat:=if k<ids.length then ids[k]? else if k<m then some (new+(k-ids.length))else none
def SQ(ids:List Nat)(new m:Nat):TC->Option TC| .ptr k p=>(eR ids new m k).bind λb=>some (.ptr b p)| .slr k=>(eR ids new m k).bind λb=>some (.slr b)| .slo k n=>(eR ids new m k).bind λb=>some (.slo b n)| .ep k i p=>(eR ids new m k).bind λb=>some (.ep b i p)| .epo k e i p=>(eR ids new m k).bind λb=>some (.epo b e i p)| .pre _ _=>none| .pro _ _ _=>none| .suf _ _=>none| .suo _ _ _=>none|x=>some x
def xE(ids:List Nat)(new m:Nat):List TC->Option (List TC)|[]=>some []|x::r=>match SQ ids new m x,xE ids new m r with|some y,some l=>some (y::l)|_,_=>none
def UB(ids:List Nat)(new m:Nat):TA->Option TA
 | .c x=>match SQ ids new m x with|some y=>some (.c y)|none=>none
 | .dt t x=>some (.dt t x)
 | .m t cs=>match xE ids new m cs with|some l=>some (.m t l)|none=>none
 | .fn f a c=>match xE ids new m a,xE ids new m c with|some a,some c=>some (.fn f a c)|_,_=>none
def MP(ids:List Nat)(new m:Nat):List TA->Option (List TA)|[]=>some []|x::r=>match UB ids new m x,MP ids new m r with|some y,some l=>some (y::l)|_,_=>none
def kj(ids:List Nat)(new m:Nat):TV->Option TV
 | .a x=>match UB ids new m x with|some y=>some (.a y)|none=>none
 | .tup vs=>match MP ids new m vs with|some l=>some (.tup l)|none=>none
def xB(ids:List Nat)(new m:Nat):TB->Option TB
 | .box t x=>some (.box t x)
 | .mbox t cs=>match xE ids new m cs with|some l=>some (.mbox t l)|none=>none
 | .arr w t rows=>some (.arr w t rows)
 | .dead=>none
section
variable {ids:List Nat} {new m:Nat} {L Lp:Nat->Nat} (hL: ∀k b,eR ids new m k=some b->Lp b=L k)
theorem JMK{k b o:Nat}(h:eR ids new m k=some b):bk (ids.map .whole) new (.ptr k o)=some (.ptr b o):=by
 grind [eR,bk]
theorem JM0{k b i n:Nat}(h:eR ids new m k=some b):bk (ids.map .whole) new (.slr k i n)=some (.slr b i n):=by
 grind [eR,bk]
theorem JMY{k b e i o:Nat}(h:eR ids new m k=some b):bk (ids.map .whole) new (.ep k e i o)=some (.ep b e i o):=by
 grind [eR,bk]
include hL
theorem Dr{x y:TC}(h:SQ ids new m x=some y):bk (ids.map .whole) new (aX L x)=some (aX Lp y):=by
 cases x<;>simp only[SQ]at h<;>first
  |(obtain⟨b,e,h⟩:=bF.1 h
    injection h with h;subst h;simp only[aX,JMK e,JM0 e,JMY e,hL _ _ e]
    done)
  |(cases h;done)
  |(injection h with h;subst h;rfl)
theorem OH: ∀{xs e:List TC},xE ids new m xs=some e->bk.bkL (ids.map .whole) new (xs.map (aX L))=some (e.map (aX Lp))
 |[],e,h=>by injection h with h;subst h;rfl
 |x::r,e,h=>by
  simp only[xE]at h;split at h;rename_i y l j g;injection h with h;subst h;simp only[bP,bk.bkL,Dr hL j,OH g];cases h
theorem Eu{x y:TA}(h:UB ids new m x=some y):bk (ids.map .whole) new (bN L x)=some (bN Lp y):=by cases x<;>grind [UB,Dr,bN,bk,OH]
theorem nh: ∀{xs e:List TA},MP ids new m xs=some e->bk.bkL (ids.map .whole) new (xs.map (bN L))=some (e.map (bN Lp))
 |[],e,h=>by injection h with h;subst h;rfl
 |x::r,e,h=>by
  simp only[MP]at h;split at h;rename_i y l j g;injection h with h;subst h;simp only[bP,bk.bkL,Eu hL j,nh g];cases h
theorem JJp{x y:TV}(h:kj ids new m x=some y):bk (ids.map .whole) new (JR L x)=some (JR Lp y):=by cases x<;>grind [kj,Eu,JR,bk,nh]
end
end Go.Am
end
section
namespace Go.Am
structure TG where
 go: ∀{R:Type},FuncId->List TA->List TB->(TV->List (Bool×TB)->Option R)->Option R
def oC(out:List (Bool×TB)):Nat->Nat:=lns (out.map (·.2))
structure GOk(F:Orc)(G:TG):Prop where
 ok: ∀{R:Type} {f:FuncId} {xs:List TA} {bl:List TB} {kk:TV->List (Bool×TB)->Option R} {r:R},G.go f xs bl kk=some r->
  ∃v out,F f (xs.map (bN (lns bl))) (bl.map (aT (lns bl)))=some (JR (oC out) v,out.map λx=>aT (oC out) x.2)/\
   (∀(k:Nat) x,out[k]?=some (true,x)->k<bl.length->lnB x=lns bl k)/\kk v out=some r
def oL(ids:List Nat)(new m:Nat):Nat->List (Bool×TB)->Option (List (Nat×Bool×TB))|_,[]=>some []|k,(s,x)::r=>match eR ids new m k,xB ids new m x,oL ids new m (k+1) r with|some b,some y,some l=>some ((b,s&&decide (k<ids.length),y)::l)|_,_,_=>none
section
variable {R:Type}
def li(e:Bool)(a b n:Nat):Bool:=if e=true then decide (a<=b/\b<=a+n)else decide (b=a+n)
theorem JFL{e:Bool}{a b n:Nat}(h:li e a b n=true):(if e=true then a<=b/\b<=a+n else b=a+n)/\a<=b/\b<=a+n:=by
 grind [li]
def BL(G:TG)(f:FuncId)(args:List (TV×Bool))(e:Bool)(n:Nat)(d:Option Nat)(new:Nat)(s:TSt)(kk:TSt->Option R):Option R:=
 GF args s λxs s1=>
 match CH xs []with
 |none=>none
 |some g=>match tZ s1 g g with
  |none=>none
  |some i1=>match tZ s1 i1 i1 with
   |none=>none
   |some ids=>if iT ids=true then
    match NF ids xs,uW ids s1 ids with
    |some j,some bl=>G.go f j bl λv out=>
     if li e ids.length out.length n=true then
      match kj ids new out.length v,oL ids new out.length 0 out with
      |some h,some ws=>if iT (ws.map (·.1))=true then kk (bA d h (mX ws s1))else none
      |_,_=>none
     else none
    |_,_=>none
    else none
theorem nd{ids:List Nat}{new m:Nat}{x y:TB}(h:xB ids new m x=some y):lnB y=lnB x:=by
 cases x with
 |dead=>cases h
 |box t x=>injection h with h;subst h;rfl
 |mbox t cs=>
  simp only[xB]at h;split at h;injection h with h;subst h;rfl;cases h
 |arr w t rows=>injection h with h;subst h;rfl
theorem o8{ids:List Nat}{new m:Nat}: ∀{k:Nat} {out:List (Bool×TB)} {ws:List (Nat×Bool×TB)},oL ids new m k out=some ws->
  ws.length=out.length/\ ∀(j:Nat) s x,out[j]?=some (s,x)-> ∃b y,eR ids new m (k+j)=some b/\xB ids new m x=some y/\ws[j]?=some (b,s&&decide (k+j<ids.length),y)
 |k,[],ws,h=>by injection h with h;simp_all
 |k,(s,x)::r,ws,h=>by
  simp only[oL]at h;split at h;rename_i b y l q o e;injection h with h;subst h;obtain⟨h1,h2⟩:=o8 e;refine⟨by simp[h1],λj s' g n=>?_⟩;cases j<;>grind
  cases h
theorem JIJ{l:List Nat}(h:iT l=true):l.Nodup:=QF h
theorem JB9{ids:List Nat}(h:iT ids=true):iT ((ids.map Ent.whole).map Ent.id)=true:=by rw[xF,show Ent.id∘Ent.whole=id from rfl,List.map_id];exact h
theorem oh{ids:List Nat}{new m:Nat}{L Lp:Nat->Nat}(hL: ∀k b,eR ids new m k=some b->Lp b=L k){ws0:List (Nat×Blk)}{st:St}: ∀{j:Nat} {es:List Nat} {out:List (Bool×TB)} {ws:List (Nat×Bool×TB)},
  (∀(i:Nat) b,es[i]?=some b->ids[j+i]?=some b)->j+es.length=ids.length->es.length<=out.length->oL ids new m j out=some ws->
  (iB ws0 (ids.map .whole) new (es.map .whole) (out.map λx=>aT L x.2)).run st=some ((ws.take es.length).map λx=>(x.1,aT Lp x.2.2))
 |j,[],out,ws,_,_,_,h=>by simp[iB]
 |j,b::es,[],ws,_,_,hl,h=>by simp at hl
 |j,b::es,(s,x)::out,ws,he,hj,hl,h=>by
  simp only[oL]at h;split at h;rename_i e y l r v n;injection h with h;subst h;have ih:=oh hL (ws0:=ws0) (st:=st) (j:=j+1) (es:=es) (out:=out) (ws:=l) (λi c hc=>by
   have:=he (i+1) c (by simpa using hc);grind) (by grind) (by simpa using hl) n
  have g:e=b:=(by have q:=he 0 b (by simp);grind [eR]);subst g;simp only[bP,iB,run_bind];have o:(sA ws0 (ids.map .whole) new (.whole e) (aT L x)).run st=some (e,aT Lp y):=by cases x<;>grind [CF,sA,ff,VR,JX,xB,IC,OH,NC]
  simp_all;cases h
theorem nw{ids:List Nat}{new m:Nat}{L Lp:Nat->Nat}(hL: ∀k b,eR ids new m k=some b->Lp b=L k): ∀{j:Nat} {out:List (Bool×TB)} {ws:List (Nat×Bool×TB)},
  oL ids new m (ids.length+j) out=some ws->gO (ids.map .whole) new (new+j) (out.map λx=>aT L x.2)=some (ws.map λx=>(x.1,aT Lp x.2.2))
 |j,[],ws,h=>by injection h with h;subst h;rfl
 |j,(s,x)::out,ws,h=>by
  simp only[oL]at h;split at h;rename_i o y l q e n;injection h with h;subst h;have ih:=nw hL (j:=j+1) n;have g:o=new+j:=(by grind [eR]);subst g;cases x with
  |dead=>cases e
  |box t x=>injection e with e;grind [CF,gO,ff,VR]
  |mbox t cs=>
   grind [xB,IC,gO,OH]
  |arr w t rows=>injection e with e;grind [NC,gO]
  cases h
theorem rp{ids:List Nat}{new m:Nat}: ∀{n k:Nat} {out:List (Bool×TB)} {ws:List (Nat×Bool×TB)},oL ids new m k out=some ws->oL ids new m (k+n) (out.drop n)=some (ws.drop n)
 |0,k,out,ws,h=>h
 |n+1,k,[],ws,h=>by injection h with h;subst h;rfl
 |n+1,k,(s,x)::out,ws,h=>by
  simp only[oL]at h;split at h;rename_i b y l j g e;injection h with h;subst h;have:=rp (n:=n) e;grind;cases h
theorem QK{F:Orc}{G:TG}(hG:GOk F G){f:FuncId}{args:List (TV×Bool)}{A:Bool}{n:Nat}{d:Option Nat}{new:Nat}{s:TSt}{kk:TSt->Option R}{r:R}
  (hd:nC s new n=true) (h:BL G f args A n d new s kk=some r):
  ∃xs ws B es z blks v res E fresh,(eT (args.map (·.2)) (args.map λx=>JR (lns s.sto) x.1)).run (Jw s)=some (xs,ws)/\
   (dS ws (cF.entsOfL xs []) (cF.entsOfL xs [])).run (Jw s)=some B/\(dS ws B B).run (Jw s)=some es/\iT (es.map Ent.id)=true/\
   ren.renL (λe=>cV e es 0) xs=some z/\(jU ws (λe=>cV e es 0) es).run (Jw s)=some blks/\F f z blks=some res/\
   (if A=true then es.length<=res.2.length/\res.2.length<=es.length+n else res.2.length=es.length+n)/\bk es new res.1=some v/\gO es new new (res.2.drop es.length)=some fresh/\
   (iB ws es new es res.2).run (Jw s)=some E/\ ∃s',put d ⟨v,ws++E++fresh⟩ (Jw s)=Jw s'/\kk s'=some r:=by
 unfold BL at h;obtain⟨xs,s1,ws,h1,q,h⟩:=cv (Fzd.refl s) h;rw[jE]at q;split at h;cases h;rename_i i0 V;split at h;cases h;rename_i i1 S;split at h;cases h;rename_i ids M;split at h;rename_i Y;split at h;rename_i ys bl U L;obtain⟨v,out,hF,a1,h⟩:=hG.ok h;split at h;rename_i hlen;split at h;rename_i O g W o;split at h;rename_i N;have e0:cF.entsOfL (xs.map (bN (lns s.sto))) []=i0.map .whole:=PM (lns s.sto) (l:=[]) V;have e1:=yH q S;have e2:=yH q M;obtain⟨ak,Z⟩:=se L;have hL: ∀b k,eE b ids 0=some k->lns bl k=lns s.sto b:=by intro b k P;obtain⟨_,P⟩:=PQ P;rw[Z k b (by simpa using P),q.2.1]
 have e3:=p7 hL U;have e4:=ra hL q rfl L;obtain⟨b1,b2⟩:=o8 o;have a6: ∀(j:Nat),oC out j=match out[j]? with
   |some x=>lnB x.2
   |none=>0:=by
  intro j;unfold oC lns;rw[fB];cases out[j]?<;>rfl
 have Q: ∀(k b:Nat),ids[k]?=some b->b<s1.sto.length:=by
  have al: ∀(C:List Nat) (bl:List TB),uW ids s1 C=some bl-> ∀(k b:Nat),C[k]?=some b->b<s1.sto.length:=by
   intro C
   induction C with
   |nil=>simp_all
   |cons c C ih=>
    grind [uW]
  grind
 have a4:s1.sto.length=s.sto.length:=(by have:=congrArg (λst=>st.sto.length) q.2.2.1;grind [Jw,yD]);obtain⟨a3,K,a2⟩:=JFL hlen;have a0:=uZ hd;have ab: ∀x∈g,∃(j:Nat) (T:Bool) (y:TB),out[j]?=some (T,y)/\eR ids new out.length j=some x.1/\xB ids new out.length y=some x.2.2/\x.2.1=(T&&decide (j<ids.length)):=by
  intro x hx;obtain⟨j,hj⟩:=fL hx;have w:j<out.length:=by grind
  obtain⟨b,y,q1,q2,I⟩:=b2 j (out[j]'w).1 (out[j]'w).2 (JV w);rw[hj]at I;injection I with I;rw[jI]at q1 I;exact⟨j,_,_,JV w,by simp_all,by simp_all,by rw[I];rfl⟩
 have H: ∀x∈g,x.1<s1.sto.length:=(by grind [eR,Jn]);have J: ∀x∈g,x.2.1=true->lnB x.2.2=lns s1.sto x.1:=(by grind [nd,eR]);obtain⟨w1,w2⟩:=JKB (JIJ N) H J;have D: ∀k b,eR ids new out.length k=some b->lns (mX g s1).sto b=oC out k:=(by grind [eR,nd]);have e5:=JJp D W;have e6:=oh D (ws0:=ws) (st:=Jw s) (j:=0) (es:=ids) (out:=out) (ws:=g) (λi b hb=>by grind) (by omega) K o;have e7:=nw D (j:=0) (out:=out.drop ids.length) (ws:=g.drop ids.length) (by have:=rp (n:=ids.length) o;grind);rw[pP]at e7;refine⟨xs.map (bN (lns s.sto)),ws,i1.map .whole,ids.map .whole,_,_,JR (lns (mX g s1).sto) O,_,_,(g.drop ids.length).map (λx=>(x.1,aT (lns (mX g s1).sto) x.2.2)),h1,?_,e2,JB9 Y,e3,e4,hF,?_,e5,?_,e6,bA d O (mX g s1),?_,h⟩;grind;grind;grind [List.map_drop];refine qD ?_ d O;rw[w1,q.2.2.1];simp[eM];cases h;cases h;cases h;cases h;cases h
end
end Go.Am
end
section
namespace Go.Am
inductive TOp where
 |mv (x:TO)
 |mkarr (t:Ty) (x:TO)
 |pick (c a b:TO)
 |newbox (t:Ty)
 |box (t:Ty) (x:TO)
 |build (t:Ty) (parts:List (Nat×Ty×TO))
 |lits (own:Bool) (t:Ty) (n:Nat) (parts:List (Nat×TO))
 |load (agg:Bool) (t:Ty) (x:TO)
 |store (t:Ty) (x v:TO)
 |nilchk (x:TO)
 |bin (op:BinOp) (bt:TBT) (x y:TO)
 |un (op:UnOp) (x:TO)
 |conv (k:CK) (x:TO)
 |mkslice (own:Bool) (t:Ty) (bytes:Nat) (l c:TO)
 |slice (k:TSK) (x:TO) (lo hi mx:Option TO)
 |faddr (off:Nat) (x:TO)
 |field (agg:Bool) (off:Nat) (t:Ty) (x:TO)
 |iaddr (t:Ty) (x i:TO)
 |aaddr (len esz:Nat) (x i:TO)
 |sidx (x i:TO)
 |aidx (agg:Bool) (len:Nat) (t:Ty) (x i:TO)
 |extr (x:TO) (i:Nat)
 |call (f:FuncId) (args:List TO) (k:Nat)
 |callo (f:FuncId) (args:List (TO×Bool)) (k:Nat)
 |callv (g:TO) (args:List TO) (k:Nat)
 |len (str:Bool) (x:TO)
 |app (t:Ty) (bytes:Nat) (x y:TO)
 |appn (t:Ty) (bytes:Nat) (y:TO)
 |mm (mx:Bool) (x y:TO)
 |newboxo (t:Ty) (os:List (Nat×Ty))
 |buildo (t:Ty) (parts:List (Nat×Ty×TO)) (os:List (Nat×Ty))
 |storen (t:Ty) (x:TO)
 |ppre (t:Ty) (x hi:TO)
 |psuf (t:Ty) (x lo:TO)
 |appp (t:Ty) (bytes:Nat) (x y:TO)
def zer(t:Ty):List PV:=cel t t.zero
def erp:TOp->AOp| .mv x=>.mv (erO x)| .mkarr t x=>.mkarr t.sz (erO x)| .pick c a b=>.pick (erO c) (erO a) (erO b)| .newbox t=>.newbox (zer t)| .box t x=>.box t.sz (erO x)| .build t parts=>.build (zer t) (erP parts)| .lits own t n parts=>.lits own t.sz n (zer t) (parts.map λx=>(x.1,erO x.2))| .load agg t x=>.load agg t.sz (erO x)| .store t x v=>.store t.sz (erO x) (erO v)| .nilchk x=>.nilchk (erO x)| .bin op bt x y=>.bin op (erT bt) (erO x) (erO y)| .un op x=>.un op (erO x)| .conv k x=>.conv k (erO x)| .mkslice own t bytes l c=>.mkslice own t.sz bytes (zer t) (erO l) (erO c)| .slice k x lo hi mx=>.slice (erK k) (erO x) (lo.map erO) (hi.map erO) (mx.map erO)| .faddr off x=>.faddr off (erO x)| .field agg off t x=>.field agg off t.sz (erO x)| .iaddr t x i=>.iaddr t.sz (erO x) (erO i)| .aaddr len esz x i=>.aaddr len esz (erO x) (erO i)| .sidx x i=>.sidx (erO x) (erO i)| .aidx agg len t x i=>.aidx agg len t.sz (erO x) (erO i)| .extr x i=>.extr (erO x) i| .call f args k=>.call f (args.map erO) k| .callo f args k=>.callo f (args.map (·.2)) (args.map λx=>erO x.1) k| .callv g args k=>.callv (erO g) (args.map erO) k| .len str x=>.len str (erO x)| .app t bytes x y=>.app t.sz bytes (zer t) (erO x) (erO y)| .appn t bytes y=>.appn t.sz bytes (zer t) (erO y)| .ppre t x y=>.ppre t.sz (erO x) (erO y)| .psuf t x y=>.psuf t.sz (erO x) (erO y)| .appp t bytes x y=>.appp t.sz bytes (zer t) (erO x) (erO y)| .mm mx x y=>.mm mx (erO x) (erO y)| .newboxo t os=>.newboxo (zer t) (kM os)| .buildo t parts os=>.buildo (zer t) (erP parts) (kM os)| .storen t x=>.storen t.sz (erO x)
def bU:TOp->Nat| .newbox _| .box _ _| .mkarr _ _| .appn _ _ _=>1| .lits own _ _ _=>if own=true then 1 else 0| .mkslice own _ _ _ _=>if own=true then 1 else 0| .conv (.toBytes own) _=>if own=true then 1 else 0| .call _ _ k| .callv _ _ k| .callo _ _ k=>k| .newboxo _ os=>os.length+1| .buildo _ _ os=>os.length| .storen _ _=>1|_=>0
theorem HZ(op:TOp):kP (erp op)=bU op:=by
 cases op<;>try rfl
 rename_i k x;cases k<;>rfl
 all_goals simp[erp,bU,kM]
def tT:List (TO×Bool)->TSt->Option (List (TV×Bool))|[],_=>some []|(o,x)::r,s=>match tev o s,tT r s with|some v,some l=>some ((v,x)::l)|_,_=>none
theorem xY{s:TSt}: ∀{xs:List (TO×Bool)} {l:List (TV×Bool)},tT xs s=some l->
  (evs (xs.map λx=>erO x.1)).run (Jw s)=some (l.map λx=>JR (lns s.sto) x.1)/\l.map (·.2)=xs.map (·.2)
 |[],l,h=>by injection h with h;simp_all
 |(o,x)::q,l,h=>by
  simp only[tT]at h;split at h;rename_i v j e g;injection h with h;subst h;obtain⟨h1,h2⟩:=xY g;exact⟨by simp only[bP,evs,run_bind,bQ e,JQ,h1,JX],by simp[h2]⟩;cases h
section
variable {R:Type}
def top(G:TG)(op:TOp)(d:Option Nat)(new:Nat)(s:TSt)(k:TSt->Option R):Option R:=
 match op with
 | .mv x=>match tev x s with|some v=>k (bA d v s)|none=>none
 | .mkarr t _=>Cb t d new s k
 | .pick c a b=>match tev c s with|some (.a (.c (.d .b x)))=>lf x (tev a s) (tev b s) λv=>k (bA d v s)|_=>none
 | .newbox t=>Fa t d new s k
 | .box t x=>match tev x s with|some v=>jc t v d new s k|none=>none
 | .build t parts=>XP t parts d s k
 | .lits own t n parts=>l4 own t n parts d new s k
 | .load agg t x=>match tev x s with|some v=>lz agg t v d s k|none=>none
 | .store t x y=>match tev x s,tev y s with|some v,some u=>XN t v u d s k|_,_=>none
 | .nilchk x=>match tev x s with|some v=>km v λv=>k (bA d v s)|none=>none
 | .bin op bt x y=>match tev x s,tev y s with|some v,some u=>js op bt v u λv=>k (bA d v s)|_,_=>none
 | .un op x=>match tev x s with|some v=>tUn op v λv=>k (bA d v s)|none=>none
 | .conv c x=>match tev x s with|some v=>lh c v d new s k|none=>none
 | .mkslice own t bytes l c=>match tev l s,tev c s with|some v,some u=>ZR own t bytes v u d new s k|_,_=>none
 | .slice e x lo hi mx=>match tev x s,tbn lo s,tbn hi s,tbn mx s with|some v,some a,some b,some c=>XA e v a b c d s k|_,_,_,_=>none
 | .faddr off x=>match tev x s with|some v=>YB off v λv=>k (bA d v s)|none=>none
 | .field agg off t x=>match tev x s with|some v=>XQ agg off t v d s k|none=>none
 | .iaddr t x i=>match tev x s,tev i s with|some v,some u=>XO t v u s λv=>k (bA d v s)|_,_=>none
 | .aaddr len esz x i=>match tev x s,tev i s with|some v,some u=>XX len esz v u λv=>k (bA d v s)|_,_=>none
 | .sidx x i=>match tev x s,tev i s with|some v,some u=>mc v u λv=>k (bA d v s)|_,_=>none
 | .aidx agg len t x i=>match tev x s,tev i s with|some v,some u=>lm agg len t v u d s k|_,_=>none
 | .extr x i=>match tev x s with|some v=>lq v i λv=>k (bA d v s)|none=>none
 | .call f args n=>match tT (args.map λx=>(x,false)) s with|some l=>BL G f l false n d new s k|none=>none
 | .callo f args n=>match tT args s with|some l=>BL G f l true n d new s k|none=>none
 | .callv g args n=>match tev g s,tT (args.map λx=>(x,false)) s with|some (.a (.fn f a c)),some l=>BL G f (a.map (λx=>(.a (.c x),false))++l++c.map (λx=>(.a (.c x),false))) false n d new s k|some (.a (.c (.fn f))),some l=>BL G f l false n d new s k|_,_=>none
 | .len str x=>match tev x s with|some v=>ko str v s λv=>k (bA d v s)|none=>none
 | .app t bytes x y=>match tev x s,tev y s with|some v,some u=>iv t bytes v u d s k|_,_=>none
 | .appn t bytes y=>match tev y s with|some u=>kv t bytes u d new s k|none=>none
 | .mm mx x y=>match tev x s,tev y s with|some v,some u=>tMm mx v u λv=>k (bA d v s)|_,_=>none
 | .newboxo t os=>dg t os d new s k
 | .buildo t parts os=>ZP t parts os d new s k
 | .storen t x=>match tev x s with|some v=>ZI t v d new s k|none=>none
 | .ppre _ x y=>match tev x s,tev y s with|some v,some u=>l8 v u d s k|_,_=>none
 | .psuf t x y=>match tev x s,tev y s with|some v,some u=>l9 t v u d s k|_,_=>none
 | .appp t bytes x y=>match tev x s,tev y s with|some v,some u=>mg t bytes v u d s k|_,_=>none
theorem dq{F:Orc}{f:FuncId}{vs xs g:List AV}{ws:List (Nat×Blk)}{h es:List Ent}{blks:List Blk}{v:AV}{res:Res}{j fresh:List (Nat×Blk)}{n new:Nat}{st:St}
  (h1:(jK vs).run st=some (xs,ws)) (h2:(dS ws (cF.entsOfL xs []) (cF.entsOfL xs [])).run st=some h) (h3:(dS ws h h).run st=some es) (h4:iT (es.map Ent.id)=true)
  (h5:ren.renL (λe=>cV e es 0) xs=some g) (w:(jU ws (λe=>cV e es 0) es).run st=some blks) (q:F f g blks=some res) (r:res.2.length=es.length+n)
  (x:bk es new res.1=some v) (k:gO es new new (res.2.drop es.length)=some fresh) (o:(iB ws es new es res.2).run st=some j):
  (gY F f vs n new).run st=some ⟨v,ws++j++fresh⟩:=by
 simp_all [gY]
theorem JGL{F:Orc}{f:FuncId}{xs g:List AV}{ws:List (Nat×Blk)}{h es:List Ent}{blks:List Blk}{v:AV}{res:Res}{j fresh:List (Nat×Blk)}{n new:Nat}{st:St}
  (h2:(dS ws (cF.entsOfL xs []) (cF.entsOfL xs [])).run st=some h) (h3:(dS ws h h).run st=some es) (h4:iT (es.map Ent.id)=true)
  (h5:ren.renL (λe=>cV e es 0) xs=some g) (w:(jU ws (λe=>cV e es 0) es).run st=some blks) (q:F f g blks=some res) (r:es.length<=res.2.length/\res.2.length<=es.length+n)
  (x:bk es new res.1=some v) (k:gO es new new (res.2.drop es.length)=some fresh) (o:(iB ws es new es res.2).run st=some j):
  (fG F f (xs,ws) n new).run st=some ⟨v,ws++j++fresh⟩:=by
 simp_all [fG]
theorem PD(args:List TO):(args.map λx=>(x,false)).map (λx:TO×Bool=>erO x.1)=args.map erO:=by simp_all
theorem JLP{F:Orc}{G:TG}(L:GOk F G){op:TOp}{d:Option Nat}{new:Nat}{s:TSt}{k:TSt->Option R}{r:R}(hd:nC s new (bU op)=true)(h:top G op d new s k=some r):Ok (opR F (erp op) new) d s k r:=by
 have a3: ∀j,j<bU op->new+j<s.sto.length:=λj hj=>Jn (uZ hd j hj);unfold top at h;split at h;split at h;rename_i x _ v q;refine eX (v:=v) ?_ h;simp only[erp,opR,run_bind,bQ q,JQ,JX];cases h;exact JFi F (by simp_all [bU]) h;split at h;rename_i hc;exact JIK F hc h;cases h;exact JDe F (by have:=uZ hd 0 (by simp[bU]);simp_all) h;split at h;rename_i q;exact JJt F (by have:=uZ hd 0 (by simp[bU]);simp_all) q h;cases h;exact JG4 F new h;rename_i own t n parts;exact JHr F (λZ=>by simp_all [bU]) h;split at h;rename_i q;obtain⟨e,s',h1,h2,o⟩:=JII h;exact⟨e,s',by grind [erp,opR,run_bind,bQ],h2,o⟩;cases h;split at h;rename_i q w;obtain⟨e,s',h1,h2,o⟩:=JFl h;exact⟨e,s',by grind [erp,opR,run_bind,bQ],h2,o⟩;cases h;split at h;rename_i q;exact JJx F q h;cases h;split at h;rename_i q w;obtain⟨e,s',h1,h2,o⟩:=(JK8 h).ok;exact⟨e,s',by grind [erp,opR,run_bind,bQ],h2,o⟩;cases h;split at h;rename_i q;obtain⟨e,s',h1,h2,o⟩:=(JMk h).ok;exact⟨e,s',by grind [erp,opR,run_bind,bQ],h2,o⟩;cases h;split at h;rename_i q;exact JHE F q (λZ=>by simp_all [bU]) h;cases h;split at h;rename_i q w;exact JAU F q w (λZ=>by simp_all [bU]) h;cases h;split at h;rename_i h1 h2 o h4;exact JFV F h1 h2 o h4 h;cases h;split at h;rename_i q;obtain⟨e,s',h1,h2,o⟩:=(JFU h).ok;exact⟨e,s',by grind [erp,opR,run_bind,bQ],h2,o⟩;cases h;split at h;rename_i q;obtain⟨e,s',h1,h2,o⟩:=JFF h;exact⟨e,s',by grind [erp,opR,run_bind,bQ],h2,o⟩;cases h;split at h;rename_i q w;obtain⟨e,s',h1,h2,o⟩:=JFz h;exact⟨e,s',by grind [erp,opR,run_bind,bQ],h2,o⟩;cases h;split at h;rename_i q w;obtain⟨e,s',h1,h2,o⟩:=(JG8 h).ok;exact⟨e,s',by grind [erp,opR,run_bind,bQ],h2,o⟩;cases h;split at h;rename_i q w;exact JJ1 F q w h;cases h;split at h;rename_i q w;exact JI1 F q w h;cases h;split at h;rename_i q;obtain⟨e,s',h1,h2,o⟩:=(JIN h).ok;exact⟨e,s',by grind [erp,opR,run_bind,bQ],h2,o⟩;cases h;rename_i f args n;split at h;rename_i l H;obtain⟨C,M⟩:=xY H;rw[PD]at C;obtain⟨xs,ws,I,es,B,blks,v,res,D,fresh,E,W,V,T,S,Q,O,U,N,K,J,s',A,y⟩:=QK L hd h;rw[KK _ _ (λx hx=>by simp_all)]at E;refine⟨_,s',?_,A,y⟩;grind [erp,opR,run_bind,dq,bU];cases h;rename_i f args n;split at h;rename_i l H;obtain⟨C,M⟩:=xY H;obtain⟨xs,ws,I,es,B,blks,v,res,D,fresh,E,W,V,T,S,Q,O,U,N,K,J,s',A,y⟩:=QK L hd h;rw[M]at E;refine⟨_,s',?_,A,y⟩;simp_all [erp,JGL,bU];cases h;rename_i g args n;split at h;rename_i f a c l P H;obtain⟨C,M⟩:=xY H;rw[PD]at C;obtain⟨xs,ws,I,es,B,blks,v,res,D,fresh,E,W,V,T,S,Q,O,U,N,K,J,s',A,y⟩:=QK L hd h;have Y: ∀z:List TC,(z.map (λx=>((TV.a (.c x),false):TV×Bool))).map (λx=>JR (lns s.sto) x.1)=z.map (aX (lns s.sto)):=λz=>by rw[xF];rfl
 rw[KK _ _ (λx hx=>by
  grind),wJ,wJ,Y,Y]at E
 refine⟨_,s',?_,A,y⟩;simp only[erp,opR,run_bind,bQ P,JQ,Al,C];grind [dq,bU];rename_i f l P H;obtain⟨C,M⟩:=xY H;rw[PD]at C;obtain⟨xs,ws,I,es,B,blks,v,res,D,fresh,E,W,V,T,S,Q,O,U,N,K,J,s',A,y⟩:=QK L hd h;rw[KK _ _ (λx hx=>by simp_all)]at E;refine⟨_,s',?_,A,y⟩;simp only[erp,opR,run_bind,bQ P,JQ,Bf,C,jE,gU];grind [dq,bU];cases h;split at h;rename_i q;obtain⟨e,s',h1,h2,o⟩:=(JJr h).ok;exact⟨e,s',by grind [erp,opR,run_bind,bQ],h2,o⟩;cases h;split at h;rename_i q w;obtain⟨e,s',h1,h2,o⟩:=JKI h;exact⟨e,s',by grind [erp,opR,run_bind,bQ],h2,o⟩;cases h;split at h;rename_i w;exact JHg F w (by simp_all [bU]) h;cases h;split at h;rename_i q w;obtain⟨e,s',h1,h2,o⟩:=(JMM h).ok;exact⟨e,s',by grind [erp,opR,run_bind,bQ],h2,o⟩;cases h;exact JAS F hd h;exact JD7 F hd h;split at h;rename_i q;exact JD6 F (by have:=uZ hd 0 (by simp[bU]);simp_all) q h;cases h;split at h;rename_i q w;obtain⟨e,s',h1,h2,o⟩:=JHQ h;exact⟨e,s',by grind [erp,opR,run_bind,bQ],h2,o⟩;cases h;split at h;rename_i q w;obtain⟨e,s',h1,h2,o⟩:=JIH h;exact⟨e,s',by grind [erp,opR,run_bind,bQ],h2,o⟩;cases h;split at h;rename_i q w;obtain⟨e,s',h1,h2,o⟩:=JGW h;exact⟨e,s',by grind [erp,opR,run_bind,bQ],h2,o⟩;cases h
structure iI where
 op:TOp
 dst:Option Nat
 g:Option (Nat×Bool)
def eri(i:iI):bR:=⟨erp i.op,i.dst,i.g⟩
def rbE(g:Nat)(v:TV):List (Nat×TV)->List (Nat×TV)|[]=>[]|(m,u)::r=>if m=g then(m,v)::r else(m,u)::rbE g v r
def rb(g:Nat)(v:TV)(s:TSt):TSt:=⟨rbE g v s.env,s.sto⟩
theorem XV{g:Nat}{v:TV}{s:TSt}(h:tlk g s.env=some v):rb g v s=s:=by
 have e: ∀env:List (Nat×TV),tlk g env=some v->rbE g v env=env:=by
  intro env
  induction env with
  |nil=>intro h;cases h
  |cons x r ih=>
   grind [tlk,rbE]
 simp_all [rb]
def SC(G:TG)(i:iI)(new:Nat)(s:TSt)(k:TSt->Option R):Option R:=
 match i.g with
 |none=>if nC s new (bU i.op)=true then top G i.op i.dst new s k else none
 |some (g,e)=>match tlk g s.env with
  |some (.a (.c (.d .b x)))=>if x=e then
   (if nC s new (bU i.op)=true then top G i.op i.dst new (rb g (vb e) s) k else none)
   else k (bA i.dst uv (rb g (vb !e) s))
  |some (.tup [])=>k (bA i.dst uv s)
  |_=>none
theorem Fh{F:Orc}{G:TG}(B:GOk F G){i:iI}{new:Nat}{s:TSt}{k:TSt->Option R}{r:R}(h:SC G i new s k=some r):Ok (bT F (eri i) new) i.dst s k r:=by
 have A: ∀{s:TSt},nC s new (bU i.op)=true->top G i.op i.dst new s k=some r->Ok (opD F (erp i.op) new) i.dst s k r:=(by intro s hd h;obtain⟨e,s',h1,h2,w⟩:=JLP B hd h;refine⟨e,s',?_,h2,w⟩;grind [opD,run_bind,HZ,n5]);unfold SC at h;split at h;grind [bT,eri];rename_i g n z;split at h;rename_i x j;have o:lk g (Jw s).env=some (.p (.b x)):=by show lk g (fF _ s.env)=_;rw[xU,j];rfl
 split at h;rename_i q;subst q;rw[XV j]at h;split at h;rename_i hd;obtain⟨e,s',h1,h2,w⟩:=A hd h;refine⟨e,s',?_,h2,w⟩;grind [bT,eri,vB];cases h;rename_i q;have y:x= !n:=by clear o j h;cases x<;>cases n<;>first|rfl|grind
 subst y;rw[XV j]at h;refine eX (v:=uv) ?_ h;simp only[bT,eri,z,vB,o,JQ];rw[if_neg q];rfl;rename_i j;have o:lk g (Jw s).env=some (.tup []):=by show lk g (fF _ s.env)=_;rw[xU,j];rfl
 refine eX (v:=uv) ?_ h;simp only[bT,eri,z,vB,o,JQ,JX];rfl;cases h
def UE(G:TG):List iI->Nat->TSt->(TSt->Option R)->Option R|[],_,s,k=>k s|i::r,new,s,k=>SC G i new s λs=>UE G r (new+bU i.op) s k
theorem Ej{F:Orc}{G:TG}(g:GOk F G): ∀{ins:List iI} {new:Nat} {s:TSt} {k:TSt->Option R} {r:R},UE G ins new s k=some r-> ∃s',fR F (ins.map eri) new (Jw s)=some (Jw s')/\k s'=some r
 |[],new,s,k,r,h=>⟨s,rfl,h⟩
 |i::q,new,s,k,r,h=>by
  simp only[UE]at h;obtain⟨e,s1,h1,h2,h⟩:=Fh g h;obtain⟨j,o,n⟩:=Ej g h;grind [fR,eri,HZ]
def GX:List iI->Nat|[]=>0|i::r=>bU i.op+GX r
theorem di: ∀ins:List iI,news (ins.map eri)=GX ins
 |[]=>rfl
 |i::r=>by
  simp only[bP,news,GX,di r];grind [eri,HZ]
def MJ(n:Nat)(s:TSt):TSt:=if n=0 then s else⟨s.env,s.sto++List.replicate n .dead⟩
theorem Ho(sto:List TB)(n:Nat):lns (sto++List.replicate n .dead)=lns sto:=by
 funext c
 unfold lns;rcases zQ3 c sto.length with h|h;grind;rw[dE h,oH h,List.getElem?_replicate];split<;>rfl
theorem ou(n:Nat)(s:TSt):Jw (MJ n s)=⟨(Jw s).env,room n (Jw s).sto⟩:=by
 unfold MJ room;split;rfl;unfold Jw;rw[Ho];simp only[wJ,TH];rfl
end
end Go.Am
end
section
namespace Go.Am
def Rb{α:Type}(S:Nat->Prop)(m:RM α)(st:St):Prop:= ∀b,Loc.blk b∈m.reads st->S b
section
variable {α β:Type} {S:Nat->Prop} {st:St}
theorem bJ(a:α):Rb S (.ret a) st:=λb h=>by simp[RM.reads]at h
theorem JL:Rb S (.fail:RM α) st:=λb h=>by simp[RM.reads]at h
theorem bI{m:RM α}{f:α->RM β}(h:Rb S m st)(hf: ∀a,m.run st=some a->Rb S (f a) st):Rb S (m.bind f) st:=by
 intro b e;rw[vH]at e;rcases zQ9.1 e with e|e;exact h b e;cases hm:m.run st with
 |none=>rw[hm]at e;simp at e
 |some a=>rw[hm]at e;exact hf a hm b (by simpa using e)
theorem kU{b:Nat}{k:Blk->RM α}(hb:S b)(h: ∀v,st.sto[b]?=some v->Rb S (k v) st):Rb S (.blk b k) st:=by
 intro c hc;simp only[RM.reads,bX]at hc;rcases hc with hc|hc;injection hc with hc;subst hc;exact hb;cases hv:st.sto[b]? with
 |none=>rw[hv]at hc;simp at hc
 |some v=>rw[hv]at hc;exact h v hv c hc
theorem Ek{n:Nat}{k:AV->RM α}(h: ∀v,lk n st.env=some v->Rb S (k v) st):Rb S (.slot n k) st:=by
 intro c hc;simp only[RM.reads,bX]at hc;rcases hc with hc|hc;cases hc;cases hv:lk n st.env with
 |none=>rw[hv]at hc;simp at hc
 |some v=>rw[hv]at hc;exact h v hv c hc
theorem NM(x:Option AV):Rb S (val x) st:=by cases x<;>first|exact JL|exact bJ _
theorem fM(x:Opd):Rb S (ev x) st:=by cases x<;>first|exact bJ _|exact Ek λv _=>bJ v
theorem YG: ∀xs:List Opd,Rb S (evs xs) st|[]=>bJ _|x::r=>bI (fM x) λv _=>bI (YG r) λvs _=>bJ _
theorem XJ(x:Option Opd):Rb S (evo x) st:=by
 cases x with
 |none=>exact bJ _
 |some x=>exact bI (fM x) λv _=>bJ _
end
def dY:AV->List Nat| .ptr b _=>[b]| .slr b _ _=>[b]| .ep b _ _ _=>[b]| .pre b _ _=>[b]|_=>[]
def avR:AV->List Nat| .agg cs=>cs.flatMap dY|x=>dY x
section
variable {S:Nat->Prop} {st:St}
theorem JKQ{x:AV}(h: ∀b∈dY x,S b):Rb S (fz.fz1 x) st:=by
 cases x with
 |slr b i n=>
  refine kU (h b (by simp[dY])) λv _=>?_;cases v with
  |arr w esz rows=>dsimp only;split<;>first|exact bJ _|exact JL
  |_=>exact JL
 |p c=>exact bJ _
 |_=>exact JL
theorem Ch: ∀{xs:List AV},(∀b∈xs.flatMap dY,S b)->Rb S (fz.fzL xs) st|[],_=>bJ _|x::r,h=>bI (JKQ λb e=>h b (by simp[e])) λa _=>bI (Ch λb e=>h b (by simp only[List.flatMap_cons,zQ9];exact .inr e)) λc _=>bJ _
theorem GL{x:AV}(h: ∀b∈avR x,S b):Rb S (fz x) st:=by
 cases x with
 |slr b i n=>
  refine kU (h b (by simp[avR,dY])) λv _=>?_;cases v with
  |arr w esz rows=>dsimp only;split<;>first|exact bJ _|exact JL
  |_=>exact JL
 |p c=>exact bJ _
 |data cs=>exact bJ _
 |agg cs=>exact Ch h
 |_=>exact JL
theorem JMo{x:AV}{a:List PV×List (Nat×Blk)}(h:(fz.fz1 x).run st=some a): ∀y∈a.2,y.1∈dY x:=by
 cases x with
 |slr b i n=>
  simp only[fz.fz1,cS]at h;obtain⟨v,_,h⟩:=bF.1 h;cases v with
  |arr w esz rows=>
   dsimp only at h;split at h;injection h with h;subst h;simp[dY];cases h
  |_=>cases h
 |p c=>injection h with h;subst h;simp
 |_=>cases h
theorem Cy: ∀{xs:List AV} {a:List PV×List (Nat×Blk)},(fz.fzL xs).run st=some a-> ∀y∈a.2,y.1∈xs.flatMap dY
 |[],a,h,y,g=>by injection h with h;subst h;simp at g
 |x::r,a,h,y,g=>by
  simp only[fz.fzL]at h;obtain⟨c,h1,h⟩:=bind_some h;obtain⟨e,h2,h⟩:=bind_some h;injection h with h;subst h;simp only[zQ9]at g;simp only[List.flatMap_cons,zQ9];rcases g with g|g;exact .inl (JMo h1 y g);exact .inr (Cy h2 y g)
theorem GG{x:AV}{a:List PV×List (Nat×Blk)}(h:(fz x).run st=some a): ∀y∈a.2,y.1∈avR x:=by
 cases x with
 |slr b i n=>
  simp only[fz,cS]at h;obtain⟨v,_,h⟩:=bF.1 h;cases v with
  |arr w esz rows=>
   dsimp only at h;split at h;injection h with h;subst h;simp[avR,dY];cases h
  |_=>cases h
 |p c=>injection h with h;subst h;simp
 |data cs=>injection h with h;subst h;simp
 |agg cs=>exact Cy h
 |_=>cases h
theorem OM{esz:Nat}{x:AV}(h: ∀b∈avR x,S b):Rb S (eY esz x) st:=by
 unfold eY;split;split<;>first|exact bJ _|exact JL
 split<;>first|exact bJ _|exact JL
 refine kU (h _ (by simp[avR,dY])) λv _=>?_;split;split<;>first|exact bJ _|exact JL
 exact JL;exact JL
theorem JJX{agg:Bool}{size:Nat}{x:AV}(h: ∀b∈avR x,S b):Rb S (fX agg size x) st:=by
 unfold fX;split;split<;>first|exact NM _|exact JL
 refine kU (h _ (by simp[avR,dY])) λv _=>?_;split;split<;>first|exact NM _|exact JL
 exact JL;refine kU (h _ (by simp[avR,dY])) λv _=>?_;split;split;split;split<;>first|exact NM _|exact JL
 exact JL;exact JL;exact JL;exact JL
theorem NR{x:Option AV}{e:Eff}(h:(val x).run st=some e):e.ws=[]:=by
 cases x with
 |none=>cases h
 |some v=>injection h with h;subst h;rfl
theorem JJN{agg:Bool}{size:Nat}{x:AV}{e:Eff}(h:(fX agg size x).run st=some e):e.ws=[]:=by
 unfold fX at h;split at h;split at h<;>first|exact NR h|cases h
 simp only[cS]at h;obtain⟨v,_,h⟩:=bF.1 h;split at h;split at h<;>first|exact NR h|cases h
 cases h;simp only[cS]at h;obtain⟨v,_,h⟩:=bF.1 h;split at h;split at h;split at h;split at h<;>first|exact NR h|cases h
 cases h;cases h;cases h;cases h
theorem JIp{size:Nat}{x v:AV}(h: ∀b∈avR x,S b)(hv: ∀b∈avR v,S b):Rb S (hC size x v) st:=by
 unfold hC;split;refine kU (h _ (by simp[avR,dY])) λy _=>?_;split;split;split;split<;>first|exact bJ _|exact JL
 exact JL;exact JL;exact JL;refine kU (h _ (by simp[avR,dY])) λy _=>?_;split;split;split;refine bI (GL hv) λa _=>?_;split;split<;>first|exact bJ _|exact JL
 exact JL;exact JL;exact JL;exact JL;exact JL
theorem JIW{size:Nat}{x v:AV}{e:Eff}(h:(hC size x v).run st=some e): ∀y∈e.ws,y.1∈avR x++avR v:=by
 unfold hC at h;split at h;simp only[cS]at h;obtain⟨w,_,h⟩:=bF.1 h;split at h;split at h;split at h;split at h;injection h with h;subst h;simp[avR,dY];cases h;cases h;cases h;cases h;simp only[cS]at h;obtain⟨w,_,h⟩:=bF.1 h;split at h;split at h;split at h;obtain⟨a,h1,h⟩:=bind_some h;split at h;split at h;injection h with h;subst h;intro y g;simp only[zQ9,hW]at g⊢;rcases g with g|rfl;exact .inr (GG h1 y g);exact .inl (by simp[avR,dY]);cases h;cases h;cases h;cases h;cases h;cases h
theorem JGO{esz:Nat}{x i:AV}(h: ∀b∈avR x,S b):Rb S (lX esz x i) st:=by
 unfold lX;split;split;split<;>first|exact bJ _|exact JL
 exact JL;refine kU (h _ (by simp[avR,dY])) λv _=>?_;split;split<;>first|exact bJ _|exact JL
 exact JL;exact JL
theorem JIQ{esz:Nat}{x i:AV}{e:Eff}(h:(lX esz x i).run st=some e):e.ws=[]:=by
 unfold lX at h;split at h;split at h;split at h;injection h with h;subst h;rfl;cases h;cases h;simp only[cS]at h;obtain⟨v,_,h⟩:=bF.1 h;split at h;split at h;injection h with h;subst h;rfl;cases h;cases h;cases h
theorem JMr{esz bytes:Nat}{x y:AV}(h: ∀b∈avR x,S b)(hy: ∀b∈avR y,S b):Rb S (iH esz bytes x y) st:=by
 unfold iH;split;refine kU (h _ (by simp[avR,dY])) λv _=>?_;split;refine bI (OM hy) λnew _=>?_;split<;>first|exact bJ _|exact JL
 exact JL;exact JL
theorem JLs{esz bytes:Nat}{x y:AV}{e:Eff}(h:(iH esz bytes x y).run st=some e): ∀z∈e.ws,z.1∈avR x:=by
 unfold iH at h;split at h;simp only[cS]at h;obtain⟨v,_,h⟩:=bF.1 h;split at h;obtain⟨new,_,h⟩:=bind_some h;split at h;injection h with h;subst h;simp[avR,dY];cases h;cases h;cases h
theorem JMC{x y:AV}(h: ∀b∈avR x,S b):Rb S (rC x y) st:=by
 unfold rC;split;refine kU (h _ (by simp[avR,dY])) λv _=>?_;split;split<;>first|exact bJ _|exact JL
 exact JL;exact JL
theorem JME{esz:Nat}{x y:AV}(h: ∀b∈avR x,S b):Rb S (rO esz x y) st:=by
 unfold rO;split;refine kU (h _ (by simp[avR,dY])) λv _=>?_;split;split<;>first|exact bJ _|exact JL
 exact JL;exact JL
theorem JM4{x y:AV}{e:Eff}(h:(rC x y).run st=some e):e.ws=[]:=by
 unfold rC at h;split at h;simp only[cS]at h;obtain⟨v,_,h⟩:=bF.1 h;split at h;split at h;injection h with h;subst h;rfl;cases h;cases h;cases h
theorem JLu{esz:Nat}{x y:AV}{e:Eff}(h:(rO esz x y).run st=some e):e.ws=[]:=by
 unfold rO at h;split at h;simp only[cS]at h;obtain⟨v,_,h⟩:=bF.1 h;split at h;split at h;injection h with h;subst h;rfl;cases h;cases h;cases h
theorem JLD{esz bytes:Nat}{x y:AV}(h: ∀b∈avR x,S b)(hy: ∀b∈avR y,S b):Rb S (rJ esz bytes x y) st:=by
 unfold rJ;split;refine kU (h _ (by simp[avR,dY])) λv _=>?_;split;refine bI (OM hy) λnew _=>?_;split<;>first|exact bJ _|exact JL
 exact JL;exact JL
theorem JM1{esz bytes:Nat}{x y:AV}{e:Eff}(h:(rJ esz bytes x y).run st=some e): ∀z∈e.ws,z.1∈avR x:=by
 unfold rJ at h;split at h;simp only[cS]at h;obtain⟨v,_,h⟩:=bF.1 h;split at h;obtain⟨new,_,h⟩:=bind_some h;split at h;injection h with h;subst h;simp[avR,dY];cases h;cases h;cases h
theorem Fl: ∀{k new:Nat},(∀j,j<k->S (new+j))->Rb S (rS new k) st
 |0,_,_=>bJ _
 |k+1,new,h=>kU (h 0 (by omega)) λv _=>by
  cases v with
  |dead=>exact Fl λj e=>by have:=h (j+1) (by omega);rwa[Nat.add_comm j 1,<-rD]at this
  |_=>exact JL
theorem Cq: ∀{xs:List Opd},(∀x∈xs,∀v,(ev x).run st=some v-> ∀b∈avR v,S b)->Rb S (fzs xs) st|[],_=>bJ _|x::r,h=>bI (fM x) λv e=>bI (GL (h x (by simp) v e)) λa _=>bI (Cq λy g=>h y (by simp[g])) λc _=>bJ _
theorem YD: ∀{xs:List Opd} {a:List (List PV)×List (Nat×Blk)},(∀x∈xs,∀v,(ev x).run st=some v-> ∀b∈avR v,S b)->(fzs xs).run st=some a-> ∀y∈a.2,S y.1
 |[],a,_,h,y,g=>by injection h with h;subst h;simp at g
 |x::r,a,j,h,y,g=>by
  simp only[fzs]at h;obtain⟨v,k,h⟩:=bind_some h;obtain⟨c,h1,h⟩:=bind_some h;obtain⟨e,h2,h⟩:=bind_some h;injection h with h;subst h;simp only[zQ9]at g;rcases g with g|g;exact j x (by simp) v k _ (GG h1 y g);exact YD (λz n=>j z (by simp[n])) h2 y g
theorem Dk{x:AV}(h: ∀b∈avR x,S b):Rb S (iG x) st:=by
 cases x with
 |slr b i n=>refine bI (GL h) λa _=>?_;split<;>first|exact bJ _|exact JL
 |agg cs=>exact bI (GL h) λa _=>bJ _
 |tup cs=>exact JL
 |_=>exact bJ _
theorem Ex{x:AV}{a:AV×List (Nat×Blk)}(h:(iG x).run st=some a): ∀y∈a.2,y.1∈avR x:=by
 cases x with
 |slr b i n=>
  simp only[iG]at h;obtain⟨c,h1,h⟩:=bind_some h;split at h;injection h with h;subst h;exact GG h1;cases h
 |agg cs=>simp only[iG]at h;obtain⟨c,h1,h⟩:=bind_some h;injection h with h;subst h;exact GG h1
 |tup cs=>cases h
 |_=>injection h with h;subst h;simp
theorem IR: ∀{m:List Bool} {xs:List AV},(∀x∈xs,∀b∈avR x,S b)->Rb S (eT m xs) st|_,[],_=>by unfold eT;exact bJ _|[],x::r,h=>bI (Dk (h x (by simp))) λa _=>bI (IR λy e=>h y (by simp[e])) λc _=>bJ _|true::m,x::r,h=>bI (IR λy e=>h y (by simp[e])) λc _=>bJ _|false::m,x::r,h=>bI (Dk (h x (by simp))) λa _=>bI (IR λy e=>h y (by simp[e])) λc _=>bJ _
theorem IM: ∀{m:List Bool} {xs:List AV} {a:List AV×List (Nat×Blk)},(∀x∈xs,∀b∈avR x,S b)->(eT m xs).run st=some a-> ∀y∈a.2,S y.1
 |m,[],a,_,h,y,g=>by unfold eT at h;injection h with h;subst h;simp at g
 |[],x::r,a,j,h,y,g=>by
  simp only[eT]at h;obtain⟨c,h1,h⟩:=bind_some h;obtain⟨e,h2,h⟩:=bind_some h;injection h with h;subst h;simp only[zQ9]at g;rcases g with g|g;exact j x (by simp) _ (Ex h1 y g);exact IM (λz k=>j z (by simp[k])) h2 y g
 |true::m,x::r,a,j,h,y,g=>by simp only[eT]at h;obtain⟨e,h2,h⟩:=bind_some h;injection h with h;subst h;exact IM (λz k=>j z (by simp[k])) h2 y g
 |false::m,x::r,a,j,h,y,g=>by
  simp only[eT]at h;obtain⟨c,h1,h⟩:=bind_some h;obtain⟨e,h2,h⟩:=bind_some h;injection h with h;subst h;simp only[zQ9]at g;rcases g with g|g;exact j x (by simp) _ (Ex h1 y g);exact IM (λz k=>j z (by simp[k])) h2 y g
theorem Dd{ws:List (Nat×Blk)}{b:Nat}(h:S b):Rb S (pQ ws b) st:=kU h λv _=>by split<;>exact bJ _
theorem ZO{ws:List (Nat×Blk)}: ∀{r:List Nat} {acc:List Ent},(∀b∈r,S b)->Rb S (dS ws (r.map .whole) acc) st|[],acc,_=>bJ _|b::r,acc,h=>by simp only[bP,dS];refine bI (Dd (h b (by simp))) λx _=>?_;cases x<;>exact ZO λc hc=>h c (by simp[hc])
theorem qp{ws:List (Nat×Blk)}{ρ:Ent->Option Nat}: ∀{r:List Nat},(∀b∈r,S b)->Rb S (jU ws ρ (r.map .whole)) st
 |[],_=>bJ _
 |b::r,h=>by
  simp only[bP,jU,xK];refine bI (bI (Dd (h b (by simp))) λx _=>?_) λx _=>bI (qp λc hc=>h c (by simp[hc])) λl _=>bJ _;cases x with
  |box cs=>dsimp only;split<;>first|exact bJ _|exact JL
  |arr w e rows=>exact bJ _
  |dead=>exact JL
theorem re{ws:List (Nat×Blk)}{es:List Ent}{new:Nat}: ∀{r:List Nat} {l:List Blk},Rb S (iB ws es new (r.map .whole) l) st
 |[],l=>by cases l<;>exact bJ _
 |b::r,[]=>JL
 |b::r,x::l=>by
  simp only[bP,iB];refine bI ?_ λy _=>bI re λg _=>bJ _;cases x with
  |box cs=>simp only[sA];split<;>first|exact bJ _|exact JL
  |arr w e rows=>exact bJ _
  |dead=>exact JL
theorem rh{ws:List (Nat×Blk)}{es:List Ent}{new:Nat}: ∀{r:List Nat} {l:List Blk} {g:List (Nat×Blk)},(iB ws es new (r.map .whole) l).run st=some g-> ∀y∈g,y.1∈r
 |[],l,g,h,y,j=>by
  have:g=[]:=by cases l<;>(injection h with h;exact h.symm)
  subst this;simp at j
 |b::r,[],g,h,_,_=>by cases h
 |b::r,x::l,g,h,y,j=>by
  simp only[bP,iB]at h;obtain⟨z,h1,h⟩:=bind_some h;obtain⟨k,h2,h⟩:=bind_some h;injection h with h;subst h;rcases bX.1 j with rfl|j;cases x with
  |box cs=>
   simp only[sA]at h1;split at h1;injection h1 with h1;subst h1;simp;cases h1
  |arr w e rows=>injection h1 with h1;subst h1;simp
  |dead=>cases h1
  exact kK _ (rh h2 y j)
theorem fk{es:List Ent}{new:Nat}: ∀{l:List Blk} {k:Nat} {n:List (Nat×Blk)},gO es new k l=some n-> ∀y∈n,∃j,j<l.length/\y.1=k+j
 |[],k,n,h,y,g=>by injection h with h;subst h;simp at g
 | .dead::l,k,n,h,_,_=>by cases h
 | .box cs::l,k,n,h,y,g=>by
  simp only[gO]at h;split at h;rename_i c q _ o;injection h with h;subst h;rcases bX.1 g with rfl|g;exact⟨0,by simp,rfl⟩;obtain⟨j,r,e⟩:=fk o y g;exact⟨j+1,by simp;omega,by omega⟩;cases h
 | .arr w e rows::l,k,n,h,y,g=>by
  simp only[gO]at h;split at h;rename_i q o;injection h with h;subst h;rcases bX.1 g with rfl|g;exact⟨0,by simp,rfl⟩;obtain⟨j,r,e⟩:=fk o y g;exact⟨j+1,by simp;omega,by omega⟩;cases h
theorem d5(e x:Ent)(l:List Ent)(h:e∈l):e∈uP x l:=by unfold uP;split<;>simp[h]
mutual
theorem JIE: ∀(x:AV) (l:List Ent) (e:Ent),e∈l->e∈cF x l| .ptr b off,l,e,h=>d5 e _ l h| .slr b i n,l,e,h=>d5 e _ l h| .ep b g i off,l,e,h=>d5 e _ l h| .fn f a c,l,e,h=>entsL_sub c _ e (entsL_sub a l e h)| .agg cs,l,e,h=>entsL_sub cs l e h| .tup cs,l,e,h=>entsL_sub cs l e h| .p _,l,e,h=>h| .data _,l,e,h=>h| .cp _ _,l,e,h=>h| .unk,l,e,h=>h| .pre _ _ _,l,e,h=>h
theorem entsL_sub: ∀(xs:List AV) (l:List Ent) (e:Ent),e∈l->e∈cF.entsOfL xs l|[],l,e,h=>h|x::r,l,e,h=>entsL_sub r _ e (JIE x l e h)
end
theorem oc{ws:List (Nat×Blk)}: ∀{r acc l:List Ent},(dS ws r acc).run st=some l-> ∀e∈acc,e∈l:=by
 intro r
 induction r with
 |nil=>intro acc l h e g;injection h with h;subst h;exact g
 |cons x r ih=>
  intro acc l h e g;cases x with
  |whole b=>
   simp only[dS]at h;obtain⟨y,_,h⟩:=bind_some h;cases y with
   |box cs=>exact ih h e (entsL_sub cs acc e g)
   |_=>exact ih h e g
  |elem b j i=>exact ih h e g
theorem qf{F:Orc}{f:FuncId}{xs:List AV}{ws:List (Nat×Blk)}{r o ids:List Nat}{n new:Nat}(w: ∀b∈ids,S b)(hw: ∀y∈ws,S y.1)(hn: ∀j,j<n->S (new+j))
  (h0:cF.entsOfL xs []=r.map .whole) (h1:(dS ws (r.map .whole) (r.map .whole)).run st=some (o.map .whole)) (h2:(dS ws (o.map .whole) (o.map .whole)).run st=some (ids.map .whole)):
  Rb S (fG F f (xs,ws) n new) st/\(∀e,(fG F f (xs,ws) n new).run st=some e-> ∀y∈e.ws,S y.1):=by
 have s1: ∀b∈o,S b:=λb q=>by have:=oc h2 (.whole b) (hX.2 ⟨b,q,rfl⟩);obtain⟨c,hc,e⟩:=hX.1 this;injection e with e;subst e;exact w c hc
 have s0: ∀b∈r,S b:=λb q=>by have:=oc h1 (.whole b) (hX.2 ⟨b,q,rfl⟩);obtain⟨c,hc,e⟩:=hX.1 this;injection e with e;subst e;exact s1 c hc
 constructor;unfold fG;simp only[h0];refine bI (ZO s0) λa g=>?_;rw[h1]at g;injection g with g;subst g;refine bI (ZO s1) λa g=>?_;rw[h2]at g;injection g with g;subst g;split;split;exact JL;refine bI (qp w) λbl _=>?_;split;exact JL;split;split;exact bI re λ_ _=>bJ _;exact JL;exact JL;exact JL;intro e h y k;unfold fG at h;simp only[h0]at h;obtain⟨a,g,h⟩:=bind_some h;rw[h1]at g;injection g with g;subst g;obtain⟨a,g,h⟩:=bind_some h;rw[h2]at g;injection g with g;subst g;split at h;split at h;cases h;obtain⟨bl,_,h⟩:=bind_some h;split at h;cases h;split at h;rename_i hlen;split at h;rename_i v fresh _ z;obtain⟨x,q,h⟩:=bind_some h;injection h with h;subst h;simp only[zQ9]at k;rcases k with(k|k)|k;exact hw y k;exact w _ (rh q y k);obtain⟨j,A,e⟩:=fk z y k;rw[e];exact hn j (by simp only[nU,dP]at A hlen;omega);cases h;cases h;cases h
end
def tcR:TC->List Nat| .ptr b _=>[b]| .slr b=>[b]| .slo b _=>[b]| .ep b _ _=>[b]| .epo b _ _ _=>[b]| .pre b _=>[b]| .pro b _ _=>[b]| .suf b _=>[b]| .suo b _ _=>[b]|_=>[]
def tvR:TV->List Nat| .a (.c x)=>tcR x| .a (.m _ cs)=>cs.flatMap tcR|_=>[]
theorem JLZ(L:Nat->Nat)(x:TC):dY (aX L x)=tcR x:=by cases x<;>rfl
theorem fP(L:Nat->Nat)(v:TV):avR (JR L v)=tvR v:=by
 cases v with
 |a x=>
  cases x with
  |c x=>cases x<;>rfl
  |dt t x=>rfl
  |m t cs=>
   show(cs.map (aX L)).flatMap dY=cs.flatMap tcR;rw[List.flatMap_map]
   congr 1
   funext x;exact JLZ L x
  |fn f a c=>rfl
 |tup vs=>rfl
def rng(new:Nat):Nat->List Nat|0=>[]|k+1=>new::rng (new+1) k
theorem qF: ∀{k new j:Nat},j<k->new+j∈rng new k
 |0,_,_,h=>by omega
 |k+1,new,j,h=>by
  cases j with
  |zero=>simp[rng]
  |succ j=>simp only[rng,bX];right;rw[show new+(j+1)=new+1+j by omega];exact qF (by omega)
def fD{α β:Type}(m:Option α)(f:α->Option β):Option β:=match m with|some x=>f x|none=>none
theorem fH{α β:Type}{m:Option α}{f:α->Option β}{b:β}(h:fD m f=some b): ∃a,m=some a/\f a=some b:=by
 cases m with
 |none=>cases h
 |some a=>exact⟨a,rfl,h⟩
def jx(l:List (TV×Bool))(s:TSt):Option (List Nat):=GF l s λxs s1=>fD (CH xs []) λe=>fD (tZ s1 e e) λi1=>tZ s1 i1 i1
def tcU(l:List (TV×Bool))(n new:Nat)(s:TSt):Option (List Nat×List Nat):=fD (jx l s) λids=>some (rng new n++(l.flatMap λx=>tvR x.1)++ids,rng new n++(l.flatMap λx=>tvR x.1)++ids)
def tpR(s:TSt):List (Nat×TO)->Option (List Nat)|[]=>some []|(_,o)::r=>fD (tev o s) λv=>fD (tpR s r) λl=>some (tvR v++l)
def uw(op:TOp)(new:Nat)(s:TSt):Option (List Nat×List Nat):=
 match op with
 | .load _ _ x=>fD (tev x s) λv=>some (tvR v,[])
 | .newbox _=>some ([new],[new])
 | .store _ x y=>fD (tev x s) λv=>fD (tev y s) λu=>some (tvR v++tvR u,tvR v++tvR u)
 | .iaddr _ x _=>fD (tev x s) λv=>some (tvR v,[])
 | .lits own t n ps=>fD (tpR s ps) λl=>some (rng new (bU (.lits own t n ps))++l,rng new (bU (.lits own t n ps))++l)
 | .appn _ _ y=>fD (tev y s) λv=>some (new::tvR v,[new])
 | .app _ _ x y=>fD (tev x s) λv=>fD (tev y s) λu=>some (tvR v++tvR u,tvR v)
 | .appp _ _ x y=>fD (tev x s) λv=>fD (tev y s) λu=>some (tvR v++tvR u,tvR v)
 | .ppre _ x y=>fD (tev x s) λv=>some (tvR v,[])
 | .psuf _ x y=>fD (tev x s) λv=>some (tvR v,[])
 | .slice _ x _ _ _=>fD (tev x s) λv=>some (tvR v,tvR v)
 | .call _ args n=>fD (tT (args.map λx=>(x,false)) s) λl=>tcU l n new s
 | .callo _ args n=>fD (tT args s) λl=>tcU l n new s
 | .mkslice own t bytes l c=>some (rng new (bU (.mkslice own t bytes l c)),rng new (bU (.mkslice own t bytes l c)))
 | .conv k x=>fD (tev x s) λv=>some (rng new (bU (.conv k x))++tvR v,rng new (bU (.conv k x)))
 |_=>none
theorem jQ{F:Orc}{op:TOp}{new:Nat}{st:St}{S:Nat->Prop}(hd: ∀j,j<bU op->S (new+j))(h:Rb S (opR F (erp op) new) st):Rb S (opD F (erp op) new) st:=by unfold opD;rw[HZ];exact bI (Fl hd) λ_ _=>h
theorem jV{F:Orc}{op:AOp}{new:Nat}{st:St}{e:Eff}(h:(opD F op new).run st=some e):(opR F op new).run st=some e:=by unfold opD at h;obtain⟨_,_,h⟩:=bind_some h;exact h
def UW(F:Orc)(op:AOp)(new:Nat)(st:St)(U W:List Nat):Prop:=Rb (· ∈U) (opD F op new) st/\ ∀e,(opD F op new).run st=some e-> ∀y∈e.ws,y.1∈W
theorem gL{x:TO}{s:TSt}{v:TV}(h:tev x s=some v){a:AV}(ha:(ev (erO x)).run (Jw s)=some a):a=JR (lns s.sto) v:=by rw[bQ h]at ha;injection ha with ha;exact ha.symm
theorem C8{l:List (TV×Bool)}{s:TSt}{ids:List Nat}(h:jx l s=some ids): ∃(xs:List AV) (ws:List (Nat×Blk)) (e i1:List Nat),(eT (l.map (·.2)) (l.map λx=>JR (lns s.sto) x.1)).run (Jw s)=some (xs,ws)/\
  cF.entsOfL xs []=e.map .whole/\(dS ws (e.map .whole) (e.map .whole)).run (Jw s)=some (i1.map .whole)/\(dS ws (i1.map .whole) (i1.map .whole)).run (Jw s)=some (ids.map .whole):=by
 unfold jx at h;obtain⟨xs,s1,ws,h1,g,h⟩:=cv (Fzd.refl s) h;rw[jE]at g;obtain⟨e,h2,h⟩:=fH h;obtain⟨i1,k,j⟩:=fH h;exact⟨_,ws,e,i1,h1,PM (lns s.sto) (l:=[]) h2,yH g k,yH g j⟩
theorem JIr{F:Orc}{f:FuncId}{vs:List AV}{n new:Nat}{st:St}{S:Nat->Prop}{a:List AV×List (Nat×Blk)}(ha:(jK vs).run st=some a)(hr:Rb S (jK vs) st)
  (h: ∀(_:Unit),Rb S (fG F f a n new) st):Rb S (gY F f vs n new) st:=by
 unfold gY;refine bI hr λo j=>?_;rw[ha]at j;injection j with j;subst j;have h:=h ();unfold fG at h;intro b g;refine h b ?_
 revert g
 simp only[vH];intro g;rcases zQ9.1 g with g|g;exact zQ9.2 (.inl g);refine zQ9.2 (.inr ?_)
 revert g
 cases(dS a.2 (cF.entsOfL a.1 []) (cF.entsOfL a.1 [])).run st with
 |none=>intro g;exact g
 |some k=>
  simp only[cH,Option.getD_some,vH];intro g;rcases zQ9.1 g with g|g;exact zQ9.2 (.inl g);refine zQ9.2 (.inr ?_)
  revert g
  cases(dS a.2 k k).run st with
  |none=>intro g;exact g
  |some es=>
   simp only[cH,Option.getD_some];split;split;intro g;exact g;simp only[vH];intro g;rcases zQ9.1 g with g|g;exact zQ9.2 (.inl g);refine zQ9.2 (.inr ?_)
   revert g
   cases(jU a.2 (λe=>cV e es 0) es).run st with
   |none=>intro g;exact g
   |some bl=>
    simp only[cH,Option.getD_some];split;intro g;exact g;split;rename_i hlen;rw[if_pos (by omega)];intro g;exact g;intro g;simp[RM.reads]at g
   intro g;exact g
theorem Zn(F:Orc){op:TOp}{new:Nat}{s:TSt}{U W:List Nat}(h:uw op new s=some (U,W)):UW F (erp op) new (Jw s) U W:=by
 unfold uw at h;split at h;rename_i agg t x;obtain⟨v,C,h⟩:=fH h;injection h with h;injection h with h1 h2;subst h1 h2;refine⟨jQ (op:=.load agg t x) (λj B=>by simp[bU]at B) (bI (fM _) λa r=>?_),λe g y A=>?_⟩;rw[gL C r];exact JJX λb w=>by rw[fP]at w;exact w
 have g:=jV g;simp only[erp,opR]at g;obtain⟨a,r,g⟩:=bind_some g;rw[JJN g]at A;simp at A;rename_i t;injection h with h;injection h with h1 h2;subst h1 h2;refine⟨jQ (op:=.newbox t) (λj B=>by simp[bU]at B;subst B;simp) (bJ _),λe g y A=>?_⟩;have g:=jV g;injection g with g;subst g;simp only[hW]at A;subst A;simp;rename_i t x y;obtain⟨v,C,h⟩:=fH h;obtain⟨u,J,h⟩:=fH h;injection h with h;injection h with h1 h2;subst h1 h2;refine⟨jQ (op:=.store t x y) (λj B=>by simp[bU]at B) (bI (fM _) λa r=>bI (fM _) λc hc=>?_),λe g z D=>?_⟩;rw[gL C r,gL J hc];exact JIp (λb w=>by rw[fP]at w;simp[w]) (λb w=>by rw[fP]at w;simp[w]);have g:=jV g;simp only[erp,opR]at g;obtain⟨a,r,g⟩:=bind_some g;obtain⟨c,hc,g⟩:=bind_some g;have:=JIW g z D;rwa[gL C r,gL J hc,fP,fP]at this;rename_i t x i;obtain⟨v,C,h⟩:=fH h;injection h with h;injection h with h1 h2;subst h1 h2;refine⟨jQ (op:=.iaddr t x i) (λj B=>by simp[bU]at B) (bI (fM _) λa r=>bI (fM _) λc hc=>?_),λe g y A=>?_⟩;rw[gL C r];exact JGO λb w=>by rw[fP]at w;exact w
 have g:=jV g;simp only[erp,opR]at g;obtain⟨a,r,g⟩:=bind_some g;obtain⟨c,hc,g⟩:=bind_some g;rw[JIQ g]at A;simp at A;rename_i own t n ps;obtain⟨l,G,h⟩:=fH h;injection h with h;injection h with h1 h2;subst h1 h2;have Q: ∀x∈ps.map (λx=>erO x.2),∀v,(ev x).run (Jw s)=some v-> ∀b∈avR v,b∈rng new (bU (.lits own t n ps))++l:=by
  have Y: ∀(ps:List (Nat×TO)) (l:List Nat),tpR s ps=some l-> ∀x∈ps.map (λx=>erO x.2),∀v,(ev x).run (Jw s)=some v-> ∀b∈avR v,b∈l:=by
   intro ps
   induction ps with
   |nil=>intro l _ x E;simp at E
   |cons p ps ih=>
    intro l G x E v C b w;obtain⟨i,o⟩:=p;simp only[tpR]at G;obtain⟨u,J,G⟩:=fH G;obtain⟨q,hq,G⟩:=fH G;injection G with G;subst G;simp only[bP,bX]at E;rcases E with rfl|E;rw[gL J C,fP]at w;simp[w];simp[ih q hq x E v C b w]
  intro x E v C b w;exact zQ9.2 (.inr (Y ps l G x E v C b w))
 have I:(ps.map λx=>(x.1,erO x.2)).map (·.2)=ps.map λx=>erO x.2:=by simp
 refine⟨jQ (op:=.lits own t n ps) (λj B=>zQ9.2 (.inl (qF B))) ?_,λe g y A=>?_⟩;simp only[erp,opR,I];refine bI (Cq Q) λa _=>?_;split;split<;>exact bJ _
 exact JL;have g:=jV g;simp only[erp,opR,I]at g;obtain⟨a,r,g⟩:=bind_some g;split at g;split at g;rename_i M;injection g with g;subst g;simp only[zQ9,hW]at A;rcases A with A|rfl;exact YD Q r y A;exact zQ9.2 (.inl (by have:=qF (k:=bU (.lits own t n ps)) (new:=new) (j:=0) (by simp[bU,M]);simpa using this));injection g with g;subst g;exact YD Q r y A;cases g;rename_i t bytes y;obtain⟨v,C,h⟩:=fH h;injection h with h;injection h with h1 h2;subst h1 h2;refine⟨jQ (op:=.appn t bytes y) (λj B=>by simp[bU]at B;subst B;simp) (bI (fM _) λa r=>?_),λe g z D=>?_⟩;rw[gL C r];refine bI (OM λb w=>by rw[fP]at w;simp[w]) λrows _=>?_;split<;>first|exact bJ _|exact JL
 have g:=jV g;simp only[erp,opR]at g;obtain⟨a,r,g⟩:=bind_some g;obtain⟨rows,_,g⟩:=bind_some g;split at g;injection g with g;subst g;simp only[hW]at D;subst D;simp;cases g;rename_i t bytes x y;obtain⟨v,C,h⟩:=fH h;obtain⟨u,J,h⟩:=fH h;injection h with h;injection h with h1 h2;subst h1 h2;refine⟨jQ (op:=.app t bytes x y) (λj B=>by simp[bU]at B) (bI (fM _) λa r=>bI (fM _) λc hc=>?_),λe g z D=>?_⟩;rw[gL C r,gL J hc];exact JMr (λb w=>by rw[fP]at w;simp[w]) (λb w=>by rw[fP]at w;simp[w]);have g:=jV g;simp only[erp,opR]at g;obtain⟨a,r,g⟩:=bind_some g;obtain⟨c,hc,g⟩:=bind_some g;have:=JLs g z D;rwa[gL C r,fP]at this;rename_i t bytes x y;obtain⟨v,C,h⟩:=fH h;obtain⟨u,J,h⟩:=fH h;injection h with h;injection h with h1 h2;subst h1 h2;refine⟨jQ (op:=.appp t bytes x y) (λj B=>by simp[bU]at B) (bI (fM _) λa r=>bI (fM _) λc hc=>?_),λe g z D=>?_⟩;rw[gL C r,gL J hc];exact JLD (λb w=>by rw[fP]at w;simp[w]) (λb w=>by rw[fP]at w;simp[w]);have g:=jV g;simp only[erp,opR]at g;obtain⟨a,r,g⟩:=bind_some g;obtain⟨c,hc,g⟩:=bind_some g;have:=JM1 g z D;rwa[gL C r,fP]at this;rename_i t x y;obtain⟨v,C,h⟩:=fH h;injection h with h;injection h with h1 h2;subst h1 h2;refine⟨jQ (op:=.ppre t x y) (λj B=>by simp[bU]at B) (bI (fM _) λa r=>bI (fM _) λc hc=>?_),λe g z D=>?_⟩;rw[gL C r];exact JMC (λb w=>by rw[fP]at w;simp[w]);have g:=jV g;simp only[erp,opR]at g;obtain⟨a,r,g⟩:=bind_some g;obtain⟨c,hc,g⟩:=bind_some g;rw[JM4 g]at D;cases D;rename_i t x y;obtain⟨v,C,h⟩:=fH h;injection h with h;injection h with h1 h2;subst h1 h2;refine⟨jQ (op:=.psuf t x y) (λj B=>by simp[bU]at B) (bI (fM _) λa r=>bI (fM _) λc hc=>?_),λe g z D=>?_⟩;rw[gL C r];exact JME (λb w=>by rw[fP]at w;simp[w]);have g:=jV g;simp only[erp,opR]at g;obtain⟨a,r,g⟩:=bind_some g;obtain⟨c,hc,g⟩:=bind_some g;rw[JLu g]at D;cases D;rename_i kd x lo hi mx;obtain⟨v,C,h⟩:=fH h;injection h with h;injection h with h1 h2;subst h1 h2;refine⟨jQ (op:=.slice kd x lo hi mx) (λj B=>by simp[bU]at B) (bI (fM _) λa r=>bI (XJ _) λ_ _=>bI (XJ _) λ_ _=>bI (XJ _) λ_ _=>?_),λe g z D=>?_⟩;have e:=gL C r;split;refine bI (GL λb w=>?_) λy _=>?_;rw[e,fP]at w;exact w;split;split<;>first|exact bJ _|exact JL
 exact JL;exact NM _;have g:=jV g;simp only[erp,opR]at g;obtain⟨a,r,g⟩:=bind_some g;obtain⟨_,_,g⟩:=bind_some g;obtain⟨_,_,g⟩:=bind_some g;obtain⟨_,_,g⟩:=bind_some g;have e0:=gL C r;split at g;obtain⟨y,A,g⟩:=bind_some g;split at g;split at g;injection g with g;subst g;have:=GG A z D;rwa[e0,fP]at this;cases g;cases g;rw[NR g]at D;simp at D;rename_i f args n;obtain⟨l,G,h⟩:=fH h;unfold tcU at h;obtain⟨ids,hi,h⟩:=fH h;injection h with h;injection h with h1 h2;subst h1 h2;obtain⟨xs,ws,i0,i1,H,V,R,P⟩:=C8 hi;obtain⟨I,T⟩:=xY G;rw[PD]at I;rw[KK _ _ (λx E=>by rw[T,xF]at E;obtain⟨y,_,rfl⟩:=hX.1 E;rfl)]at H;have K: ∀x∈l.map (λx=>JR (lns s.sto) x.1),∀b∈avR x,b∈rng new n++(l.flatMap λx=>tvR x.1)++ids:=by intro x E b w;obtain⟨y,A,rfl⟩:=hX.1 E;rw[fP]at w;simp only[zQ9];exact .inl (.inr (List.mem_flatMap.2 ⟨y,A,w⟩))
 have Z:Rb (· ∈rng new n++(l.flatMap λx=>tvR x.1)++ids) (jK (l.map λx=>JR (lns s.sto) x.1)) (Jw s):=by rw[<-QI];exact IR K
 have L: ∀y∈ws,y.1∈rng new n++(l.flatMap λx=>tvR x.1)++ids:=by rw[<-QI]at H;exact IM (S:=(· ∈rng new n++(l.flatMap λx=>tvR x.1)++ids)) K H
 obtain⟨N,O⟩:=qf (F:=F) (f:=f) (S:=(· ∈rng new n++(l.flatMap λx=>tvR x.1)++ids)) (n:=n) (new:=new) (λb w=>by simp[w]) L
  (λj B=>by simp only[zQ9];exact .inl (.inl (qF B))) V R P
 refine⟨jQ (op:=.call f args n) (λj B=>by simp only[zQ9];exact .inl (.inl (qF B))) (bI (YG _) λa r=>?_),λe g y A=>?_⟩;rw[I]at r;injection r with r;subst r;exact JIr H Z λ_=>N;have g:=jV g;simp only[erp,opR]at g;obtain⟨a,r,g⟩:=bind_some g;rw[I]at r;injection r with r;subst r;obtain⟨ar,h1,h2⟩:=Eg g;rw[H]at h1;injection h1 with h1;subst h1;exact O e h2 y A;rename_i f args n;obtain⟨l,G,h⟩:=fH h;unfold tcU at h;obtain⟨ids,hi,h⟩:=fH h;injection h with h;injection h with h1 h2;subst h1 h2;obtain⟨xs,ws,i0,i1,H,V,R,P⟩:=C8 hi;obtain⟨I,T⟩:=xY G;have K: ∀x∈l.map (λx=>JR (lns s.sto) x.1),∀b∈avR x,b∈rng new n++(l.flatMap λx=>tvR x.1)++ids:=by intro x E b w;obtain⟨y,A,rfl⟩:=hX.1 E;rw[fP]at w;simp only[zQ9];exact .inl (.inr (List.mem_flatMap.2 ⟨y,A,w⟩))
 rw[T]at H;have L: ∀y∈ws,y.1∈rng new n++(l.flatMap λx=>tvR x.1)++ids:=IM (S:=(· ∈rng new n++(l.flatMap λx=>tvR x.1)++ids)) K H;obtain⟨N,O⟩:=qf (F:=F) (f:=f) (S:=(· ∈rng new n++(l.flatMap λx=>tvR x.1)++ids)) (n:=n) (new:=new) (λb w=>by simp[w]) L
  (λj B=>by simp only[zQ9];exact .inl (.inl (qF B))) V R P
 refine⟨jQ (op:=.callo f args n) (λj B=>by simp only[zQ9];exact .inl (.inl (qF B))) (bI (YG _) λa r=>?_),λe g y A=>?_⟩;rw[I]at r;injection r with r;subst r;refine bI (IR K) λa r=>?_;rw[H]at r;injection r with r;subst r;exact N;have g:=jV g;simp only[erp,opR]at g;obtain⟨a,r,g⟩:=bind_some g;rw[I]at r;injection r with r;subst r;obtain⟨a,r,g⟩:=bind_some g;rw[H]at r;injection r with r;subst r;exact O e g y A;rename_i own t bytes l c;injection h with h;injection h with h1 h2;subst h1 h2;refine⟨jQ (op:=.mkslice own t bytes l c) (λj B=>qF B) (bI (fM _) λa r=>bI (fM _) λd hd=>?_),λe g y A=>?_⟩;split;split;split<;>exact bJ _
 exact JL;exact JL;have g:=jV g;simp only[erp,opR]at g;obtain⟨a,r,g⟩:=bind_some g;obtain⟨d,hd,g⟩:=bind_some g;split at g;split at g;split at g;rename_i M;injection g with g;subst g;simp only[hW]at A;subst A;have:=qF (k:=bU (.mkslice own t bytes l c)) (new:=new) (j:=0) (by simp[bU,M]);simpa using this;injection g with g;subst g;simp at A;cases g;cases g;rename_i k x;obtain⟨v,C,h⟩:=fH h;injection h with h;injection h with h1 h2;subst h1 h2;refine⟨jQ (op:=.conv k x) (λj B=>zQ9.2 (.inl (qF B))) (bI (fM _) λa r=>?_),λe g y A=>?_⟩;have hr: ∀b∈avR a,b∈rng new (bU (.conv k x))++tvR v:=λb w=>by rw[gL C r,fP]at w;simp[w]
 split;exact bJ _;exact bJ _;refine bI (OM hr) λrows _=>?_;split<;>first|exact bJ _|exact JL
 split<;>exact bJ _
 exact JL;have g:=jV g;simp only[erp,opR]at g;obtain⟨a,r,g⟩:=bind_some g;split at g;injection g with g;subst g;simp at A;injection g with g;subst g;simp at A;obtain⟨rows,_,g⟩:=bind_some g;split at g;injection g with g;subst g;simp at A;cases g;split at g;rename_i M;injection g with g;subst g;simp only[hW]at A;subst A;simp[bU,M,rng];injection g with g;subst g;simp at A;cases g;cases h
abbrev oD:=Option (List Nat×List Nat)
section
variable {R:Type}
def Ah(i:iI)(s:TSt):Bool:=match i.g with|none=>false|some (g,e)=>if i.dst=some g then false else match tlk g s.env with|some (.a (.c (.d .b x)))=>if x=e then false else true|some (.tup [])=>true|_=>false
def uwI(i:iI)(new:Nat)(s s':TSt):oD:=if Ah i s'=true then some ([],[])else uw i.op new s
def MW(G:TG):List iI->Nat->TSt->List oD->(TSt->List oD->Option R)->Option R|[],_,s,l,k=>k s l|i::r,new,s,l,k=>SC G i new s λs'=>MW G r (new+bU i.op) s' (l++[uwI i new s s']) k
def rR:oD->(List Nat×List Nat)->Prop|none,_=>True|some (U,W),x=>(∀b∈x.1,b∈U)/\ ∀b∈x.2,b∈W
def MD(l:List oD):List (Nat×Nat)->Bool
 |[]=>true
 |(i,j)::r=>(match l[i]?,l[j]? with
  |some (some a),some (some b)=>fV a.2 b.1&&fV a.2 b.2&&fV a.1 b.2
  |_,_=>false)&&MD l r
theorem KE{b:Nat}: ∀{l:List Loc},b∈iW l->Loc.blk b∈l
 | .blk c::r,h=>by
  simp only[iW,bX]at h;rcases h with rfl|h;simp;simp[KE h]
 | .slot n::r,h=>by simp only[iW]at h;simp[KE h]
theorem rR.snoc{l:List oD}{l0:Log}{x:oD}{y:List Nat×List Nat}(hl:l.length=l0.length)(ho: ∀(j:Nat) a b,l[j]?=some a->l0[j]?=some b->rR a b)(hx:rR x y)(j:Nat)(a:oD)(b:List Nat×List Nat)(ha:(l++[x])[j]?=some a)(hb:(l0++[y])[j]?=some b):rR a b:=by
 rcases zQ3 j l.length with g|g;rw[jH g]at ha;rw[jH (by omega)]at hb;exact ho j a b ha hb;rw[dE g]at ha;rw[dE (by omega)]at hb;have e:j-l.length=0:=by have:=Jn ha;simp at this;omega
 rw[e]at ha;rw[<-hl,e]at hb;simp at ha hb;subst ha hb;exact hx
theorem JKs{F:Orc}{i:iI}{new:Nat}{s s':TSt}{e:Eff}(h:(bT F (eri i) new).run (Jw s)=some e)(hp:put i.dst e (Jw s)=Jw s'):rR (uwI i new s s') (iW ((bT F (eri i) new).reads (Jw s)),e.ws.map (·.1)):=by
 unfold uwI;split;rename_i k;unfold Ah at k;split at k;cases k;rename_i g o C;split at k;cases k;rename_i hd;have D:lk g (Jw s').env=lk g (Jw s).env:=(by rw[<-hp];unfold put;split;rename_i d B;show lk g ((d,e.val)::(Jw s).env)=_;simp only[lk];rw[if_neg (λG=>hd (by rw[B,G]))];rfl);have r: ∀v,tlk g s'.env=some v->lk g (Jw s).env=some (JR (lns s'.sto) v):=λv z=>by rw[<-D];show lk g (fF _ s'.env)=_;rw[xU,z];rfl
 split at k;rename_i x w;split at k;cases k;rename_i E;have n:=r _ w;rw[e_b]at n;have hi:bT F (eri i) new=.slot g fun
  | .p (.b x)=>if x=o then opD F (eri i).op new else .ret ⟨fY,[]⟩
  | .tup []=>.ret ⟨fY,[]⟩
  |_=>.fail:=by unfold bT;rw[show(eri i).g=i.g from rfl,C];rfl
 rw[hi]at h⊢;refine⟨λb j=>?_,λb j=>?_⟩;have:=KE j;simp only[RM.reads,n,bX,if_neg E]at this;rcases this with this|this;cases this;simp at this;simp only[vB,n,JQ,if_neg E,JX]at h;injection h with h;subst h;exact j;rename_i w;have n:=r _ w;have n:lk g (Jw s).env=some (.tup []):=n;have hi:bT F (eri i) new=.slot g fun
  | .p (.b x)=>if x=o then opD F (eri i).op new else .ret ⟨fY,[]⟩
  | .tup []=>.ret ⟨fY,[]⟩
  |_=>.fail:=by unfold bT;rw[show(eri i).g=i.g from rfl,C];rfl
 rw[hi]at h⊢;refine⟨λb j=>?_,λb j=>?_⟩;have:=KE j;simp only[RM.reads,n,bX]at this;rcases this with this|this;cases this;simp at this;simp only[vB,n,JQ,JX]at h;injection h with h;subst h;exact j;cases k;cases hu:uw i.op new s with
 |none=>trivial
 |some A=>
  obtain⟨U,W⟩:=A;obtain⟨h1,h2⟩:=Zn F hu;have H:Rb (· ∈U) (bT F (eri i) new) (Jw s):=(by unfold bT;split;exact h1;refine Ek λv z=>?_;split;split;exact h1;exact bJ _;exact bJ _;exact JL);refine⟨λb j=>H b (KE j),λb j=>?_⟩;obtain⟨y,q,rfl⟩:=hX.1 j;unfold bT at h;split at h;exact h2 e h y q;simp only[vB]at h;obtain⟨v,z,h⟩:=bF.1 h;split at h;split at h;exact h2 e h y q;injection h with h;subst h;simp at q;injection h with h;subst h;simp at q;cases h
theorem n7{F:Orc}{G:TG}(w:GOk F G): ∀{ins:List iI} {new:Nat} {s:TSt} {l:List oD} {l0:Log} {k:TSt->List oD->Option R} {r:R},l.length=l0.length->(∀(j:Nat) a b,l[j]?=some a->l0[j]?=some b->rR a b)->
  MW G ins new s l k=some r-> ∃s' n g,iU F (ins.map eri) new (Jw s) l0=some (Jw s',n)/\k s' g=some r/\g.length=n.length/\ ∀(j:Nat) a b,g[j]?=some a->n[j]?=some b->rR a b
 |[],new,s,l,l0,k,r,o,v,h=>⟨s,l0,l,rfl,h,o,v⟩
 |i::q,new,s,l,l0,k,r,o,v,h=>by simp only[MW]at h;obtain⟨e,s1,h1,h2,h⟩:=Fh w h;obtain⟨x,n,g,B,z,A,y⟩:=n7 w (l0:=l0++[(iW ((bT F (eri i) new).reads (Jw s)),e.ws.map (·.1))]) (by rw[dZ,dZ,o];rfl) (rR.snoc o v (JKs h1 h2)) h;refine⟨x,n,g,?_,z,A,y⟩;simp only[bP,iU,h1];rw[show put (eri i).dst e (Jw s)=Jw s1 from h2,show kP (eri i).op=bU i.op from HZ _,B]
theorem dh{a b e g:List Nat}(h:fV e g=true)(ha: ∀x∈a,x∈e)(hb: ∀x∈b,x∈g):fV a b=true:=by unfold fV at h⊢;rw[FI]at h⊢;intro x k;have:=h x (ha x k);simp only[jD,List.contains_eq_mem,decide_eq_false_iff_not]at this⊢;exact λj=>this (hb x j)
theorem n3{l:List oD}{e:Log}(hl:l.length=e.length)(ho: ∀(j:Nat) a b,l[j]?=some a->e[j]?=some b->rR a b): ∀{ps:List (Nat×Nat)},MD l ps=true->CW e ps=true
 |[],_=>rfl
 |(i,j)::r,h=>by
  simp only[MD,JW]at h;obtain⟨h1,h2⟩:=h;simp only[CW,JW];refine⟨?_,n3 hl ho h2⟩;split at h1;rename_i a b o q;have hi:i<e.length:=by have:=Jn o;omega
  have n:j<e.length:=by have:=Jn q;omega
  have g:=ho i _ _ o (JV hi);have k:=ho j _ _ q (JV n);rw[JV hi,JV n];simp only[JW]at h1⊢;exact⟨⟨dh h1.1.1 g.2 k.1,dh h1.1.2 g.2 k.2⟩,dh h1.2 g.1 k.2⟩;cases h1
def kc(G:TG)(pairs:List (Nat×Nat))(ins:List iI)(s:TSt)(k:TSt->Option R):Option R:=
 match pairs with
 |[]=>UE G ins s.sto.length (MJ (GX ins) s) k
 |p::ps=>MW G ins s.sto.length (MJ (GX ins) s) [] λs' l=>if MD l (p::ps)=true then k s' else none
theorem JKA{F:Orc}{G:TG}(e:GOk F G){pairs:List (Nat×Nat)}{ins:List iI}{s:TSt}{k:TSt->Option R}{r:R}(h:kc G pairs ins s k=some r): ∃s',region F pairs (ins.map eri) (Jw s)=some (Jw s')/\k s'=some r:=by
 have hlen:(Jw s).sto.length=s.sto.length:=by simp[Jw]
 unfold kc at h;split at h;obtain⟨s',h1,h2⟩:=Ej e h;refine⟨s',?_,h2⟩;simp only[region,di];rw[ou]at h1;rw[hlen];exact h1;obtain⟨s',w,v,h1,h2,o,g⟩:=n7 e (l0:=[]) rfl (λj a b q x=>by simp at q) h;split at h2;rename_i n;refine⟨s',?_,h2⟩;simp only[region,di];rw[ou]at h1;rw[hlen,h1];simp only[n3 o g n,if_true];cases h2
end
end Go.Am
end
section
namespace Go.Am
def uE(m:Nat)(ids:List Nat)(s:TSt):TC->Option TC
 | .ptr b p=>if b<m then some (.ptr b p)else match eE b ids m with|some k=>some (.ptr k p)|none=>none
 | .slr b=>if b<m then some (.slr b)else match eE b ids m with|some k=>some (.slr k)|none=>match s.sto[b]? with|some (.arr _ t rows)=>some (.d (.l t) rows)|_=>none
 | .slo b n=>if b<m then some (.slo b n)else match eE b ids m with|some k=>some (.slo k n)|none=>none
 | .ep b i p=>if b<m then some (.ep b i p)else match eE b ids m with|some k=>some (.ep k i p)|none=>none
 | .epo b e i p=>if b<m then some (.epo b e i p)else match eE b ids m with|some k=>some (.epo k e i p)|none=>none
 | .pre _ _=>none
 | .pro _ _ _=>none
 | .suf _ _=>none
 | .suo _ _ _=>none
 |x=>some x
def xJ(m:Nat)(ids:List Nat)(s:TSt):List TC->Option (List TC)|[]=>some []|x::r=>match uE m ids s x,xJ m ids s r with|some y,some l=>some (y::l)|_,_=>none
def BO(m:Nat)(ids:List Nat)(s:TSt):TA->Option TA
 | .c x=>match uE m ids s x with|some y=>some (.c y)|none=>none
 | .dt t x=>some (.dt t x)
 | .m t cs=>match xJ m ids s cs with
  |some l=>match asm t l with|some x=>some (.dt t x)|none=>if l.any SB=true then some (.m t l)else none
  |none=>none
 | .fn f a c=>match xJ m ids s a,xJ m ids s c with|some a,some c=>some (.fn f a c)|_,_=>none
def HJ(m:Nat)(ids:List Nat)(s:TSt):List TA->Option (List TA)|[]=>some []|x::r=>match BO m ids s x,HJ m ids s r with|some y,some l=>some (y::l)|_,_=>none
def kw(m:Nat)(ids:List Nat)(s:TSt):TV->Option TV
 | .a x=>match BO m ids s x with|some y=>some (.a y)|none=>none
 | .tup vs=>match HJ m ids s vs with|some l=>some (.tup l)|none=>none
def GT(m:Nat)(ids:List Nat)(s:TSt):TB->Option TB
 | .mbox t cs=>match xJ m ids s cs with|some l=>some (mkb t l)|none=>none
 |x=>some x
def uN(m:Nat)(ids:List Nat)(s:TSt):List TB->Option (List TB)|[]=>some []|x::r=>match GT m ids s x,uN m ids s r with|some y,some l=>some (y::l)|_,_=>none
def MO(m:Nat)(s:TSt):List (Nat×TV)->Option (List (Nat×TV))|[]=>some []|(k,x)::r=>match kw m [] s x,MO m s r with|some y,some l=>some ((k,y)::l)|_,_=>none
def oQ:List Nat->List (Nat×TV)->List (Nat×TV)|[],_=>[]|k::r,env=>match tlk k env with|some v=>(k,v)::oQ r env|none=>oQ r env
theorem IY(L:Nat->Nat)(env:List (Nat×TV)): ∀live:List Nat,restr live (fF L env)=fF L (oQ live env)
 |[]=>rfl
 |k::r=>by
  simp only[restr,oQ,xU];cases tlk k env with
  |none=>exact IY L env r
  |some v=>
   have ih:=IY L env r;grind [fF]
section
variable {m:Nat} {ids:List Nat} {s:TSt} {L':Nat->Nat} (h1: ∀b,b<m->L' b=lns s.sto b) (h2: ∀b k,eE b ids m=some k->L' k=lns s.sto b)
include h1 h2
theorem oz{x y:TC}(h:uE m ids s x=some y):fin m ids (Jw s).sto (aX (lns s.sto) x)=some (aX L' y):=by
 cases x with
 |ptr b p=>
  grind [uE,aX,fin]
 |slr b=>
  simp only[uE]at h;simp only[aX,fin];split at h;grind
  ·rename_i g;rw[if_neg g];split at h
   all_goals grind [dH,NC,iY,cel,hdP]
 |slo b n=>
  grind [uE,aX,fin]
 |ep b i p=>
  grind [uE,aX,fin]
 |epo b e i p=>
  grind [uE,aX,fin]
 |_=>first|(cases h;done)|(injection h with h;subst h;rfl)
theorem PB: ∀{xs e:List TC},xJ m ids s xs=some e->fin.finL m ids (Jw s).sto (xs.map (aX (lns s.sto)))=some (e.map (aX L'))
 |[],e,h=>by injection h with h;subst h;rfl
 |x::r,e,h=>by
  simp only[xJ]at h;split at h;rename_i y l j g;injection h with h;subst h;simp only[bP,fin.finL,oz h1 h2 j,PB g];cases h
theorem nu{x y:TA}(h:BO m ids s x=some y):fin m ids (Jw s).sto (bN (lns s.sto) x)=some (bN L' y):=by
 cases x with
 |c x=>
  simp only[BO]at h;split at h;rename_i y j;injection h with h;subst h;exact oz h1 h2 j;cases h
 |dt t x=>injection h with h;subst h;rfl
 |m t cs=>
  simp only[BO]at h;split at h;rename_i l g;have e:=PB h1 h2 g;grind [bN,fin,HQ,IQ,YU];cases h
 |fn f a c=>
  grind [BO,bN,fin,PB]
theorem fh: ∀{xs e:List TA},HJ m ids s xs=some e->fin.finL m ids (Jw s).sto (xs.map (bN (lns s.sto)))=some (e.map (bN L'))
 |[],e,h=>by injection h with h;subst h;rfl
 |x::r,e,h=>by
  simp only[HJ]at h;split at h;rename_i y l j g;injection h with h;subst h;simp only[bP,fin.finL,nu h1 h2 j,fh g];cases h
theorem JI4{x y:TV}(h:kw m ids s x=some y):fin m ids (Jw s).sto (JR (lns s.sto) x)=some (JR L' y):=by cases x<;>grind [kw,nu,JR,fin,fh]
theorem JH4{x y:TB}(h:GT m ids s x=some y):fK m ids (Jw s).sto (aT (lns s.sto) x)=some (aT L' y):=by
 cases x with
 |mbox t cs=>
  grind [GT,IC,fK,PB,OP]
 |box t x=>injection h with h;grind [CF,fK,pm]
 |_=>injection h with h;subst h;rfl
theorem PP: ∀{xs e:List TB},uN m ids s xs=some e->pU m ids (Jw s).sto (xs.map (aT (lns s.sto)))=some (e.map (aT L'))
 |[],e,h=>by injection h with h;subst h;rfl
 |x::r,e,h=>by
  simp only[uN]at h;split at h;rename_i y l j g;injection h with h;subst h;simp only[bP,pU,JH4 h1 h2 j,PP g];cases h
end
theorem JGc{m:Nat}{ids:List Nat}{s:TSt}{x y:TB}(h:GT m ids s x=some y):lnB y=lnB x:=by
 cases x with
 |mbox t cs=>
  simp only[GT]at h;split at h;injection h with h;subst h;exact OF _ _;cases h
 |_=>injection h with h;subst h;rfl
theorem QH{m:Nat}{ids:List Nat}{s:TSt}: ∀{xs e:List TB},uN m ids s xs=some e->e.length=xs.length/\ ∀(k:Nat),lns e k=lns xs k
 |[],e,h=>by injection h with h;simp_all
 |x::r,e,h=>by
  simp only[uN]at h;split at h;rename_i y l j g;injection h with h;subst h;obtain⟨n,o⟩:=QH g;refine⟨by simp[n],λk=>?_⟩;cases k with
  |zero=>exact JGc j
  |succ k=>exact o k
  cases h
theorem nb{m:Nat}{s:TSt}{L':Nat->Nat}(h1: ∀b,b<m->L' b=lns s.sto b): ∀{env e:List (Nat×TV)},MO m s env=some e->tN m (Jw s).sto (fF (lns s.sto) env)=some (fF L' e)
 |[],e,h=>by injection h with h;subst h;rfl
 |(k,x)::r,e,h=>by
  simp only[MO]at h;split at h;rename_i y l n j;injection h with h;subst h;simp only[fF,bP,tN];rw[JI4 (ids:=[]) h1 (λb k g=>by cases g) n];have ih:=nb h1 j;grind [fF];cases h
def qE(n:Nat)(live:List Nat)(s:TSt):Option TSt:=
 if s.sto.length=n then some ⟨oQ live s.env,s.sto⟩
 else match MO n s (oQ live s.env),uN n [] s (s.sto.take n)with|some e,some l=>some ⟨e,l⟩|_,_=>none
theorem DB{n:Nat}{live:List Nat}{s s':TSt}(h:qE n live s=some s'):clean n live (Jw s)=some (Jw s'):=by
 unfold qE at h;have hlen:(Jw s).sto.length=s.sto.length:=by simp[Jw]
 split at h;grind [clean,Jw,IY];rename_i o;split at h;rename_i e l q g;injection h with h;subst h;obtain⟨v,y⟩:=QH g;have hL: ∀b,b<n->lns l b=lns s.sto b:=λb r=>by
  grind [lns]
 unfold clean;rw[hlen,if_neg o];have x:=nb hL q;have w:=PP (ids:=[]) hL (λb k j=>by cases j) g;grind [Jw,IY,List.map_take];cases h
inductive xI where|tmp (t:Nat)|cell (t:Nat) (agg:Bool) (ty:Ty)
def erR:xI->tO| .tmp t=>.tmp t| .cell t agg ty=>.cell t agg ty.sz
def lx(agg:Bool)(ty:Ty)(v:TV)(s:TSt):Option TA:=
 if agg=true\/ty.sz=1 then
  match v with
  | .a (.c (.ptr b []))=>match s.sto[b]? with
   |some (.box t0 x)=>if h:t0=ty then(if agg=true then some (.dt ty (h▸x))else some (.c (.d ty (h▸x))))else none
   |some (.mbox _ cs)=>if cs.length=ty.sz then
    match mka agg ty cs with
    |some (.a x)=>some x
    |_=>none
    else none
   |_=>none
  |_=>none
 else none
theorem JH2{agg:Bool}{ty:Ty}{v:TV}{s:TSt}{x:TA}(h:lx agg ty v s=some x): ∃e,(fX agg ty.sz (JR (lns s.sto) v)).run (Jw s)=some e/\e.val=bN (lns s.sto) x:=by
 unfold lx at h;split at h;rename_i r;split at h;rename_i b;split at h;rename_i t0 y g;split at h;rename_i k;subst k;refine⟨⟨bN (lns s.sto) x,[]⟩,?_,rfl⟩;have hc:jZ agg ((cel t0 y).map .p)=nL agg (cel t0 y):=by
  unfold jZ nL;split;rw[IQ];cases hcel:cel t0 y with
  |nil=>rfl
  |cons a l=>cases l<;>rfl
 have j:sub (cel t0 y) 0 t0.sz=some (cel t0 y):=YN (dV _ _);have q:=CD (lns s.sto) r y;simp only[jP,spo,fX,cS,dH,g,cH,JQ,CF,CY,j,hc,q,val,JX];unfold mkv;split at h;rename_i h1;injection h with h;subst h;rw[if_pos h1];rfl;rename_i h1;injection h with h;subst h;rw[if_neg h1];rfl;cases h;rename_i cs g;split at h;rename_i o;split at h;rename_i y n;injection h with h;subst h;have j:sub cs 0 ty.sz=some cs:=YN o;refine⟨⟨bN (lns s.sto) y,[]⟩,?_,rfl⟩;simp only[jP,spo,fX,cS,dH,g,cH,JQ,IC,CY,j,CI (lns s.sto) n,val,JX];rfl;cases h;cases h;cases h;cases h;cases h
def AQ:List xI->TSt->Option (List TA)
 |[],_=>some []
 | .tmp t::r,s=>match tlk t s.env,AQ r s with|some (.a x),some l=>some (x::l)|_,_=>none
 | .cell t agg ty::r,s=>match tlk t s.env with
  |some v=>match lx agg ty v s,AQ r s with|some x,some l=>some (x::l)|_,_=>none
  |none=>none
theorem Ea(s:TSt)(t:Nat):(RM.slot t RM.ret).run (Jw s)=(tlk t s.env).map (JR (lns s.sto)):=by rw[vB];show(lk t (fF _ s.env)).bind _=_;simp[xU]
theorem ZF{s:TSt}: ∀{k:List xI} {l:List TA},AQ k s=some l->(mT (k.map erR)).run (Jw s)=some (l.map (bN (lns s.sto)))
 |[],l,h=>by injection h with h;subst h;rfl
 | .tmp t::r,l,h=>by
  simp only[AQ]at h;split at h;rename_i x n j g;injection h with h;subst h;simp only[bP,erR,mT,run_bind,Ea,j,cH,JQ,ZF g,JX];rfl;cases h
 | .cell t agg ty::r,l,h=>by
  simp only[AQ]at h;split at h;rename_i v o;split at h;rename_i x n j g;injection h with h;subst h;obtain⟨e,q,w⟩:=JH2 j;simp only[bP,erR,mT,run_bind,Ea,o,cH,JQ,q,ZF g,JX,w];cases h;cases h
def GO(s:TSt):List Nat->List Nat->Option (List Nat)
 |[],acc=>some acc
 |b::r,acc=>match s.sto[b]? with
  |some (.mbox _ cs)=>match tX cs acc with|some acc=>GO s r acc|none=>none
  |some _=>GO s r acc
  |none=>none
theorem PH{s:TSt}: ∀{r acc l:List Nat},GO s r acc=some l->pV (Jw s).sto (r.map .whole) (acc.map .whole)=l.map .whole
 |[],acc,l,h=>by injection h with h;subst h;rfl
 |b::r,acc,l,h=>by
  simp only[GO]at h;split at h;rename_i cs e;split at h;rename_i g j;simp only[bP,pV,dH,e,cH,IC,IN (lns s.sto) j];exact PH h;cases h;rename_i x k e;simp only[bP,pV,dH,e,cH];cases x with
  |mbox t cs=>simp_all
  |box t x=>simp only[CF];rw[qo];exact PH h
  |_=>exact PH h
  cases h
def kY(m:Nat)(fresh:Bool)(s:TSt):List Nat->List Nat
 |[]=>[]
 |b::r=>if b<m then kY m fresh s r else
  match s.sto[b]? with
  |some (.box _ _)=>b::kY m fresh s r
  |some (.mbox _ _)=>b::kY m fresh s r
  |some (.arr _ _ _)=>if fresh=true then b::kY m fresh s r else kY m fresh s r
  |_=>kY m fresh s r
theorem rk{m:Nat}{fresh:Bool}{s:TSt}: ∀r:List Nat,iX m fresh (Jw s).sto (r.map .whole)=kY m fresh s r
 |[]=>rfl
 |b::r=>by
  simp only[bP,iX,kY,dH];rw[rk r];split;rfl;cases s.sto[b]? with
  |none=>rfl
  |some x=>cases x<;>rfl
def MY(s:TSt):List Nat->Option (List TB)|[]=>some []|b::r=>match s.sto[b]?,MY s r with|some x,some l=>some (x::l)|_,_=>none
theorem m6{s:TSt}: ∀{ids:List Nat} {l:List TB},MY s ids=some l->uB (Jw s).sto ids=some (l.map (aT (lns s.sto)))/\l.length=ids.length/\ ∀(j b:Nat),ids[j]?=some b->lns l j=lns s.sto b
 |[],l,h=>by injection h with h;simp_all
 |b::r,l,h=>by
  simp only[MY]at h;split at h;rename_i x g q e;injection h with h;subst h;obtain⟨k,o,n⟩:=m6 e;grind [uB,dH,lns];cases h
def ES:List TA->TV|[x]=>.a x|l=>.tup l
theorem Fj(L:Nat->Nat)(l:List TA):one (l.map (bN L))=JR L (ES l):=by
 match l with
 |[]=>rfl
 |[x]=>rfl
 |x::y::r=>rfl
section
variable {R:Type}
def ID(res:List xI)(fresh:Bool)(m:Nat)(s:TSt)(E:TV->List TB->Option R):Option R:=
 match AQ res s with
 |none=>none
 |some vs=>
  if s.sto.length=m then E (ES vs) s.sto
  else match CH vs []with
   |none=>none
   |some e=>match GO s e e with
    |none=>none
    |some i1=>if iT (kY m fresh s i1)=true/\m<=s.sto.length then
     match HJ m (kY m fresh s i1) s vs,uN m (kY m fresh s i1) s (s.sto.take m),MY s (kY m fresh s i1)with
     |some ws,some l,some q=>match uN m (kY m fresh s i1) s q with|some q'=>E (ES ws) (l++q')|none=>none
     |_,_,_=>none
     else none
theorem JEW{f:AFn}{res:List xI}{fresh:Bool}{m:Nat}{s:TSt}{E:TV->List TB->Option R}{r:R}(n:f.res=res.map erR)(J:f.fresh=fresh)(h:ID res fresh m s E=some r):
  ∃v out,gM f m (Jw s)=some (JR (lns out) v,out.map (aT (lns out)))/\E v out=some r:=by
 unfold ID at h;have hlen:(Jw s).sto.length=s.sto.length:=by simp[Jw]
 split at h;cases h;rename_i vs hvs;have A:=ZF hvs;split at h;rename_i z;refine⟨ES vs,s.sto,?_,h⟩;unfold gM;rw[n,A];dsimp only;rw[hlen,if_pos z,Fj];rfl;rename_i z;split at h;cases h;rename_i C x;split at h;cases h;rename_i i1 o;split at h;rename_i j;obtain⟨L,Z⟩:=j;generalize g:kY m fresh s i1=ids at*;split at h;rename_i ws l q w y G;split at h;rename_i q' e;refine⟨ES ws,l++q',?_,h⟩;obtain⟨U,D⟩:=QH y;obtain⟨S,O,M⟩:=m6 G;obtain⟨P,T⟩:=QH e;have I:l.length=m:=by simp_all
 have h1: ∀b,b<m->lns (l++q') b=lns s.sto b:=λb W=>by
  have:=D b;grind [lns]
 have h2: ∀b k,eE b ids m=some k->lns (l++q') k=lns s.sto b:=λb k F=>by
  obtain⟨K,H⟩:=PQ F;grind [lns]
 have e1:=fh h1 h2 w;have Y:=PP h1 h2 y;have e3:=PP h1 h2 e;have V:cF.entsOfL (vs.map (bN (lns s.sto))) []=C.map .whole:=PM (lns s.sto) (l:=[]) x;have N:=PH o;have B:=rk (m:=m) (fresh:=fresh) (s:=s) i1;rw[g]at B;have Q:(Jw s).sto.take m=(s.sto.take m).map (aT (lns s.sto)):=by simp[Jw]
 grind [gM,Fj];cases h;cases h;cases h
end
end Go.Am
end
section
namespace Go.Am
inductive ShC where
 |d (t:Ty)
 |sc (t:Ty)
 |np
 |nf
 |un
 |ptr (b:Nat) (p:List Sp)
 |cp (t:Ty) (p:List Sp)
 |slr (b:Nat)
 |fn (f:FuncId)
 deriving DecidableEq
inductive ShA where
 |c (x:ShC)
 |dt (t:Ty)
 |m (t:Ty) (cs:List ShC)
 |fn (f:FuncId) (a c:List ShC)
 deriving DecidableEq
inductive ShV where
 |a (x:ShA)
 |tup (vs:List ShA)
 deriving DecidableEq
inductive ShB where
 |dead
 |box (t:Ty)
 |mbox (t:Ty) (cs:List ShC)
 |arr (w:Bool) (t:Ty)
 deriving DecidableEq
structure ShS where
 env:List (Nat×ShV)
 sto:List ShB
 deriving DecidableEq
abbrev Lf:=(t:Ty)×t.D
def shC:TC->Option (ShC×List Lf)| .d t x=>some (.d t,[⟨t,x⟩])| .sc t rows=>some (.sc t,[⟨.l t,rows⟩])| .np=>some (.np,[])| .nf=>some (.nf,[])| .un=>some (.un,[])| .ptr b p=>if(rK p).isSome=true then some (.ptr b p,[])else none| .cp t x p=>if(rK p).isSome=true then some (.cp t p,[⟨t,x⟩])else none| .slr b=>some (.slr b,[])| .fn f=>some (.fn f,[])|_=>none
def lf1(t:Ty)(l:List Lf):Option (t.D×List Lf):=
 match l with
 |⟨t',x⟩::r=>if h:t'=t then some (h▸x,r)else none
 |[]=>none
def mkC:ShC->List Lf->Option (TC×List Lf)
 | .d t,l=>match lf1 t l with|some (x,r)=>some (.d t x,r)|none=>none
 | .sc t,l=>match lf1 (.l t) l with|some (x,r)=>some (.sc t x,r)|none=>none
 | .np,l=>some (.np,l)
 | .nf,l=>some (.nf,l)
 | .un,l=>some (.un,l)
 | .ptr b p,l=>some (.ptr b p,l)
 | .cp t p,l=>match lf1 t l with|some (x,r)=>some (.cp t x p,r)|none=>none
 | .slr b,l=>some (.slr b,l)
 | .fn f,l=>some (.fn f,l)
theorem HL(t:Ty)(x:t.D)(r:List Lf):lf1 t (⟨t,x⟩::r)=some (x,r):=by simp[lf1]
theorem HO{x:TC}{sh:ShC}{e:List Lf}(h:shC x=some (sh,e))(rest:List Lf):mkC sh (e++rest)=some (x,rest):=by
 cases x<;>simp only[shC]at h<;>first
  |(split at h
    simp only[Option.some.injEq,Prod.mk.injEq]at h;obtain⟨rfl,rfl⟩:=h;simp only[lQ,jE,mkC,HL];cases h)
  |(simp only[Option.some.injEq,Prod.mk.injEq]at h
    obtain⟨rfl,rfl⟩:=h;simp only[lQ,jE,mkC,HL])
  |cases h
def shL{α σ:Type}(f:α->Option (σ×List Lf)):List α->Option (List σ×List Lf)|[]=>some ([],[])|x::r=>match f x,shL f r with|some (s,l),some (q,k)=>some (s::q,l++k)|_,_=>none
def mkL{α σ:Type}(g:σ->List Lf->Option (α×List Lf)):List σ->List Lf->Option (List α×List Lf)
 |[],l=>some ([],l)
 |s::r,l=>match g s l with
  |some (x,l)=>match mkL g r l with|some (q,l)=>some (x::q,l)|none=>none
  |none=>none
theorem oO{α σ:Type}{f:α->Option (σ×List Lf)}{g:σ->List Lf->Option (α×List Lf)}(n: ∀{x:α} {s:σ} {e:List Lf},f x=some (s,e)-> ∀rest,g s (e++rest)=some (x,rest)):
  ∀{xs:List α} {j:List σ} {e:List Lf},shL f xs=some (j,e)-> ∀rest,mkL g j (e++rest)=some (xs,rest)
 |[],j,e,h,rest=>by injection h with h;injection h with h1 h2;subst h1 h2;rfl
 |x::r,j,e,h,rest=>by
  simp only[shL]at h;split at h;rename_i s l q k h1 h2;injection h with h;injection h with h3 h4;subst h3 h4;simp only[mkL,nV,n h1,oO n h2];cases h
def shA:TA->Option (ShA×List Lf)
 | .c x=>match shC x with|some (s,l)=>some (.c s,l)|none=>none
 | .dt t x=>some (.dt t,[⟨t,x⟩])
 | .m t cs=>match shL shC cs with|some (s,l)=>some (.m t s,l)|none=>none
 | .fn f a c=>match shL shC a,shL shC c with|some (s,l),some (q,k)=>some (.fn f s q,l++k)|_,_=>none
def mkA:ShA->List Lf->Option (TA×List Lf)
 | .c s,l=>match mkC s l with|some (x,l)=>some (.c x,l)|none=>none
 | .dt t,l=>match lf1 t l with|some (x,l)=>some (.dt t x,l)|none=>none
 | .m t s,l=>match mkL mkC s l with|some (x,l)=>some (.m t x,l)|none=>none
 | .fn f a c,l=>match mkL mkC a l with
  |some (x,l)=>match mkL mkC c l with|some (y,l)=>some (.fn f x y,l)|none=>none
  |none=>none
theorem YK{x:TA}{sh:ShA}{e:List Lf}(h:shA x=some (sh,e))(rest:List Lf):mkA sh (e++rest)=some (x,rest):=by
 cases x with
 |c x=>
  simp only[shA]at h;split at h;rename_i s l h1;injection h with h;injection h with h2 h3;subst h2 h3;simp only[mkA,HO h1];cases h
 |dt t x=>injection h with h;grind [mkA,HL]
 |m t cs=>
  simp only[shA]at h;split at h;rename_i s l h1;injection h with h;injection h with h2 h3;subst h2 h3;simp only[mkA,oO HO h1];cases h
 |fn f a c=>
  simp only[shA]at h;split at h;rename_i s l q k h1 h2;injection h with h;injection h with h3 h4;subst h3 h4;simp only[mkA,nV,oO HO h1,oO HO h2];cases h
def shV:TV->Option (ShV×List Lf)
 | .a x=>match shA x with|some (s,l)=>some (.a s,l)|none=>none
 | .tup vs=>match shL shA vs with|some (s,l)=>some (.tup s,l)|none=>none
def mkV:ShV->List Lf->Option (TV×List Lf)
 | .a s,l=>match mkA s l with|some (x,l)=>some (.a x,l)|none=>none
 | .tup s,l=>match mkL mkA s l with|some (x,l)=>some (.tup x,l)|none=>none
theorem Cz{x:TV}{sh:ShV}{e:List Lf}(h:shV x=some (sh,e))(rest:List Lf):mkV sh (e++rest)=some (x,rest):=by
 cases x with
 |a x=>
  simp only[shV]at h;split at h;rename_i s l h1;injection h with h;injection h with h2 h3;subst h2 h3;simp only[mkV,YK h1];cases h
 |tup vs=>
  simp only[shV]at h;split at h;rename_i s l h1;injection h with h;injection h with h2 h3;subst h2 h3;simp only[mkV,oO YK h1];cases h
def shB:TB->Option (ShB×List Lf)
 | .dead=>some (.dead,[])
 | .box t x=>some (.box t,[⟨t,x⟩])
 | .mbox t cs=>match shL shC cs with|some (s,l)=>some (.mbox t s,l)|none=>none
 | .arr w t rows=>some (.arr w t,[⟨.l t,rows⟩])
def mkB:ShB->List Lf->Option (TB×List Lf)
 | .dead,l=>some (.dead,l)
 | .box t,l=>match lf1 t l with|some (x,l)=>some (.box t x,l)|none=>none
 | .mbox t s,l=>match mkL mkC s l with|some (x,l)=>some (.mbox t x,l)|none=>none
 | .arr w t,l=>match lf1 (.l t) l with|some (x,l)=>some (.arr w t x,l)|none=>none
theorem XR{x:TB}{sh:ShB}{e:List Lf}(h:shB x=some (sh,e))(rest:List Lf):mkB sh (e++rest)=some (x,rest):=by
 cases x with
 |dead=>injection h with h;injection h with h2 h3;subst h2 h3;rfl
 |box t x=>injection h with h;grind [mkB,HL]
 |mbox t cs=>
  simp only[shB]at h;split at h;rename_i s l h1;injection h with h;injection h with h2 h3;subst h2 h3;simp only[mkB,oO HO h1];cases h
 |arr w t rows=>injection h with h;grind [mkB,HL]
def shE(x:Nat×TV):Option ((Nat×ShV)×List Lf):=match shV x.2 with|some (s,l)=>some ((x.1,s),l)|none=>none
def mkE(x:Nat×ShV)(l:List Lf):Option ((Nat×TV)×List Lf):=match mkV x.2 l with|some (v,l)=>some ((x.1,v),l)|none=>none
theorem JL9{x:Nat×TV}{sh:Nat×ShV}{e:List Lf}(h:shE x=some (sh,e))(rest:List Lf):mkE sh (e++rest)=some (x,rest):=by
 unfold shE at h;split at h;rename_i s l h1;injection h with h;injection h with h2 h3;subst h2 h3;simp only[mkE,Cz h1];cases h
def shS(s:TSt):Option (ShS×List Lf):=match shL shE s.env,shL shB s.sto with|some (a,l),some (c,k)=>some (⟨a,c⟩,l++k)|_,_=>none
def tW(s:ShS)(l:List Lf):Option TSt:=match mkL mkE s.env l with
 |some (a,l)=>match mkL mkB s.sto l with|some (c,[])=>some ⟨a,c⟩|_=>none
 |none=>none
theorem Ey{x:TSt}{sh:ShS}{g:List Lf}(h:shS x=some (sh,g)):tW sh g=some x:=by
 unfold shS at h;split at h;rename_i a l c k h1 h2;injection h with h;injection h with h3 h4;subst h3 h4;have e:=oO XR h2 [];rw[gU]at e;simp only[tW,oO JL9 h1,e];cases h
def tyL:List Ty->Ty|[]=>.u|[t]=>t|t::t'::r=>.pr t (tyL (t'::r))
def tV:(e:List Lf)->(tyL (e.map (·.1))).D|[]=>()|[x]=>x.2|x::y::r=>(x.2,tV (y::r))
def nF:(ts:List Ty)->(tyL ts).D->List Lf|[],_=>[]|[t],x=>[⟨t,x⟩]|t::t'::r,x=>⟨t,x.1⟩::nF (t'::r) x.2
theorem ey: ∀e:List Lf,nF (e.map (·.1)) (tV e)=e
 |[]=>rfl
 |[x]=>rfl
 |x::y::r=>by
  have:=ey (y::r);grind [nF,tV]
def asL(ts:List Ty)(e:List Lf):Option (tyL ts).D:=if h:e.map (·.1)=ts then some (h▸tV e)else none
theorem XU{ts:List Ty}{e:List Lf}{x:(tyL ts).D}(h:asL ts e=some x):nF ts x=e:=by
 grind [asL,ey]
def AL(sh:ShS)(ts:List Ty)(s:TSt):Option (tyL ts).D:=match shS s with|some (e,g)=>if e=sh then asL ts g else none|none=>none
theorem D2{sh:ShS}{ts:List Ty}{s:TSt}{x:(tyL ts).D}(h:AL sh ts s=some x):tW sh (nF ts x)=some s:=by
 grind [AL,XU,Ey]
inductive TCo where|skip|bad|reg (draw:Bool) (pairs:List (Nat×Nat)) (ins:List iI)|seq (a b:TCo)|cond (c:TO) (a b:TCo)|block (id:Nat) (c:TCo)|loop (live:List Nat) (c:TCo)|scope (c:TCo)|exit (id:Nat)|ret|keep (live:List Nat) (c:TCo)|tidy (live:List Nat) (c:TCo)|jn (sh:ShS) (ts:List Ty) (a b:TCo)
def erc:TCo->bW| .skip=>.skip| .bad=>.bad| .reg d p ins=>.reg d p (ins.map eri)| .seq a b=>.seq (erc a) (erc b)| .cond c a b=>.cond (erO c) (erc a) (erc b)| .block id c=>.block id (erc c)| .loop live c=>.loop live (erc c)| .scope c=>.scope (erc c)| .exit id=>.exit id| .ret=>.ret| .keep live c=>.keep live (erc c)| .tidy live c=>.tidy live (erc c)| .jn sh _ a b=>.seq (erc a) (.keep (sh.env.map (·.1)) (erc b))
structure TK(R:Type) where
 n:TSt->Option R
 x:Nat->TSt->Option R
 r:TSt->Option R
def TK.at'{R:Type}(K:TK R):AX->TSt->Option R| .normal=>K.n| .exit i=>K.x i| .ret=>K.r
def rbO(c:TO)(v:Bool)(s:TSt):TSt:=match c with| .t n=>rb n (vb v) s| .c _=>s
def jnO{σ R:Type}(m:Option (σ⊕R))(f:σ->Option R):Option R:=match m with|some (.inl x)=>f x|some (.inr r)=>some r|none=>none
def inl?{σ R:Type}(m:Option σ):Option (σ⊕R):=match m with|some x=>some (.inl x)|none=>none
def onO{α R:Type}(m:Option α)(k:α->Option R):Option R:=match m with|some x=>k x|none=>none
theorem qK{α R:Type}{m:Option α}{k:α->Option R}{r:R}(h:onO m k=some r): ∃x,m=some x/\k x=some r:=by
 cases m with
 |none=>cases h
 |some x=>exact⟨x,rfl,h⟩
def TQ{R:Type}(clean:TSt->Option TSt)(body:(TSt->Option R)->TSt->Option R):Nat->TSt->Option R|0,_=>none|k+1,s=>body (λs'=>onO (clean s') (TQ clean body k)) s
def orO{σ R:Type}(m:Option σ)(f:Unit->Option R):Option (σ⊕R):=match m with|some x=>some (.inl x)|none=>(f ()).map .inr
noncomputable def trc(G:TG):TCo->(R:Type)->TK R->TSt->Option R
 | .skip,_,K,s=>K.n s
 | .bad,_,_,_=>none
 | .reg _ p ins,_,K,s=>kc G p ins s K.n
 | .seq a b,R,K,s=>trc G a R ⟨λs=>trc G b R K s,K.x,K.r⟩ s
 | .cond c a b,R,K,s=>match tev c s with|some (.a (.c (.d .b x)))=>if x=true then trc G a R K (rbO c true s)else trc G b R K (rbO c false s)|_=>none
 | .block id c,R,K,s=>trc G c R ⟨K.n,λi s=>if i=id then K.n s else K.x i s,K.r⟩ s
 | .loop live c,R,K,s=>onO (shS ⟨oQ live s.env,s.sto⟩) fun(sh,e)=>
   J4 (λx:(tyL (e.map (·.1))).D=>onO (tW sh (nF (e.map (·.1)) x)) λs1=>
    trc G c ((tyL (e.map (·.1))).D⊕R) ⟨λs'=>onO (qE s.sto.length live s') λs'=>orO (AL sh (e.map (·.1)) s') λ_=>TQ (qE s.sto.length live) (λagain s=>trc G c R ⟨again,K.x,K.r⟩ s) 3 s',λi s'=>(K.x i s').map .inr,λs'=>(K.r s').map .inr⟩ s1) (tV e)
 | .scope c,R,K,s=>trc G c R K s
 | .exit id,_,K,s=>K.x id s
 | .ret,_,K,s=>K.r s
 | .keep live c,R,K,s=>trc G c R K ⟨oQ live s.env,s.sto⟩
 | .tidy live c,R,K,s=>trc G c R ⟨λs'=>onO (qE s.sto.length live s') K.n,λi s'=>onO (qE s.sto.length live s') (K.x i),λs'=>onO (qE s.sto.length live s') K.r⟩ s
 | .jn sh ts a b,R,K,s=>jnO (trc G a ((tyL ts).D⊕R) ⟨λs'=>inl? (AL sh ts ⟨oQ (sh.env.map (·.1)) s'.env,s'.sto⟩),λi s'=>(K.x i s').map .inr,λs'=>(K.r s').map .inr⟩ s)
   λx=>onO (tW sh (nF ts x)) λs1=>trc G b R K s1
theorem dr(live:List Nat)(s:TSt):Jw ⟨oQ live s.env,s.sto⟩=⟨restr live (Jw s).env,(Jw s).sto⟩:=by simp[Jw,IY]
theorem Cl{c:TO}{x:Bool}{s:TSt}(h:tev c s=some (vb x)):rbO c x s=s:=by
 cases c with
 |t n=>exact XV h
 |c v=>rfl
theorem JHU{σ R:Type}{m:Option σ}{o:σ⊕R}(h:inl? m=some o): ∃x,m=some x/\o=.inl x:=by
 cases m with
 |none=>cases h
 |some x=>injection h with h;simp_all
theorem kX{T:cW}{G:TG}(q:GOk (AF T) G): ∀{c:TCo} {R:Type} {K:TK R} {s:TSt} {r:R},trc G c R K s=some r-> ∃o s',X T (erc c) (Jw s)=some (o,Jw s')/\K.at' o s'=some r
 | .skip,R,K,s,r,h=>⟨.normal,s,by simp[erc],h⟩
 | .bad,R,K,s,r,h=>by cases h
 | .reg d p ins,R,K,s,r,h=>by obtain⟨s',h1,h2⟩:=JKA q h;exact⟨.normal,s',by simp_all [erc,Bt],h2⟩
 | .seq a b,R,K,s,r,h=>by
  obtain⟨o,s1,h1,h2⟩:=kX q (c:=a) h;rw[erc,B1,h1];cases o with
  |normal=>obtain⟨o,n,j,g⟩:=kX q (c:=b) h2;exact⟨o,n,j,g⟩
  |exit i=>exact⟨.exit i,s1,rfl,h2⟩
  |ret=>exact⟨.ret,s1,rfl,h2⟩
 | .cond c a b,R,K,s,r,h=>by
  unfold trc at h;split at h;rename_i x v;have e:evv (erO c) (Jw s).env=some (.p (.b x)):=by rw[<-NH (erO c) (Jw s),bQ v];rfl
  rw[erc,JKT,e,Bs];split at h;rename_i A;subst A;rw[Cl v]at h;simp only[if_true];exact kX q (c:=a) h;rename_i A;have:x=false:=by simpa using A
  subst this;rw[Cl v]at h;simp only[dU,if_false];exact kX q (c:=b) h;cases h
 | .block id c,R,K,s,r,h=>by
  obtain⟨o,s1,h1,h2⟩:=kX q (c:=c) h;rw[erc,JJw,h1];cases o with
  |normal=>exact⟨.normal,s1,rfl,h2⟩
  |exit i=>
   simp only[nz];simp only[TK.at']at h2;split at h2;rename_i hi;rw[if_pos hi];exact⟨.normal,s1,rfl,h2⟩;rename_i hi;rw[if_neg hi];exact⟨.exit i,s1,rfl,h2⟩
  |ret=>exact⟨.ret,s1,rfl,h2⟩
 | .loop live c,R,K,s,r,h=>by
  unfold trc at h;obtain⟨⟨sh,w⟩,M,h⟩:=qK h;dsimp only at h;have E: ∀(k:Nat) {n:TSt} {r:R},TQ (qE s.sto.length live) (λagain s=>trc G c R ⟨again,K.x,K.r⟩ s) k n=some r->
    ∃o s',X T (.lp s.sto.length live (erc c)) (Jw n)=some (o,Jw s')/\K.at' o s'=some r:=by
   intro k
   induction k with
   |zero=>intro n r h;cases h
   |succ k ih=>
    intro n r h;obtain⟨o,B,h1,h2⟩:=kX q (c:=c) h;rw[ke,h1];cases o with
    |normal=>
     obtain⟨N,hc,h2⟩:=qK h2;grind [IZ,DB]
    |exit i=>exact⟨.exit i,B,rfl,h2⟩
    |ret=>exact⟨.ret,B,rfl,h2⟩
  have C: ∀{x:(tyL (w.map (·.1))).D} {r:R},J4 (λx:(tyL (w.map (·.1))).D=>onO (tW sh (nF (w.map (·.1)) x)) λs1=>
    trc G c ((tyL (w.map (·.1))).D⊕R) ⟨λs'=>onO (qE s.sto.length live s') λs'=>orO (AL sh (w.map (·.1)) s') λ_=>TQ (qE s.sto.length live) (λagain s=>trc G c R ⟨again,K.x,K.r⟩ s) 3 s',λi s'=>(K.x i s').map .inr,λs'=>(K.r s').map .inr⟩ s1) x=some r->
    ∃st,tW sh (nF (w.map (·.1)) x)=some st/\ ∃o s',X T (.lp s.sto.length live (erc c)) (Jw st)=some (o,Jw s')/\K.at' o s'=some r:=by
   intro x r L;refine eu (P:=fun(x:(tyL (w.map (·.1))).D) (r:R)=> ∃st,tW sh (nF (w.map (·.1)) x)=some st/\ ∃o s',X T (.lp s.sto.length live (erc c)) (Jw st)=some (o,Jw s')/\K.at' o s'=some r) ?_ ?_ L;intro x r v;obtain⟨st,z,v⟩:=qK v;obtain⟨o,s1,h1,h2⟩:=kX q (c:=c) v;refine⟨st,z,?_⟩;rw[ke,h1];cases o with
   |normal=>
    obtain⟨n,hc,h2⟩:=qK h2;unfold orO at h2;grind [Option.map_eq_some_iff,IZ,DB]
   |exit i=>obtain⟨r',j,g⟩:=fW.1 h2;injection g with g;subst g;exact⟨.exit i,s1,rfl,j⟩
   |ret=>obtain⟨r',j,g⟩:=fW.1 h2;injection g with g;subst g;exact⟨.ret,s1,rfl,j⟩
   rintro x y r v ⟨st',I,o,B,J,H⟩;obtain⟨st,z,v⟩:=qK v;obtain⟨F,s1,h1,h2⟩:=kX q (c:=c) v;refine⟨st,z,?_⟩;rw[ke,h1];cases F with
   |normal=>
    obtain⟨n,hc,h2⟩:=qK h2;unfold orO at h2;grind [D2,IZ,DB,Option.map_eq_some_iff]
   |exit i=>obtain⟨r',_,g⟩:=fW.1 h2;cases g
   |ret=>obtain⟨r',_,g⟩:=fW.1 h2;cases g
  obtain⟨st,z,o,s',h1,h2⟩:=C h;rw[ey,Ey M]at z;grind [erc,Jw,JLU,dr]
 | .scope c,R,K,s,r,h=>by
  obtain⟨o,s1,h1,h2⟩:=kX q (c:=c) h;grind [erc,JJQ]
 | .exit id,R,K,s,r,h=>⟨.exit id,s,by simp[erc],h⟩
 | .ret,R,K,s,r,h=>⟨.ret,s,by rw[erc,Ze],h⟩
 | .keep live c,R,K,s,r,h=>by
  obtain⟨o,s1,h1,h2⟩:=kX q (c:=c) h;grind [erc,B3,dr]
 | .tidy live c,R,K,s,r,h=>by
  obtain⟨o,s1,h1,h2⟩:=kX q (c:=c) h;rw[erc,JLm,h1,JA5,show(Jw s).sto.length=s.sto.length by simp[Jw]];cases o with
  |normal=>obtain⟨n,j,g⟩:=qK h2;rw[DB j];exact⟨.normal,n,rfl,g⟩
  |exit i=>obtain⟨n,j,g⟩:=qK h2;rw[DB j];exact⟨.exit i,n,rfl,g⟩
  |ret=>obtain⟨n,j,g⟩:=qK h2;rw[DB j];exact⟨.ret,n,rfl,g⟩
 | .jn sh ts a b,R,K,s,r,h=>by
  unfold trc at h;rw[erc,B1];cases ho:trc G a ((tyL ts).D⊕R) ⟨λs'=>inl? (AL sh ts ⟨oQ (sh.env.map (·.1)) s'.env,s'.sto⟩),λi s'=>(K.x i s').map .inr,λs'=>(K.r s').map .inr⟩ s with
  |none=>rw[ho]at h;cases h
  |some res=>
   rw[ho]at h;obtain⟨o,s1,h1,h2⟩:=kX q (c:=a) ho;rw[h1];cases o with
   |normal=>
    obtain⟨x,v,rfl⟩:=JHU h2;obtain⟨n,j,g⟩:=qK h;rw[D2 v]at j;injection j with j;subst j;obtain⟨o,B,J,H⟩:=kX q (c:=b) g;grind [IZ,B3,dr]
   |exit i=>obtain⟨r',j,g⟩:=fW.1 h2;subst g;injection h with h;subst h;exact⟨.exit i,s1,rfl,j⟩
   |ret=>obtain⟨r',j,g⟩:=fW.1 h2;subst g;injection h with h;subst h;exact⟨.ret,s1,rfl,j⟩
end Go.Am
end
