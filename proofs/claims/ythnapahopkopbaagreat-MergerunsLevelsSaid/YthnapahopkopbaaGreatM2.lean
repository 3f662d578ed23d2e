/-
  Parts of a proof.
-/
import Derived.Orders
import Derived.LoopN
import Derived.Scope
import Derived.Below
import Derived.Test.YthnapahopkopbaaGreatM1
set_option linter.unusedSimpArgs false
set_option linter.unusedVariables false
section
namespace Go.Am
section
variable {P:Program} {F:Orc} {s:Sn} {a:Act} {env:List (Nat×AV)} {o:Oper} {new:Nat} {e:Eff}
theorem Jv3{k:List Blk}(hi:Inv s)(o:Frz k s.σ){x:AV}{y:AV×List (Nat×Blk)}{v:Value}(h:(J8P x).run ⟨env,k⟩=some y)(hr:JH s x v):
  ∃g',Inv ⟨upd y.2 s.σ,g',s.w⟩/\J0k s ⟨upd y.2 s.σ,g',s.w⟩/\Frz s.σ (upd y.2 s.σ)/\JH ⟨upd y.2 s.σ,g',s.w⟩ y.1 v:=by
 have same: ∀{z:AV},(RM.ret (z,[]):RM (AV×List (Nat×Blk))).run ⟨env,k⟩=some y->JH s z v-> ∃g',Inv ⟨upd y.2 s.σ,g',s.w⟩/\J0k s ⟨upd y.2 s.σ,g',s.w⟩/\Frz s.σ (upd y.2 s.σ)/\JH ⟨upd y.2 s.σ,g',s.w⟩ y.1 v:=by
  intro z hz hr;simp only[RM.run]at hz;injection hz with hz;subst hz
  exact⟨s.g,hi,.refl s,.refl _,hr⟩
 cases x with
 |slr b i n=>
  simp only[J8P]at h;obtain⟨q,h1,h⟩:=bind_some h;obtain⟨g',k1,k2,j,c,hc,A⟩:=J9R hi o h1 hr;rw[hc]at h;simp only[RM.run]at h;injection h with h;subst h
  exact⟨g',k1,k2,j,.p _ _ A⟩
 |agg cs=>
  simp only[J8P]at h;obtain⟨q,h1,h⟩:=bind_some h;simp only[RM.run]at h;injection h with h;subst h
  obtain⟨g',k1,k2,j,B,r⟩:=JtH hi o h1 hr;cases hr with
  |agg _ vs h1 C h2=>exact⟨g',k1,k2,j,.data _ _ B λi x v hx hv=>r i x v hx hv⟩
 |tup=>grind [J8P,RM.run]
 |p c=>exact same h hr
 |data cs=>exact same h hr
 |ptr b off=>exact same h hr
 |cp cs off=>exact same h hr
 |ep b e i off=>exact same h hr
 |fn f first caps=>exact same h hr
 |unk=>exact same h hr
theorem Jpp{n:List Blk}: ∀{xs:List AV} {s:Sn} {y:List AV×List (Nat×Blk)} {vs:List Value},Inv s->Frz n s.σ->(J78 xs).run ⟨env,n⟩=some y->xs.length=vs.length->
  (∀(i:Nat) x v,xs[i]?=some x->vs[i]?=some v->JH s x v)->
  ∃g',Inv ⟨upd y.2 s.σ,g',s.w⟩/\J0k s ⟨upd y.2 s.σ,g',s.w⟩/\Frz s.σ (upd y.2 s.σ)/\y.1.length=vs.length/\
   ∀(i:Nat) x v,y.1[i]?=some x->vs[i]?=some v->JH ⟨upd y.2 s.σ,g',s.w⟩ x v
 |[],s,y,vs,hi,e,h,hl,hr=>by
  simp only[J78,RM.run]at h;injection h with h;subst h
  exact⟨s.g,hi,.refl s,.refl _,by simpa using hl,λi c v hc=>by simp at hc⟩
 |x::xs,s,y,[],hi,e,h,hl,hr=>by simp at hl
 |x::xs,s,y,v::vs,hi,e,h,hl,hr=>by
  simp only[J78]at h;obtain⟨q,h1,h⟩:=bind_some h;obtain⟨F,h2,h⟩:=bind_some h;simp only[RM.run]at h;injection h with h;subst h
  obtain⟨g1,r,k,j,C⟩:=Jv3 hi e h1 (hr 0 x v rfl rfl);obtain⟨g2,D,o,z,l2,E⟩:=Jpp (s:=⟨upd q.2 s.σ,g1,s.w⟩) r (e.trans j) h2 (by simpa using hl) λi x v hx hv=>(hr (i+1) x v (by simpa using hx) (by simpa using hv)).mono hi k;refine⟨g2,by grind [J20],by rw[J20];exact k.trans o,by rw[J20];exact j.trans z,by simp[l2],λi c' B hc' A=>?_⟩
  grind [JH.mono,upd]
def JDr(s1:Sn)(es:List Ent)(new:Nat)(e:Ent)(x:Blk)(y:Nat×Blk):Prop:=
 y.1=e.id/\match e with
 | .whole _=>(∃cs l,x=.box cs/\bk.bkL es new cs=some l/\y.2=.box l)\/(∃w esz rows,x=.arr w esz rows/\y.2=.arr w esz rows)
 | .elem b _ i=> ∃w esz rows g,s1.σ[b]?=some (.arr w esz rows)/\x=.box (g.map .p)/\y.2=.arr w esz (rows.set i g)
theorem JAM{g:List Blk}{ws:List (Nat×Blk)}(j:s.σ=upd ws g){es:List Ent}{en:Ent}{x:Blk}{y:Nat×Blk}(h:(Ja1 ws es new en x).run ⟨env,g⟩=some y):JDr s es new en x y:=by
 unfold Ja1 at h;split at h
 ·rename_i b cs;split at h
  ·rename_i l hl;simp only[RM.run]at h;injection h with h;subst h
   exact⟨rfl,.inl ⟨cs,l,rfl,hl,rfl⟩⟩
  ·cases h
 ·simp only[RM.run]at h;injection h with h;subst h
  exact⟨rfl,.inr ⟨_,_,_,rfl,rfl⟩⟩
 ·rename_i b ext i cs;obtain⟨z,h1,h⟩:=bind_some h;have hb:=JjG h1;rw[<-j]at hb;cases z with
  |arr w esz rows=>
   dsimp only at h;split at h
   ·rename_i e k;simp only[RM.run]at h;injection h with h;subst h
    exact⟨rfl,w,esz,rows,e,hb,by grind [JfV],rfl⟩
   ·cases h
  |_=>cases h
 ·cases h
theorem Jje{j:List Blk}{ws:List (Nat×Blk)}(n:s.σ=upd ws j){es:List Ent}: ∀{e:List Ent} {xs:List Blk} {g:List (Nat×Blk)},(J3x ws es new e xs).run ⟨env,j⟩=some g->
  e.length=g.length/\e.length<=xs.length/\ ∀(k:Nat) en x y,e[k]?=some en->xs[k]?=some x->g[k]?=some y->JDr s es new en x y
 |[],xs,g,h=>by grind [J3x,RM.run]
 |_::_,[],g,h=>by cases h
 |en::e,x::xs,g,h=>by
  simp only[J3x]at h;obtain⟨y,h1,h⟩:=bind_some h;obtain⟨l,h2,h⟩:=bind_some h;simp only[RM.run]at h;injection h with h;subst h
  obtain⟨k1,k2,o⟩:=Jje n h2
  grind [JAM]
theorem Jen{es:List Ent}: ∀{xs:List Blk} {g:Nat} {e:List (Nat×Blk)},J34 es new g xs=some e->
  xs.length=e.length/\ ∀(j:Nat) x y,xs[j]?=some x->e[j]?=some y->y.1=g+j/\((∃cs l,x=.box cs/\bk.bkL es new cs=some l/\y.2=.box l)\/(∃w esz rows,x=.arr w esz rows/\y.2=.arr w esz rows))
 |[],g,e,h=>by grind [J34]
 | .dead::_,g,e,h=>by grind [J34]
 | .box cs::xs,g,e,h=>by
  simp only[J34]at h;split at h
  ·rename_i c l hc hl;injection h with h;subst h;obtain⟨k1,k2⟩:=Jen hl
   grind
  ·cases h
 | .arr w esz rows::xs,g,e,h=>by
  simp only[J34]at h;split at h
  ·rename_i l hl;injection h with h;subst h;obtain⟨k1,k2⟩:=Jen hl
   grind
  ·cases h
theorem Jpy(b:Nat)(p q:List (Nat×Blk)):J6x b (p++q)=match J6x b q with
  |some y=>some y
  |none=>J6x b p:=by
 induction p with
 |nil=>grind [J6x]
 |cons x p ih=>
  grind [J6x]
theorem JjA{b:Nat}{x:Blk}: ∀{ws:List (Nat×Blk)},(ws.map (·.1)).Nodup-> ∀{k:Nat},ws[k]?=some (b,x)->J6x b ws=some x
 |[],_,k,h=>by simp at h
 |(c,z)::r,hn,k,h=>by
  obtain⟨h1,h2⟩:=List.nodup_cons.1 hn;simp only[J6x];cases k with
  |zero=>
   grind [J62]
  |succ k=>rw[JjA h2 (k:=k) (by simpa using h)]
theorem Jxq(n k:Nat):((List.range k).map (n+ ·)).Nodup:=by
 grind [List.nodup_range]
theorem Jpu(hF:J5G P F){f:FuncId}{ar:List AV×List (Nat×Blk)}{q:Nat}{vals:Array Value}(D: ∀j,j<q->s.σ[new+j]?=some .dead)
  {g1:Gh} (i1:Inv ⟨upd ar.2 s.σ,g1,s.w⟩) (t1:J0k s ⟨upd ar.2 s.σ,g1,s.w⟩) (f1:Frz s.σ (upd ar.2 s.σ)) (l1:ar.1.length=vals.toList.length)
  (r1: ∀(i:Nat) x v,ar.1[i]?=some x->vals.toList[i]?=some v->JH ⟨upd ar.2 s.σ,g1,s.w⟩ x v)
  (h:(J3a F f ar q new).run ⟨env,s.σ⟩=some e)
  (ad: ∀fn,P.funcs[f]?=some fn→fn.body.isSome=true→(fn.name== "runtime.NumGoroutine")=false→(execOp a.eval o).run P s.w=.ok (.enter f vals) s.w):J1f P o a s e:=by
 unfold J3a at h;obtain⟨aq,h2,h⟩:=bind_some h;obtain⟨es,h3,h⟩:=bind_some h;split at h
 ·rename_i ac;split at h
  ·cases h
  ·rename_i J a3;obtain⟨blks,h4,h⟩:=bind_some h;split at h
   ·cases h
   ·rename_i r a5;split at h
    ·rename_i R;obtain⟨k,hlen,hk⟩: ∃k,r.2.length=es.length+k/\k<=q:=⟨r.2.length-es.length,by omega,by omega⟩;have I: ∀j,j<k->s.σ[new+j]?=some .dead:=λj hj=>D j (by omega);clear R;split at h
     ·rename_i v fresh hv H;obtain⟨n,h5,h⟩:=bind_some h;simp only[RM.run]at h;injection h with h;subst h
      let s1:Sn:=⟨upd ar.2 s.σ,g1,s.w⟩
      obtain⟨bl,a2⟩:=Jlk (s:=s1) rfl h4;have cin:Ju0 s1 es blks:=⟨i1,JbY ac,bl,a2⟩;obtain⟨⟨fn,aa,K,M⟩,L⟩:=hF f J blks r a5;obtain⟨q1,q2⟩:=J5X a3;have ci:=JJj cin;have hc:=L (J7x s1 es blks).g s.w vals ci (by grind) (λi x v hx hv=>by have z:=Jw hx;have T:ar.1[i]?=some (ar.1[i]'(by omega)):=zQ9 _;exact JDa cin (r1 i _ v T (by simpa using hv)) (q2 i _ x T hx))
      intro next Q N;simp only[Oper.wp,ad fn aa K M,Oper.upon];refine hc.mono ?_;rintro e w' ⟨rv,g',rfl,a4,E,Z⟩;simp only;obtain⟨b1,b2,W⟩:=Jje (s:=s1) rfl h5;obtain⟨n1,n2⟩:=Jen H;have A: ∀j,j<k->s1.σ[new+j]?=some .dead:=λj hj=>f1.2 _ _ (I j hj) (by simp);have aw:(r.2.drop es.length).length=k:=by simp;omega
      have a9:n.map (·.1)=es.map Ent.id:=by
       apply zQ6;intro i;rw[J6X,J6X];by_cases z:i<es.length
       ·have e1:es[i]?=some es[i]:=zQ9 z;have e2:n[i]?=some (n[i]'(by omega)):=zQ9 _;have C:r.2[i]?=some (r.2[i]'(by omega)):=zQ9 _;have:=(W i _ _ _ e1 C e2).1
        grind
       grind
      have a8: ∀j,j<k->fresh[j]?=some (new+j,(fresh[j]?.map (·.2)).getD .dead):=by
       grind
      have af:(fresh.map (·.1)).Nodup:=by
       have:fresh.map (·.1)=(List.range k).map (new+ ·):=by
        apply zQ6
        grind
       grind [Jxq]
      have ae: ∀b,b∈fresh.map (·.1)↔new<=b/\b<new+k:=by
       intro b;constructor
       ·grind [List.getElem?_of_mem]
       ·intro hm;have:=a8 (b-new) (by omega)
        grind
      have S:(upd (n++fresh) s1.σ).length=s1.σ.length:=JaT _ _;have O: ∀{q:Nat} {en:Ent},es[q]?=some en->en.id<s1.σ.length/\ ¬(new<=en.id/\en.id<new+k):=by
       intro q en he;obtain⟨x,_,U⟩:=Jb1 cin he;have hy: ∃y,s1.σ[en.id]?=some y/\y≠.dead:=by
        cases en with
        |whole b=>
         rcases U with⟨cs',l,h1,h2,rfl⟩|⟨w,Y,rows',h1,rfl⟩
         ·exact⟨_,h1,by simp⟩
         ·exact⟨_,h1,by simp⟩
        |elem b ext i=>obtain⟨Y,rows',row,h1,h2,h3,rfl⟩:=U;exact⟨_,h1,by simp⟩
       obtain⟨y,hy,hd⟩:=hy;refine⟨Jw hy,λhm=>?_⟩;have:=A (en.id-new) (by omega);rw[show new+(en.id-new)=en.id by omega,hy]at this
       grind
      have a7: ∀{q:Nat} {en:Ent} {y:Nat×Blk},es[q]?=some en->n[q]?=some y->(upd (n++fresh) s1.σ)[en.id]?=some y.2:=by intro q en y he hy;obtain⟨z,au⟩:=O he;have C:r.2[q]?=some (r.2[q]'(by grind)):=zQ9 _;have ab:=(W q en _ y he C hy).1;rw[J9E _ _ _ z,Jpy,J62 (by grind)];simp only;rw[JjA (x:=y.2) (by rw[a9];exact cin.nodup) (k:=q) (by grind)]
      have al: ∀{j:Nat} {y:Nat×Blk},j<k->fresh[j]?=some y->(upd (n++fresh) s1.σ)[new+j]?=some y.2:=by
       grind [J9E,Jpy,JjA]
      have co:Jz0 s1 es blks new k ⟨r.2,g',w'⟩ (upd (n++fresh) s1.σ):=by
       refine⟨cin,a4,E,hlen,S,A,λq y hy=>?_,λb ay av=>?_⟩
       ·have hy:r.2[q]?=some y:=hy;unfold Jam;cases he:es[q]? with
        |some en=>
         have z:=Jw he;have e2:n[q]?=some (n[q]'(by omega)):=zQ9 _;obtain⟨ab,V⟩:=W q en y _ he hy e2;have hg:=a7 he e2;cases en with
         |whole b=>
          rcases V with⟨cs,l,e1,C,G⟩|⟨w,esz,rows,e1,G⟩
          ·exact .inl ⟨cs,l,e1,C,by rw[<-G];exact hg⟩
          ·exact .inr ⟨w,esz,rows,e1,by rw[<-G];exact hg⟩
         |elem b ext i=>obtain⟨w,esz,rows,a1,e1,C,G⟩:=V;exact⟨w,esz,rows,a1,e1,C,by rw[<-G];exact hg⟩
        |none=>
         have ax:es.length<=q:=by
          grind
         have z:=Jw hy;have e2:fresh[q-es.length]?=some (fresh[q-es.length]'(by omega)):=zQ9 _
         grind
       grind [J9E,J62]
      have oi:=JGI co;have ot:=JpI co;have B:upd (ar.2++n++fresh) s.σ=upd (n++fresh) s1.σ:=by grind [J20]
      refine N rv w' (J3J s1 es new k ⟨r.2,g',w'⟩ (upd (n++fresh) s1.σ)).g ?_ ?_ ?_
      ·rw[B];exact oi
      ·rw[B];exact t1.trans ot
      ·rw[B];exact JyF co Z hv
     ·cases h
    ·cases h
 ·cases h
theorem JyW{f:FuncId}{args:List AV}{k:Nat}{s:St}(h:(J5I F f args k new).run s=some e): ∃ar,(J78 args).run s=some ar/\(J3a F f ar k new).run s=some e:=by
 unfold J5I at h;obtain⟨ar,h1,h⟩:=bind_some h;obtain⟨q,h2,h⟩:=bind_some h;obtain⟨es,h3,h⟩:=bind_some h;refine⟨ar,h1,?_⟩;unfold J3a;rw[run_bind,h2,J06,run_bind,h3,J06];split at h
 ·rename_i n;rw[if_pos n];split at h
  ·cases h
  ·rename_i o g;obtain⟨blks,h4,h⟩:=bind_some h
   try rw[g]
   try dsimp only
   rw[run_bind,h4,J06];split at h
   ·cases h
   ·rename_i r j
    try rw[j]
    try dsimp only
    split at h
    ·grind
    ·cases h
 ·cases h
theorem JyU(y:J5G P F)(hi:Inv s){f:FuncId}{args:List AV}{k:Nat}{vals:Array Value}(g: ∀j,j<k->s.σ[new+j]?=some .dead)
  (h:(J5I F f args k new).run ⟨env,s.σ⟩=some e) (hl:args.length=vals.size) (hr: ∀(i:Nat) x v,args[i]?=some x->vals[i]?=some v->JH s x v)
  (n: ∀fn,P.funcs[f]?=some fn→fn.body.isSome=true→(fn.name== "runtime.NumGoroutine")=false→(execOp a.eval o).run P s.w=.ok (.enter f vals) s.w):J1f P o a s e:=by
 obtain⟨ar,h1,h2⟩:=JyW h;obtain⟨g1,A,z,r,B,q⟩:=Jpp (vs:=vals.toList) hi (.refl _) h1 (by simpa using hl) (λi x v hx hv=>hr i x v hx (by simpa using hv))
 grind [Jpu]
theorem JCm{o:List Blk}: ∀{m:List Bool} {xs:List AV} {s:Sn} {y:List AV×List (Nat×Blk)} {vs:List Value},Inv s->Frz o s.σ->(J3K m xs).run ⟨env,o⟩=some y->xs.length=vs.length->
  (∀(i:Nat) x v,xs[i]?=some x->vs[i]?=some v->JH s x v)->
  ∃g',Inv ⟨upd y.2 s.σ,g',s.w⟩/\J0k s ⟨upd y.2 s.σ,g',s.w⟩/\Frz s.σ (upd y.2 s.σ)/\y.1.length=vs.length/\
   ∀(i:Nat) x v,y.1[i]?=some x->vs[i]?=some v->JH ⟨upd y.2 s.σ,g',s.w⟩ x v:=by
 intro m xs
 induction xs generalizing m with
 |nil=>
  intro s y vs hi n h hl hr;have h:(RM.ret ([],[]):RM (List AV×List (Nat×Blk))).run ⟨env,o⟩=some y:=by cases m<;>exact h
  simp only[RM.run]at h;injection h with h;subst h
  exact⟨s.g,hi,.refl s,.refl _,by simpa using hl,λi c v hc=>by simp at hc⟩
 |cons x xs ih=>
  intro s y vs hi n h hl hr;cases vs with
  |nil=>simp at hl
  |cons v vs=>
   have q: ∀{r:List Bool},((J8P x).bind λa=>(J3K r xs).bind λc=>.ret (a.1::c.1,a.2++c.2)).run ⟨env,o⟩=some y->
     ∃g',Inv ⟨upd y.2 s.σ,g',s.w⟩/\J0k s ⟨upd y.2 s.σ,g',s.w⟩/\Frz s.σ (upd y.2 s.σ)/\y.1.length=(v::vs).length/\
      ∀(i:Nat) x k,y.1[i]?=some x->(v::vs)[i]?=some k->JH ⟨upd y.2 s.σ,g',s.w⟩ x k:=by
    intro r h;obtain⟨D,h1,h⟩:=bind_some h;obtain⟨G,h2,h⟩:=bind_some h;simp only[RM.run]at h;injection h with h;subst h
    obtain⟨g1,E,C,B,H⟩:=Jv3 hi n h1 (hr 0 x v rfl rfl);obtain⟨g2,A,j,z,l2,F⟩:=ih (m:=r) (s:=⟨upd D.2 s.σ,g1,s.w⟩) E (n.trans B) h2 (by simpa using hl) λi x v hx hv=>(hr (i+1) x v (by simpa using hx) (by simpa using hv)).mono hi C;refine⟨g2,by grind [J20],by rw[J20];exact C.trans j,by rw[J20];exact B.trans z,by simp[l2],λi c' k hc' e=>?_⟩
    grind [JH.mono,upd]
   cases m with
   |nil=>exact q h
   |cons b m=>
    cases b with
    |false=>exact q h
    |true=>
     simp only[J3K]at h;obtain⟨G,h2,h⟩:=bind_some h;simp only[RM.run]at h;injection h with h;subst h
     obtain⟨g2,A,j,z,l2,F⟩:=ih (m:=m) hi n h2 (by simpa using hl) λi x v hx hv=>hr (i+1) x v (by simpa using hx) (by simpa using hv);refine⟨g2,A,j,z,by simp[l2],λi c' k hc' e=>?_⟩;cases i with
     |zero=>simp at hc' e;subst hc' e;exact(hr 0 x v rfl rfl).mono hi j
     |succ i=>grind
theorem Jcn{f:FuncId}{args:Array Value}{fn:Func}(h1:P.funcs[f]?=some fn)(h2:fn.body.isSome=true)(h3:(fn.name== "runtime.NumGoroutine")=false)(w:World):
  (callFunc f args).run P w=.ok (.enter f args) w:=by
 have e:fn.name≠ "runtime.NumGoroutine" :=by simpa using h3
 have h4:fn.body≠none:=by grind
 simp_all [callFunc]
theorem JGY(y:J5G P F)(hi:Inv s)(he:J0n s a.tmps env){f args k}(n: ∀j,j<k->s.σ[new+j]?=some .dead)(h:(opR F (.call f args k) new).run ⟨env,s.σ⟩=some e)
  (hc:JX P (.call f args k) o.op=true):J1f P o a s e:=by
 simp only[opR]at h;obtain⟨vs,h1,w⟩:=bind_some h;clear h;unfold JX at hc;simp only at hc;split at hc
 ·rename_i c A;split at hc
  ·rename_i g z;simp only[J03,beq_iff_eq]at hc;obtain⟨rfl,q⟩:=hc;obtain⟨l,r⟩:=Jci he h1 q;refine JyU y hi n w (vals:=c.args.map a.eval) (by simpa using l) (λi x v hx hv=>r i x v hx (by simpa using hv)) λfn g1 g2 B=>?_;simp_all [execOp,resolve,Act.eval,Deferred.ofValue,invoke,Jcn]
  ·cases hc
 ·cases hc
theorem JDJ(A:J5G P F)(hi:Inv s)(he:J0n s a.tmps env){f keep args k}(n: ∀j,j<k->s.σ[new+j]?=some .dead)(h:(opR F (.callo f keep args k) new).run ⟨env,s.σ⟩=some e)
  (hc:JX P (.callo f keep args k) o.op=true):J1f P o a s e:=by
 simp only[opR]at h;obtain⟨vs,h1,w⟩:=bind_some h;obtain⟨ar,h2,h3⟩:=bind_some w;clear h w;unfold JX at hc;simp only at hc;split at hc
 ·rename_i c G;split at hc
  ·rename_i g B;simp only[J03,beq_iff_eq]at hc;obtain⟨rfl,q⟩:=hc;obtain⟨l,r⟩:=Jci he h1 q;obtain⟨g1,D,C,z,E,y⟩:=JCm (vs:=(c.args.map a.eval).toList) hi (.refl _) h2 (by simpa using l) (λi x v hx hv=>r i x v hx (by simpa using hv));refine Jpu A n (vals:=c.args.map a.eval) D C z E y h3 λfn g1 g2 H=>?_;simp_all [execOp,resolve,Act.eval,Deferred.ofValue,invoke,Jcn]
  ·cases hc
 ·cases hc
theorem JDG(C:J5G P F)(hi:Inv s)(he:J0n s a.tmps env){x args k}(g: ∀j,j<k->s.σ[new+j]?=some .dead)(h:(opR F (.callv x args k) new).run ⟨env,s.σ⟩=some e)
  (hc:JX P (.callv x args k) o.op=true):J1f P o a s e:=by
 simp only[opR]at h;obtain⟨u,B,q⟩:=bind_some h;clear h;unfold JX at hc;simp only at hc;split at hc
 ·rename_i c E;split at hc
  ·rename_i y D;simp only[J03]at hc;obtain⟨hx,n⟩:=hc;have A:=J0h he B hx;cases u with
   |fn f first caps=>
    dsimp only at q;obtain⟨vs,h1,w⟩:=bind_some q;obtain⟨l,r⟩:=Jci he h1 n;generalize hz:a.eval y=z at A;cases A with
    |fn _ _ _ fs cs J I G H=>
     have l':vs.length=c.args.size:=by simpa using l
     refine JyU C hi g w (vals:=fs++c.args.map a.eval++cs) (by simp;omega) (λi x v hx hv=>?_) λfn g1 g2 K=>?_
     ·grind
     grind [execOp,resolve,Deferred.ofValue,invoke,Jcn]
   |_=>cases q
  ·cases hc
 ·cases hc
end
end Go.Am
end
section
namespace Go.Am
section
variable {P:Program} {F:Orc} {s:Sn} {a:Act} {env:List (Nat×AV)} {o:Oper} {new:Nat} {e:Eff}
theorem Jk8: ∀(os:List (Nat×Nat)) (n:Nat) {s:Sn},Inv s->(∀j,j<os.length->s.σ[n+j]?=some .dead)->
  ∃g',Inv ⟨upd (J4X os n) s.σ,g',s.w⟩/\J0k s ⟨upd (J4X os n) s.σ,g',s.w⟩/\
   (∀j,j<os.length->(∃esz,(upd (J4X os n) s.σ)[n+j]?=some (.arr true esz []))/\g'.μ (n+j)=none)/\
   (∀b,b<n\/n+os.length<=b->(upd (J4X os n) s.σ)[b]?=s.σ[b]?/\g'.μ b=s.g.μ b)
 |[],n,s,hi,_=>⟨s.g,hi,.refl s,λj hj=>by simp at hj,λb _=>⟨rfl,rfl⟩⟩
 |(off,esz)::r,n,s,hi,hd=>by
  obtain⟨q,o⟩:=Jin hi (hd 0 (by simp)) esz;obtain⟨g',k,h,h1,h2⟩:=Jk8 r (n+1) (s:=⟨s.σ.set n (.arr true esz []),J5n s.g n none,s.w⟩) q (λj hj=>by
   show(s.σ.set n _)[n+1+j]?=_;rw[J4e (by omega)];have:=hd (j+1) (by simp;omega)
   grind)
  refine⟨g',k,o.trans h,λj hj=>?_,λb hb=>?_⟩
  ·cases j with
   |zero=>
    obtain⟨e1,e2⟩:=h2 n (.inl (by omega));refine⟨⟨esz,?_⟩,?_⟩
    ·grind [upd,J4X]
    ·rw[JjJ,e2];exact if_pos rfl
   |succ j=>have:=h1 j (by simpa using hj);rw[show n+(j+1)=n+1+j by omega];exact this
  ·obtain⟨e1,e2⟩:=h2 b (by grind);have e:n≠b:=by grind
   exact⟨e1.trans (J4e e),e2.trans (if_neg (Ne.symm e))⟩
theorem JkI{t:TypeId}{os:List (Nat×Nat)}{v:Value}(hv:zeT P t=some v)(h:JsE P t os=true): ∀x∈os,v.cells[x.1]?=some (.slice none 0 0):=by
 grind [JsE]
theorem Jkb{cells:Array Value}: ∀(os:List (Nat×Nat)) (n:Nat) {cs:List AV},(∀x∈os,cells[x.1]?=some (.slice none 0 0))->
  (∀j,j<os.length->(∃esz,s.σ[n+j]?=some (.arr true esz []))/\s.g.μ (n+j)=none)->
  (∀(i:Nat) x,cs[i]?=some x-> ∃u,cells[i]?=some u/\JH s x u/\u.oneCell'=true)->
  ∀(i:Nat) x,(JaN os n cs)[i]?=some x-> ∃u,cells[i]?=some u/\JH s x u/\u.oneCell'=true
 |[],_,_,_,_,h=>h
 |(off,esz)::r,n,cs,hz,ha,h=>by
  refine Jkb r (n+1) (λx hx=>hz x (by simp[hx])) (λj hj=>by
   have:=ha (j+1) (by simpa using hj)
   grind) λi x hx=>?_
  by_cases hi:off=i
  ·subst hi;have e:=Jw hx;rw[List.length_set]at e;rw[Jo0 e]at hx;injection hx with hx;subst hx;obtain⟨⟨k,h1⟩,h2⟩:=ha 0 (by simp);rw[JjJ]at h1 h2;exact⟨.slice none 0 0,hz (off,esz) (by simp),.slr n 0 0 _ true k [] ⟨none,0,rfl,.inl rfl⟩ h1 (zQ0 _) λ_=>.inl ⟨h2,rfl,rfl,rfl⟩,rfl⟩
  simp_all
theorem JjF: ∀(os:List (Nat×Nat)) (n:Nat) (cs:List AV),(JaN os n cs).length=cs.length
 |[],_,_=>rfl
 |_::r,n,cs=>(JjF r (n+1) _).trans (by simp)
theorem JzA(hi:Inv s){zero os}(n: ∀j,j<os.length+1->s.σ[new+j]?=some .dead)(h:(opR F (.newboxo zero os) new).run ⟨env,s.σ⟩=some e)(hc:JX P (.newboxo zero os) o.op=true):J1f P o a s e:=by
 simp only[opR,RM.run]at h;injection h with h;subst h;unfold JX at hc;simp only at hc;split at hc
 ·rename_i t D;simp only[J03]at hc;obtain⟨hz,hn⟩:=hc;obtain⟨v,hv,hl,hr⟩:=J4U hz;obtain⟨g1,y,r,h1,h2⟩:=Jk8 os new hi λj hj=>n j (by omega);have hd:(upd (J4X os new) s.σ)[new+os.length]?=some .dead:=((h2 _ (.inr (zQ0 _))).1).trans (n _ (by omega))
  let s1:Sn:=⟨upd (J4X os new) s.σ,g1,s.w⟩
  obtain⟨z,t'⟩:=Jiw (s0:=s1) y hd (blk:=.box (JaN os new (zero.map .p))) (c:=v.cells) (e:=t) (fz:=(0,0)) (w':={s.w with heap:=s.w.heap.push (.cells v.cells t)}) rfl rfl rfl
   (λo _ _ h=>by simp at h) (λ_ _ _ h=>by cases h) ⟨by grind [JjF],λi x hx=>by
    obtain⟨u,hu,E,B⟩:=Jkb (s:=s1) (cells:=v.cells) os new (JkI hv hn) h1 (λi x hx=>by
     rw[J6X]at hx;cases hzi:zero[i]? with
     |none=>simp_all
     |some c=>
      simp[hzi]at hx;subst hx;have A:=Jw hzi;have q:i<v.cells.size:=by omega
      have:=hr (w:=s1.w) (C:=s1.g.C) i c v.cells[i] hzi (by simp);exact⟨v.cells[i],by simp,.p _ _ this,this.one⟩) i x hx
    simp_all⟩
  have k:upd (J4X os new++[(new+os.length,Blk.box (JaN os new (zero.map .p)))]) s.σ=(upd (J4X os new) s.σ).set (new+os.length) (.box (JaN os new (zero.map .p))):=by rw[J20];rfl
  refine J2o (e:=⟨.ptr (new+os.length) 0,J4X os new++[(new+os.length,.box (JaN os new (zero.map .p)))]⟩) (v:=.pointer (some ⟨s.w.heap.size,0,none⟩)) (g':=J5n g1 (new+os.length) (some (s.w.heap.size,0))) ?_
   (by rw[k];exact z) (by rw[k];exact r.trans t') (by rw[k];exact .ptr (new+os.length) 0 _ 0 (if_pos rfl) ⟨_,J1p hd⟩)
  simp_all [execOp,Instr.alloc,JaW,newVar,newRow]
 ·cases hc
theorem JCj(hi:Inv s)(he:J0n s a.tmps env)(hn:s.σ[new]?=some .dead){esz x}(h:(opR F (.storen esz x) new).run ⟨env,s.σ⟩=some e)(hc:JX P (.storen esz x) o.op=true):J1f P o a s e:=by
 simp only[opR]at h;obtain⟨u,h1,I⟩:=bind_some h;obtain⟨e1,h2,h3⟩:=bind_some I;clear h I;simp only[RM.run]at h3;injection h3 with h3;subst h3
 obtain⟨G,t0⟩:=Jin hi hn esz;unfold JX at hc;simp only at hc;split at hc
 ·rename_i t J a6;simp only[J03,beq_iff_eq]at hc;obtain⟨hs,hx⟩:=hc;have v:=J0h he h1 hx;have K: ∀{r n:Nat} {w':World},a.eval J=.pointer (some ⟨r,n,none⟩)->(storeVar t ⟨r,n,none⟩ (.slice none 0 0)).run P s.w=.ok () w'->(execOp a.eval o).run P s.w=.ok .skip w':=by intro r n w' hz Z;have a2:a.eval (.const (.slice none 0 0))=.slice none 0 0:=rfl;simp_all [execOp,Instr.storeAt,Instr.sureAddr]
  unfold J3X at h2;split at h2
  ·rename_i b off;simp only[RM.run]at h2;split at h2
   ·rename_i blk hb;split at h2
    ·rename_i cs;split at h2
     ·rename_i l hl;split at h2
      ·rename_i V;split at h2
       ·rename_i cs' C;simp only[RM.run]at h2;injection h2 with h2;subst h2
        have hb:s.σ[b]?=some (.box cs):=hb;have L:new≠b:=λe=>by simp_all
        let s1:Sn:=⟨s.σ.set new (.arr true esz []),J5n s.g new none,s.w⟩
        have B:s1.σ[b]?=some (.box cs):=(J4e L).trans hb;have T:JH s1 (.slr new 0 0) (.slice none 0 0):=
         .slr new 0 0 _ true esz [] ⟨none,0,rfl,.inl rfl⟩ (J1p hn) (zQ0 _) λ_=>.inl ⟨if_pos rfl,rfl,rfl,rfl⟩
        generalize hz:a.eval J=z at v;have v:=JH.mono (s:=s1) hi t0 v;cases v with
        |ptr _ _ r n m a0=>
         obtain⟨k1,k2,S⟩:=Jb2 hl T;obtain⟨M,j2,O,j4⟩:=JiH C;obtain⟨r1,o1,c,R,fz,A,D,a3,a1,hf⟩:=G.box b cs B;rw[m]at A;injection A with A;injection A with m1 m2;subst m1 m2
         have q:=J84 (vs:=(Value.slice none 0 0).cells.toList) (o:=n+off) D (by simp;omega);have hlen:(Value.slice none 0 0).cells.toList.length=l.length:=by simp[k1]
         obtain⟨U,t'⟩:=JhL (s0:=s1) G (blk:=.box cs') B q (λk h1 h2=>by
          grind [Wr1]) (.box _ _ M) (λW j E=>by
          injection j with j;subst j;obtain⟨c0,e0,a5,c',y,N,p3,p4,Q,p6⟩:=q.there;rw[D]at y;injection y with y;injection y with q1 q2 q3;subst q1 q2 q3
          refine⟨r,n,c',R,fz,m,N,by omega,λi x H=>?_,by simp_all⟩;by_cases a7:off<=i/\i<off+l.length
          ·have e1:cs'[off+(i-off)]?=l[i-off]?:=O (i-off) (by omega);rw[show off+(i-off)=i by omega,H]at e1;have Y:i-off<(Value.slice none 0 0).cells.size:=by omega
           have e2:=Q (i-off) (Value.slice none 0 0).cells[i-off] (by simp);refine⟨(Value.slice none 0 0).cells[i-off],by rw[<-e2];congr 1;omega,E (S (i-off) x _ e1.symm (by simp)),k2 _ (by simp)⟩
          grind)
          (λ_ _ j=>by cases j)
         refine Ji2 (e:=⟨J3s,(new,.arr true esz [])::[(b,.box cs')]⟩) (K hz (JcC (by simp_all) D (by omega) (λk h1 h2=>hf k (by omega) (by omega)) k2)) rfl U (t0.trans t')
       ·cases h2
      ·cases h2
     ·cases h2
    ·cases h2
   ·cases h2
  ·rename_i b ext i off;have a4:(fz (.slr new 0 0)).run ⟨env,s.σ⟩=none:=by
    grind [fz,RM.run]
   simp only[RM.run]at h2;split at h2
   ·split at h2
    ·split at h2
     ·split at h2
      ·grind [run_bind]
      ·cases h2
     ·cases h2
    ·cases h2
   ·cases h2
  ·cases h2
 ·cases hc
theorem JCF(hi:Inv s)(he:J0n s a.tmps env){zero parts os}(G: ∀j,j<os.length->s.σ[new+j]?=some .dead)(h:(opR F (.buildo zero parts os) new).run ⟨env,s.σ⟩=some e)
  (hc:JX P (.buildo zero parts os) o.op=true):J1f P o a s e:=by
 simp only[opR]at h;obtain⟨l,h1,q⟩:=bind_some h;clear h;unfold JX at hc;simp only at hc;split at hc
 ·rename_i t ps a0;simp only[J03]at hc;obtain⟨⟨hz,hn⟩,E⟩:=hc;obtain⟨z,L,a1,N⟩:=J4U hz;obtain⟨g1,U,M,I,a2⟩:=Jk8 os new hi G;split at q
  ·rename_i cs hcs;split at q
   ·rename_i r h3;simp only[RM.run]at q;injection q with q;subst q
    let s1:Sn:=⟨upd (J4X os new) s.σ,g1,s.w⟩
    have H: ∀(i:Nat) x,(JaN os new (zero.map AV.p))[i]?=some x-> ∃u,z.cells[i]?=some u/\JH s1 x u/\u.oneCell'=true:=
     Jkb (s:=s1) (cells:=z.cells) os new (JkI L hn) I (by
      intro i x hx;rw[J6X]at hx;cases hzi:zero[i]? with
      |none=>simp_all
      |some c=>
       simp[hzi]at hx;subst hx;have J:=Jw hzi;have S:i<z.cells.size:=by omega
       have:=N (w:=s1.w) (C:=s1.g.C) i c z.cells[i] hzi (by simp);exact⟨z.cells[i],by simp,.p _ _ this,this.one⟩)
    have fin: ∀{place:Nat->Option (Nat×Nat)},J6p place parts ps.toList=true->
      ∃n,Instr.fill place z.cells (ps.toList.map λx=>(x.1,a.eval x.2))=some n/\JH s1 r (.agg n):=by
     intro place D;obtain⟨k1,k2⟩:=Jge he h1 D;obtain⟨n,K,V,Y⟩:=Jjr (s:=s1) (cells:=z.cells) hcs k1 (λk off size cs i v hk hv=>by obtain⟨T,R,O,Q⟩:=k2 k off size cs i v hk hv;exact⟨T,R,O,λj y u hy hu=>(Q j y u hy hu).mono hi M⟩) (by grind [JjF]) H
     refine⟨n,K,?_⟩
     have:=JlD (s:=s1) (vs:=n.toList) h3 (by simpa using V) (λv hv=>by
       obtain⟨i,A⟩:=J8D hv;have A:n[i]?=some v:=by simpa using A
       have J:=JbX A;obtain⟨u,hu,_,h1⟩:=Y i cs[i] (by simp_all);simp_all)
      (λi y v hy hv=>by
       grind)
     simp_all
    have a3:(ps.map λx=>(x.1,a.eval x.2)).toList=ps.toList.map λx=>(x.1,a.eval x.2):=by simp
    split at E
    ·rename_i fs hu;simp only[J03]at E;obtain⟨B,D⟩:=E;obtain⟨n,K,hr⟩:=fin D;have Z:(λi=>(fs.map λf=>(f.offset,(szT P f.type).getD 0))[i]?)=Jch P fs:=by
      funext i
      simp only[Jch,Array.getElem?_map];cases hfi:fs[i]? with
      |none=>rfl
      |some f=>have:=JAm.1 B f (Array.mem_of_getElem? hfi);cases hq:szT P f.type<;>simp[hq]at this⊢
     have W:(fs.mapM λf=>do pure (f.offset,<-sizeOf f.type):Sem (Array (Nat×Nat))).run P s.w=.ok (fs.map λf=>(f.offset,(szT P f.type).getD 0)) s.w:=by
      rw[Array.mapM_eq_mapM_toList];simp only[Sem.run_map,JfP (P:=P) (fs:=fs.toList) (λf hf=>JAm.1 B f (by simpa using hf)),JfS]
      congr 1
      grind
     have hf:Instr.fill (λi=>(fs.map λf=>(f.offset,(szT P f.type).getD 0))[i]?) z.cells (ps.map λx=>(x.1,a.eval x.2)).toList=some n:=by simp_all
     have hb:(Instr.build t (ps.map λx=>(x.1,a.eval x.2))).run P s.w=.ok (.agg n) s.w:=by simp_all [Instr.build,JaW,run_underlying]
     refine J2o (e:=⟨r,J4X os new⟩) (v:=.agg n) (g':=g1) ?_ U M hr;simp_all [execOp]
    ·cases E
   ·cases q
  ·cases q
 ·cases hc
end
end Go.Am
end
section
namespace Go.Am
theorem JyB{new:Nat}{env:List (Nat×AV)}{σ:List Blk}: ∀{k new:Nat} {u:Unit},(Jc2 new k).run ⟨env,σ⟩=some u-> ∀j,j<k->σ[new+j]?=some .dead
 |0,_,_,_,j,hj=>by omega
 |k+1,new,u,h,j,hj=>by
  simp only[Jc2,RM.run]at h;split at h
  ·rename_i x hx;cases x with
   |dead=>
    dsimp only at h;cases j with
    |zero=>exact hx
    |succ j=>have:=JyB (new:=0) h j (by omega);grind
   |box=>cases h
   |arr=>cases h
  ·cases h
section
variable {P:Program} {F:Orc} {s:Sn} {a:Act} {env:List (Nat×AV)} {o:Oper} {new:Nat} {e:Eff}
theorem JK3(q:J5G P F)(hi:Inv s)(he:J0n s a.tmps env){n:AOp}(h:(opD F n new).run ⟨env,s.σ⟩=some e)(hc:JX P n o.op=true):J1f P o a s e:=by
 unfold opD at h;obtain⟨u,hd,h⟩:=bind_some h;have g:=JyB (new:=0) hd;clear hd;have j:J7J n=1->s.σ[new]?=some .dead:=λh1=>g 0 (by omega);cases n with
 |mv x=>grind [JJI]
 |mkarr esz x=>exact JE4 hi (j rfl) h hc
 |pick=>grind [JGr]
 |newbox=>exact JCG hi (j rfl) h hc
 |box=>exact JHM hi he (j rfl) h hc
 |build=>grind [JE9]
 |lits=>grind [JH4,J7J]
 |load=>grind [JHa]
 |store=>grind [JEL]
 |nilchk=>grind [JBT]
 |bin op t x y=>cases t<;>grind [JvD,Jxx,Jy4,Jyh,JxY,Jye]
 |un=>grind [JJA]
 |conv k x=>
  grind [JAD,J7J,JH0]
 |mkslice=>grind [JA9,J7J]
 |slice=>grind [JE3]
 |faddr=>grind [JEc]
 |field=>grind [JEk]
 |iaddr=>grind [JEX]
 |aaddr=>grind [JFg]
 |sidx=>grind [JGA]
 |aidx=>grind [JH2]
 |extr=>grind [JH6]
 |call=>exact JGY q hi he g h hc
 |callv=>exact JDG q hi he g h hc
 |len=>grind [JHJ]
 |alen=>grind [JHt]
 |app=>grind [JHY]
 |appz=>grind [JHo]
 |appn=>exact JH3 hi he (j rfl) h hc
 |appc=>exact JGn hi he (j rfl) h hc
 |mm=>grind [JJM]
 |mkfn=>grind [JGx]
 |newboxo=>exact JzA hi g h hc
 |buildo=>exact JCF hi he g h hc
 |storen=>exact JCj hi he (j rfl) h hc
 |callo=>exact JDJ q hi he g h hc
end
def Jd1(P:Program)(N:Nat)(ops:Array Oper)(i:J1u)(o:Oper):Bool:=
 JX P i.op o.op&&i.dst==o.dst&&(match i.dst with
  |some d=>decide (d<N)
  |none=>true)&&(match i.g,o.guard with
  |none,none=>true
  |some (g,w),some (j,w')=>w==w'&&(ops[j]?).bind (·.dst)==some g
  |_,_=>false)
def Sim(N:Nat)(E:Sn)(st:St)(a:Act)(w:World):Prop:=a.tmps.size=N/\a.defers=[]/\ ∃g,Inv ⟨st.sto,g,w⟩/\J0n ⟨st.sto,g,w⟩ a.tmps st.env/\J0k E ⟨st.sto,g,w⟩
theorem J0n.put{s:Sn}{tmps:Array Value}{env:List (Nat×AV)}(he:J0n s tmps env){d:Nat}(hd:d<tmps.size){x:AV}{v:Value}(hv:JH s x v):
  J0n s (tmps.setIfInBounds d v) ((d,x)::env):=by
 intro n y hy;simp only[lk]at hy;split at hy
 ·simp_all
 ·rename_i hn;obtain⟨u,h1,h2⟩:=he n y hy
  grind
theorem Sim.putd{N:Nat}{E:Sn}{st:St}{a:Act}{w w':World}{g g':Gh}{e:Eff}{v:Value}{d:Option Nat}
  (h1:a.tmps.size=N) (h2:a.defers=[]) (hi:Inv ⟨st.sto,g,w⟩) (he:J0n ⟨st.sto,g,w⟩ a.tmps st.env) (n:J0k E ⟨st.sto,g,w⟩) (hd: ∀x,d=some x->x<N)
  (j:Inv ⟨upd e.ws st.sto,g',w'⟩) (h:J0k ⟨st.sto,g,w⟩ ⟨upd e.ws st.sto,g',w'⟩) (hv:JH ⟨upd e.ws st.sto,g',w'⟩ e.val v):
  Sim N E (Am.put d e st) (a.put d v) w':=by
 have k:=he.mono hi h;cases d with
 |none=>exact⟨h1,h2,g',j,k,n.trans h⟩
 |some d=>exact⟨by grind [Act.put],h2,g',j,k.put (by simp_all) hv,n.trans h⟩
section
variable {P:Program} {F:Orc} {N:Nat} {E:Sn} {st:St} {a:Act} {w:World} {ops:Array Oper} {i:J1u} {o:Oper} {e:Eff} {new k:Nat} {Q:Exit->Act->World->Prop} {K:Act->World->Prop}
theorem JzY{s:Sn}:JH s J3s undef:=.tup _ _ rfl λi x v h=>by simp at h
theorem JCv(B:J5G P F)(hs:Sim N E st a w)(ho:ops[k]?=some o)(hc:Jd1 P N ops i o=true)(h:(J1A F i new).run st=some e)
  (next: ∀n w',Sim N E (Am.put i.dst e st) n w'->K n w'):wpOp P ops Q k K a w:=by
 obtain⟨h1,h2,g,hi,he,A⟩:=hs;simp only[Jd1,J03,beq_iff_eq]at hc;obtain⟨⟨⟨hc,hd⟩,H⟩,q⟩:=hc;have r: ∀x,i.dst=some x->x<N:=by
  grind
 have run: ∀{e:Eff},(opD F i.op new).run st=some e->(∀n w',Sim N E (Am.put i.dst e st) n w'->K n w')->o.wp P a w K Q:=by
  intro e h next;refine JK3 (s:=⟨st.sto,g,w⟩) (env:=st.env) B hi he h hc K Q λv w' g' D G hv=>next _ _ ?_
  grind [Sim.putd]
 have skip:(∀n w',Sim N E (Am.put i.dst ⟨J3s,[]⟩ st) n w'->K n w')->K (a.put o.dst undef) w:=by intro next;refine next _ _ ?_;rw[<-hd];exact Sim.putd (e:=⟨J3s,[]⟩) h1 h2 hi he A r hi (.refl _) JzY
 unfold wpOp;rw[ho];dsimp only;unfold J1A at h;cases hig:i.g with
 |none=>
  grind [Region.wanted]
 |some C=>
  obtain⟨I,z⟩:=C;rw[hig]at h q;cases hog:o.guard with
  |none=>simp_all
  |some x=>
   obtain⟨j,y⟩:=x;rw[hog]at q;simp only[J03,beq_iff_eq]at q;obtain⟨rfl,hj⟩:=q;simp only[RM.run]at h;split at h
   ·rename_i v hv;obtain⟨u,hu,hr⟩:=he _ _ hv;split at h
    ·rename_i b;cases hr with
     |p _ _ hr=>
      cases hr with
      |b x=>
       have hy:yielded ops a.tmps j=some b:=by grind [yielded]
       grind [Region.wanted,RM.run]
    ·cases hr with
     |tup _ vs hl _=>
      grind [yielded,Region.wanted,RM.run]
    ·cases h
   ·cases h
end
theorem JwD{σ:List Blk}{n b:Nat}{x:Blk}(h:(σ++List.replicate n Blk.dead)[b]?=some x)(hx:x≠.dead):σ[b]?=some x:=by
 grind
theorem Jpo{σ:List Blk}{n b:Nat}{x:Blk}(h:σ[b]?=some x):(σ++List.replicate n Blk.dead)[b]?=some x:=by
 grind
theorem JiE{σ:List Blk}{g:Gh}{w:World}{n b r o:Nat}:Wr1 ⟨σ++List.replicate n .dead,g,w⟩ b r o↔Wr1 ⟨σ,g,w⟩ b r o:=by
 grind [Wr1]
theorem JfL{σ:List Blk}{g:Gh}{w:World}{n:Nat}:J0k ⟨σ,g,w⟩ ⟨σ++List.replicate n .dead,g,w⟩ where
 keep:=.refl _ _
 cmono _ _ h:=h
 cnew _ _ h:=.inl h
 wnew _ _ h:=let⟨b,hb⟩:=h;.inl ⟨b,JiE.1 hb⟩
 len:=by simp
 box b cs h:=⟨⟨cs,Jpo h,rfl⟩,rfl⟩
 arr b wm esz rows h:=⟨wm,rows,Jpo h,id,zQ0 _,λ_=>rfl⟩
theorem JFL{σ:List Blk}{g:Gh}{w:World}{n:Nat}(hi:Inv ⟨σ,g,w⟩):Inv ⟨σ++List.replicate n .dead,g,w⟩:=by
 have t:=JfL (σ:=σ) (g:=g) (w:=w) (n:=n);refine⟨λb cs h=>?_,λb wm esz rows h=>?_,λb1 b2 r o h1 h2=>hi.apart b1 b2 r o (JiE.1 h1) (JiE.1 h2),λr o hc=>⟨(hi.const r o hc).1,λb hb=>(hi.const r o hc).2 b (JiE.1 hb)⟩⟩
 ·obtain⟨r,o,c,e,fz,q1,q2,q3,q,k⟩:=hi.box b cs (JwD h (by simp));exact⟨r,o,c,e,fz,q1,q2,q3,λi x hx=>let⟨v,k1,k2,j⟩:=q i x hx;⟨v,k1,k2.mono hi t,j⟩,k⟩
 ·exact hi.arr b wm esz rows (JwD h (by simp))
theorem Sim.room{N:Nat}{E:Sn}{st:St}{a:Act}{w:World}(h:Sim N E st a w)(n:Nat):Sim N E ⟨st.env,room n st.sto⟩ a w:=by
 unfold Am.room;split
 ·exact h
 ·obtain⟨h1,h2,g,hi,he,e⟩:=h;exact⟨h1,h2,g,JFL hi,he.mono hi JfL,e.trans JfL⟩
theorem Sim.heap{N:Nat}{E:Sn}{st:St}{a:Act}{w w':World}(h:Sim N E st a w)(e:w'.heap=w.heap)(ho:w'.os=w.os)(hp:w'.output=w.output):Sim N E st a w':=by obtain⟨h1,h2,g,hi,he,k⟩:=h;obtain⟨j,t'⟩:=Ji1 hi e ho hp;exact⟨h1,h2,g,j,he.mono hi t',k.trans t'⟩
theorem Sim.congr{N:Nat}{E:Sn}{st st':St}{a:Act}{w:World}(h:Sim N E st a w)(he: ∀m,lk m st'.env=lk m st.env)(hs:st'.sto=st.sto):Sim N E st' a w:=by obtain⟨h1,h2,g,hi,hr,e⟩:=h;refine⟨h1,h2,g,?_⟩;rw[hs];exact⟨hi,λn x hx=>hr n x (by simp_all),e⟩
end Go.Am
end
section
namespace Go.Am
def J2N(P:Program)(N:Nat)(ops:Array Oper):List J1u->List Oper->Bool
 |[],[]=>true
 |i::r,o::q=>Jd1 P N ops i o&&J2N P N ops r q
 |_,_=>false
def JbT(x y:J1u):Bool:=
 (match x.dst with
 |none=>true
 |some m=>y.dst !=some m&& !(J7W y).contains m)&&(match y.dst with
 |none=>true
 |some m=> !(J7W x).contains m)
def JfD(x y:J1u):Bool:=(!JjW x.op|| !Jva y.op)&&(!JjW y.op|| !Jva x.op)
def Jm2:List Nat->List Nat->List Nat
 |[],acc=>acc
 |x::r,acc=>match acc.contains x with
  |true=>Jm2 r acc
  |false=>Jm2 r (x::acc)
theorem Ji5{i:Nat}: ∀{l acc:List Nat},i∈Jm2 l acc->i∈l\/i∈acc
 |[],_,h=>.inr h
 |x::r,acc,h=>by
  simp only[Jm2]at h;split at h
  ·exact(Ji5 h).imp (JcV _) id
  ·rcases Ji5 h with h|h
   all_goals grind
def JFT(l:List Nat):List Nat:=Jm2 l []
theorem JDu{i:Nat}{l:List Nat}(h:i∈JFT l):i∈l:=(Ji5 h).resolve_right (by simp)
def JDf(acc:List (List Nat))(o:Oper):List Nat:=JFT<|(o.after.toList.filter λe=>Region.binds .any e).flatMap λe=>e.on::(acc[e.on]?).getD []
def JB7(acc:List (List Nat)):List Oper->List (List Nat)
 |[]=>acc
 |o::r=>JB7 (acc++[JDf acc o]) r
def JnO(e:List (List Nat))(pairs:List (Nat×Nat))(i j:Nat)(x y:J1u):Bool:=
 ((e[j]?).getD []).contains i||(JbT x y&&(JfD x y||pairs.contains (i,j)))
def JcN(e:List (List Nat))(pairs:List (Nat×Nat))(j:Nat)(y:J1u):Nat->List J1u->Bool
 |_,[]=>true
 |i,x::r=>(decide (j<=i)||JnO e pairs i j x y)&&JcN e pairs j y (i+1) r
def JiC(g:List (List Nat))(pairs:List (Nat×Nat))(e:List J1u):Nat->List J1u->Bool
 |_,[]=>true
 |j,y::r=>JcN g pairs j y 0 e&&JiC g pairs e (j+1) r
def Jgi:Nat->List Oper->Bool
 |_,[]=>true
 |j,o::r=>(o.after.all λe=> !Region.binds .any e||decide (e.on<j))&&Jgi (j+1) r
def Jwf(P:Program)(N:Nat)(draw:Bool)(pairs:List (Nat×Nat))(ins:List J1u)(ops:Array Oper):Bool:=
 J2N P N ops ins ops.toList&&(!draw||(Jgi 0 ops.toList&&JiC (JB7 [] ops.toList) pairs ins 0 ins))
section
variable {P:Program} {F:Orc} {N:Nat} {E:Sn} {st st':St} {a:Act} {w:World} {ops:Array Oper} {Q:Exit->Act->World->Prop}
theorem JpH: ∀{ins:List J1u} {os:List Oper},J2N P N ops ins os=true->ins.length=os.length/\ ∀(k:Nat) i,ins[k]?=some i-> ∃o,os[k]?=some o/\Jd1 P N ops i o=true
 |[],[],_=>⟨rfl,by simp⟩
 |i::r,o::q,h=>by
  simp only[J2N,J03]at h;obtain⟨h1,h2⟩:=JpH h.2
  grind
 |[],_::_,h=>by grind [J2N]
 |_::_,[],h=>by grind [J2N]
theorem Jpn(q:J5G P F): ∀{r:List J1u} {k new:Nat} {st:St} {a:Act} {w:World},(∀(j:Nat) i,r[j]?=some i-> ∃o,ops[k+j]?=some o/\Jd1 P N ops i o=true)->
  J3j F r new st=some st'->Sim N E st a w->(∀n w',Sim N E st' n w'->Q .normal n w')->wpOps P ops Q (List.range' k r.length) a w
 |[],k,new,st,a,w,_,h,hs,next=>by simp only[J3j]at h;cases h;exact next a w hs
 |i::r,k,new,st,a,w,hc,h,hs,next=>by
  simp only[J3j]at h;split at h
  ·rename_i e he;obtain⟨o,ho,g⟩:=hc 0 i rfl;rw[JBg,List.range'_succ,wpOps_cons];refine JCv q hs ho g he λn w' hs'=>Jpn q (λj i hj=>?_) h hs' next;obtain⟨o,ho,g⟩:=hc (j+1) i (by simpa using hj)
   grind
  ·cases h
theorem JD6: ∀{ins:List J1u} {g:Nat} {st:St},J3j F ins g st=some st'->
  ∃(new:Nat->Nat) (S:Nat->St) (eff:Nat->Eff),Run F ins new S eff/\S 0=st/\S ins.length=st'
 |[],g,st,h=>by
  simp only[J3j]at h;injection h with h;subst h
  exact⟨λ_=>0,λ_=>st,λ_=>⟨J3s,[]⟩,⟨by simp⟩,rfl,rfl⟩
 |i::r,g,st,h=>by
  simp only[J3j]at h;split at h
  ·rename_i e he;obtain⟨new,S,eff,hr,j,hl⟩:=JD6 h;refine⟨fun|0=>g|k+1=>new k,fun|0=>st|k+1=>S k,fun|0=>e|k+1=>eff k,⟨λk x hx=>?_⟩,rfl,hl⟩;cases k with
   |zero=>simp_all
   |succ k=>exact hr.step k x (by simpa using hx)
  ·cases h
theorem JCx: ∀{ins:List J1u} {g:Nat} {st:St} {l l':Log},J4Q F ins g st l=some (st',l')->
  ∃(new:Nat->Nat) (S:Nat->St) (eff:Nat->Eff),Run F ins new S eff/\S 0=st/\S ins.length=st'/\
   (∀k,k<l.length->l'[k]?=l[k]?)/\ ∀(k:Nat) i,ins[k]?=some i->l'[l.length+k]?=some (J4P ((J1A F i (new k)).reads (S k)),(eff k).ws.map (·.1))
 |[],g,st,l,l',h=>by
  simp only[J4Q]at h;injection h with h;injection h with h1 h2;subst h1 h2
  exact⟨λ_=>0,λ_=>st,λ_=>⟨J3s,[]⟩,⟨by simp⟩,rfl,rfl,λ_ _=>rfl,by simp⟩
 |i::r,g,st,l,l',h=>by
  simp only[J4Q]at h;split at h
  ·rename_i e he;obtain⟨new,S,eff,hr,j,hl,q1,q2⟩:=JCx h;refine⟨fun|0=>g|k+1=>new k,fun|0=>st|k+1=>S k,fun|0=>e|k+1=>eff k,⟨λk x hx=>?_⟩,rfl,hl,λk hk=>?_,λk x hx=>?_⟩
   ·cases k with
    |zero=>simp_all
    |succ k=>exact hr.step k x (by simpa using hx)
   all_goals grind
  ·cases h
theorem Jc5{b:Nat}: ∀{l:List Loc},Loc.blk b∈l->b∈J4P l
 | .blk c::r,h=>by
  simp only[J4P,J2U]at*;rcases h with h|h
  ·simp_all
  ·exact .inr (Jc5 h)
 | .slot n::r,h=>by simp only[J4P];refine Jc5 ?_;simpa using h
 |[],h=>by simp at h
theorem JjM{a b:List Nat}(h:J6I a b=true){x:Nat}(hx:x∈a):x∉b:=by
 grind [J6I]
theorem Jlw{l:Log}: ∀{ps:List (Nat×Nat)} {i j:Nat},Jc9 l ps=true->(i,j)∈ps->
  ∃x y,l[i]?=some x/\l[j]?=some y/\J6I x.2 y.1=true/\J6I x.2 y.2=true/\J6I x.1 y.2=true
 |[],i,j,_,h=>by simp at h
 |(p,q)::r,i,j,h,hm=>by
  simp only[Jc9,J03]at h;obtain⟨h1,h2⟩:=h;rcases J2U.1 hm with e|e
  ·grind
  ·exact Jlw h2 e
def Jnw(ops:Array Oper)(D:Nat->Bool)(k:Nat):Prop:= ∀o,ops[k]?=some o-> ∀e∈o.after,Region.binds .any e=true->D e.on=true
def JDk(ops:Array Oper)(D:Nat->Bool):Prop:= ∀k,D k=true->Jnw ops D k
def JFb(ops:Array Oper)(k i:Nat):Prop:= ∀D,JDk ops D->Jnw ops D k->D i=true
theorem JC7: ∀{os:List Oper} {acc:List (List Nat)},(∀(j:Nat) o,os[j]?=some o->ops[acc.length+j]?=some o)->(∀(k:Nat) l i,acc[k]?=some l->i∈l->JFb ops k i)->
  ∀(k:Nat) l i,(JB7 acc os)[k]?=some l->i∈l->JFb ops k i
 |[],acc,_,ha=>ha
 |o::r,acc,ho,ha=>by
  refine JC7 (os:=r) (acc:=acc++[JDf acc o]) (λj x hx=>?_) λk l i hk hi=>?_
  ·have:=ho (j+1) x (by simpa using hx)
   grind
  ·rcases Jfb hk with hk|⟨w,hk⟩
   ·simp_all
   ·have h:k=acc.length:=by
     grind
    subst h;simp at hk;subst hk;intro D hD v;replace hi:=JDu hi;simp only[List.mem_flatMap,List.mem_filter]at hi;obtain⟨e,⟨q,n⟩,hi⟩:=hi;have g:=v o (by simpa using ho 0 o rfl) e (by simpa using q) n;rcases J2U.1 hi with rfl|hi
    ·exact g
    ·cases hac:acc[e.on]? with
     |none=>simp_all
     |some l=>rw[hac]at hi;exact ha _ l i hac hi D hD (hD _ g)
theorem Jjk{g:List (List Nat)}{pairs:List (Nat×Nat)}{j:Nat}{y:J1u}: ∀{r:List J1u} {e:Nat},JcN g pairs j y e r=true-> ∀(k:Nat) x,r[k]?=some x->e+k<j->JnO g pairs (e+k) j x y=true
 |[],e,_,k,x,hx,_=>by simp at hx
 |z::r,e,h,k,x,hx,n=>by
  simp only[JcN,J03,Jnv,decide_eq_true_eq]at h;cases k with
  |zero=>grind
  |succ k=>
   have:=Jjk h.2 k x (by simpa using hx) (by omega)
   grind
theorem JlL{j:List (List Nat)}{pairs:List (Nat×Nat)}{g:List J1u}: ∀{r:List J1u} {e:Nat},JiC j pairs g e r=true-> ∀(k:Nat) y,r[k]?=some y->JcN j pairs (e+k) y 0 g=true
 |[],e,_,k,y,hy=>by simp at hy
 |z::r,e,h,k,y,hy=>by
  simp only[JiC,J03]at h;cases k with
  |zero=>simp_all
  |succ k=>
   have:=JlL h.2 k y (by simpa using hy)
   grind
theorem Jjl: ∀{r:List Oper} {g:Nat},Jgi g r=true-> ∀(k:Nat) o,r[k]?=some o-> ∀e∈o.after,Region.binds .any e=true->e.on<g+k
 |[],g,_,k,o,ho=>by simp at ho
 |z::r,g,h,k,o,ho=>by
  simp only[Jgi,J03]at h;cases k with
  |zero=>
   grind [Array.all_eq_true_iff_forall_mem]
  |succ k=>intro e he hb;have:=Jjl h.2 k o (by simpa using ho) e he hb;omega
theorem JEz{x y:J1u}(h:JbT x y=true):(∀m,x.dst=some m->y.dst≠some m/\m∉J7W y)/\(∀m,y.dst=some m->m∉J7W x):=by
 grind [JbT]
variable {ins:List J1u} {new:Nat->Nat} {S:Nat->St} {eff:Nat->Eff}
theorem JFq(hr:Run F ins new S eff){i j:Nat}(hi:i<ins.length)(hj:j<ins.length)(h1:JbT ins[i] ins[j]=true)
  (h2:JfD ins[i] ins[j]=true\/(J6I ((eff i).ws.map (·.1)) (J4P ((J1A F ins[j] (new j)).reads (S j)))=true/\
   J6I ((eff i).ws.map (·.1)) ((eff j).ws.map (·.1))=true/\J6I (J4P ((J1A F ins[i] (new i)).reads (S i))) ((eff j).ws.map (·.1))=true)):JsG F ins new S eff i j:=by
 obtain⟨s1,q⟩:=JEz h1;have g:ins[i]?=some ins[i]:=zQ9 hi;have e:ins[j]?=some ins[j]:=zQ9 hj;obtain⟨n,_⟩:=hr.step i _ g;obtain⟨k,_⟩:=hr.step j _ e;refine⟨λx y m hx hy hm=>?_,λx y m hx hy hm hl=>?_,λy b hy hb=>?_,λx b hx hb hl=>?_⟩
 ·rw[g]at hx;cases hx;rw[e]at hy;cases hy;exact⟨(s1 m hm).1,λhl=>(s1 m hm).2 (JyD F _ _ _ _ hl)⟩
 ·rw[g]at hx;cases hx;rw[e]at hy;cases hy;exact q m hm (JyD F _ _ _ _ hl)
 ·rw[e]at hy;cases hy;rcases h2 with h2|⟨k1,k2,o⟩
  ·simp only[JfD,J03,Jnv,Jud]at h2;rcases h2.1 with h|h
   ·rw[Jo2 F _ _ h _ _ n]at hb;simp at hb
   ·refine⟨?_,Jyp F _ _ h _ _ k b⟩;rw[Jo2 F _ _ (JDo h) _ _ k];simp
  ·exact⟨JjM k2 hb,λhl=>JjM k1 hb (Jc5 hl)⟩
 ·rw[g]at hx;cases hx;rcases h2 with h2|⟨k1,k2,o⟩
  ·simp only[JfD,J03,Jnv,Jud]at h2;rcases h2.2 with h|h
   ·rw[Jo2 F _ _ h _ _ k]at hb;simp at hb
   ·exact Jyp F _ _ h _ _ n b hl
  grind [JjM,Jc5]
def Dl(e:Array Bool):Nat->Bool:=λj=>e.getD j false
theorem JC2{e:Array Bool}{i:Nat}(hi:i<e.size):Dl (e.setIfInBounds i true)=λj=>if j=i then true else Dl e j:=by
 funext j
 unfold Dl;by_cases h:j=i
 all_goals simp_all [Ne.symm]
theorem Jms{l:Array Bool}{i:Nat}(hi:i<l.size)(h:l.getD i false=false):(l.setIfInBounds i true).count false+1=l.count false:=by
 have he:l[i]=false:=by simp_all
 grind [Array.getElem_mem]
theorem Jmb{l:Array Bool}(h:l.count false=0){i:Nat}(hi:i<l.size):l.getD i false=true:=by
 grind [Jms]
theorem JG7{l:Array Bool}: ∀m,m<=l.size->(∀j,j<m->Dl l j=true)\/ ∃k,k<m/\Dl l k=false/\ ∀j,j<k->Dl l j=true
 |0,_=>.inl λj hj=>by omega
 |m+1,h=>by
  rcases JG7 (l:=l) m (by omega)with h1|⟨k,a,b,c⟩
  all_goals grind
theorem JCJ{l:Array Bool}{j:Nat}(hj:j<l.size):l.getD j true=l.getD j false:=by simp[hj]
theorem JJi(T:J5G P F)(hr:Run F ins new S eff)(hlen:ins.length=ops.size)(hc: ∀(k:Nat) i,ins[k]?=some i-> ∃o,ops[k]?=some o/\Jd1 P N ops i o=true)
  (A: ∀(k:Nat) o,ops[k]?=some o-> ∀e∈o.after,Region.binds .any e=true->e.on<k)
  (D: ∀i j,i<j->j<ins.length->JFb ops j i\/JsG F ins new S eff i j)
  (next: ∀B w',Sim N E (S ins.length) B w'->Q .normal B w'):
  ∀(h:Nat) (g:Array Bool) (st:St) (a:Act) (w:World),g.size=ops.size->Jlq ins eff (S 0) (Dl g) st->Sim N E st a w->JDk ops (Dl g)->g.count false=h->
   wpAny P .any ops Q h g a w:=by
 intro h
 induction h with
 |zero=>
  intro g st a w G y hs q x;refine⟨?_,?_⟩
  ·cases hre:Region.ready .any ops g with
   |nil=>rfl
   |cons j l=>
    exfalso;have hm:j∈Region.ready .any ops g:=by rw[hre];simp
    grind [mem_ready,Jmb]
  ·obtain⟨e1,e2⟩:=JCf hr y λj hj=>Jmb x (by omega);exact next a w (hs.congr (λm=>(e1 m).symm) e2.symm)
 |succ h ih=>
  intro g st a w G y hs q x;refine⟨λU=>?_,λk hk=>?_⟩
  ·exfalso;rcases JG7 (l:=g) ops.size (by omega)with v|⟨k,hk,z,H⟩
   ·have:g.count false=0:=by
     rw[Array.count_eq_zero];intro hm;obtain⟨i,hi,he⟩:=Array.getElem_of_mem hm;have:=v i (by omega);unfold Dl at this;simp[hi,he]at this
    omega
   ·have hm:k∈Region.ready .any ops g:=by
     rw[mem_ready];refine⟨by rw[JCJ (by omega)];exact z,ops[k],by simp[hk],λe he hb=>?_⟩;exact H _ (A k ops[k] (by simp[hk]) e he hb)
    simp_all
  ·obtain⟨h1,o,ho,v⟩:=mem_ready.1 hk;have R:k<ops.size:=(Array.getElem?_eq_some_iff.1 ho).1;have z:Dl g k=false:=by grind [Dl]
   have J:ins[k]?=some (ins[k]'(by omega)):=zQ9 _;obtain⟨V,M,K⟩:=hc k _ J;have n:Jnw ops (Dl g) k:=by intro I r e he hb;rw[ho]at r;cases r;exact v e he hb
   obtain⟨O,W⟩:=JEZ hr y J z (λj hj hDj=>by
    rcases D j k hj (by omega)with hm|hm
    ·have:=hm _ q n;simp_all
    ·exact hm) (λj hj L hDj=>by
    rcases D k j hj L with hm|hm
    ·have:=hm _ q (q j hDj);simp_all
    ·exact hm)
   refine JCv T hs M K O λB w' hs'=>ih _ _ B w' (by simp[G]) ?_ hs' ?_ ?_
   ·grind [JC2]
   ·rw[JC2 (by omega)];intro j hj I r e he hb;dsimp only at hj⊢;have hm:Dl g e.on=true->(if e.on=k then true else Dl g e.on)=true:=by simp_all
    by_cases C:j=k
    ·subst C;exact hm (n I r e he hb)
    ·rw[if_neg C]at hj;exact hm (q j hj I r e he hb)
   grind [Jms]
theorem JIf(O:J5G P F)(C:P.follows .mixedOrders=true){id:Nat}{draw:Bool}{pairs:List (Nat×Nat)}{ins:List J1u}(h:region F pairs ins st=some st')
  (hc:Jwf P N draw pairs ins ops=true) (hs:Sim N E st a w) (next: ∀L w',Sim N E st' L w'->Q .normal L w'):(Code.region id ops draw).wp P Q a w:=by
 simp only[Jwf,J03,Jnv,Jud]at hc;obtain⟨H,A⟩:=hc;obtain⟨hlen,B⟩:=JpH H;have hlen:ins.length=ops.size:=by simp_all
 have B: ∀(k:Nat) i,ins[k]?=some i-> ∃o,ops[k]?=some o/\Jd1 P N ops i o=true:=λk i hi=>by simp_all
 have K:=hs.room (news ins)
 have G: ∃(new:Nat->Nat) (S:Nat->St) (eff:Nat->Eff),Run F ins new S eff/\S 0=⟨st.env,room (news ins) st.sto⟩/\S ins.length=st'/\
   ∀i j,(i,j)∈pairs-> ∃x y,ins[i]?=some x/\ins[j]?=some y/\J6I ((eff i).ws.map (·.1)) (J4P ((J1A F y (new j)).reads (S j)))=true/\
   J6I ((eff i).ws.map (·.1)) ((eff j).ws.map (·.1))=true/\J6I (J4P ((J1A F x (new i)).reads (S i))) ((eff j).ws.map (·.1))=true:=by
  unfold region at h;split at h
  ·grind [JD6]
  ·split at h
   ·rename_i s' l g;split at h
    ·rename_i hp;cases h;obtain⟨new,S,eff,hr,v,hl,_,q⟩:=JCx g;refine⟨new,S,eff,hr,v,hl,λi j hm=>?_⟩;obtain⟨x,y,hx,hy,d1,Y,Z⟩:=Jlw hp hm;have J: ∀(k:Nat) z,l[k]?=some z->k<ins.length:=by
      intro k z hk;have:=Jw hk;have U:l.length=ins.length:=by
       clear q hr v hl hp hx hy;have: ∀{r:List J1u} {e:Nat} {s0:St} {l0 n:Log} {s1:St},J4Q F r e s0 l0=some (s1,n)->n.length=l0.length+r.length:=by
        intro r
        induction r with
        |nil=>simp[J4Q]
        |cons i r ih=>
         grind [J4Q]
       grind
      omega
     have hi:=J i x hx;have hj:=J j y hy;have I:ins[i]?=some ins[i]:=zQ9 hi;have D:ins[j]?=some ins[j]:=zQ9 hj;have R:=q i _ I;have T:=q j _ D;simp only[List.length_nil,Jeo]at R T
     grind
    ·cases h
   ·cases h
 obtain⟨new,S,eff,hr,v,hl,hp⟩:=G;cases draw with
 |false=>
  refine wp_region ?_;rw[List.range_eq_range',<-hlen];have V: ∃e,J3j F ins e ⟨st.env,room (news ins) st.sto⟩=some st':=by
   unfold region at h;split at h
   ·grind
   ·split at h
    ·rename_i s' l g;split at h
     ·cases h;have: ∀{r:List J1u} {e:Nat} {s0:St} {l0 n:Log} {s1:St},J4Q F r e s0 l0=some (s1,n)->J3j F r e s0=some s1:=by
       intro r
       induction r with
       |nil=>intro e s0 l0 n s1 h;simp only[J4Q]at h;injection h with h;injection h with h1 h2;subst h1;rfl
       |cons i r ih=>
        grind [J4Q,J3j]
      grind
     ·cases h
    ·cases h
  grind [Jpn]
 |true=>
  obtain⟨he,hd⟩:=A.resolve_left (by simp);refine wp_region_any C ?_;have M:Sim N E (S 0) a {w with drawn:=w.drawn+1}:=by rw[v];exact K.heap rfl rfl rfl
  refine JJi O hr hlen B (λk o ho=>?_) (λi j W hj=>?_) (by simp_all) ops.size _ (S 0) a _ (by simp) ?_ M ?_ ?_
  ·have:=Jjl he k o (by simpa using ho);simp_all
  ·have I:ins[i]?=some (ins[i]'(by omega)):=zQ9 _;have D:ins[j]?=some ins[j]:=zQ9 hj;have h1:=JlL hd j _ D;rw[Jeo]at h1;have h2:=Jjk h1 i _ I (by omega);rw[Jeo]at h2;simp only[JnO,Jnv,J03]at h2;rcases h2 with h2|⟨h2,h3⟩
   ·grind [JC7]
   grind [JFq]
  ·have:Dl (Array.replicate ops.size false)=λ_=>false:=by
    funext j;unfold Dl;simp[Array.getElem?_replicate];split<;>rfl
   rw[this];exact JxX
  ·intro j hj;unfold Dl at hj;simp[Array.getElem?_replicate]at hj
   grind
  ·simp
end
end Go.Am
end
section
namespace Go.Am
def J0T(P:Program)(N:Nat):J17->Code->Bool
 | .bad,_=>true
 | .skip,c=>match c with
  | .skip=>true
  | .label _=>true
  |_=>false
 | .reg draw pairs ins,c=>match c with
  | .region _ ops d=>draw==d&&Jwf P N draw pairs ins ops
  |_=>false
 | .seq a b,c=>match c with
  | .seq x y=>J0T P N a x&&J0T P N b y
  |_=>false
 | .cond o a b,c=>match c with
  | .cond p x y=>J1g o p&&J0T P N a x&&J0T P N b y
  |_=>false
 | .block id a,c=>match c with
  | .block e x=>id==e&&J0T P N a x
  |_=>false
 | .loop _ a,c=>match c with
  | .loop x=>J0T P N a x
  |_=>false
 | .lp _ _ _,_=>false
 | .scope a,c=>match c with
  | .scope x=>J0T P N a x
  |_=>false
 | .exit id,c=>match c with
  | .exit e=>id==e
  |_=>false
 | .ret,c=>match c with
  | .ret=>true
  |_=>false
 | .keep _ a,c=>J0T P N a c
 | .tidy _ a,c=>J0T P N a c
 | .br _ pre o a b rest,c=>match c with
  | .seq (.seq p (.cond q x y)) z=>J0T P N pre p&&J1g o q&&J0T P N a x&&J0T P N b y&&J0T P N rest z
  |_=>false
def J8W:AX->Exit
 | .normal=>.normal
 | .exit id=>.exit id
 | .ret=>.ret
def Jfn(P:Program)(c:J17)(st:St)(r:Out):Prop:=
 match c with
 | .lp n _ b=> ∃k,∀(N:Nat) (e:Code) (E:Sn) (a:Act) (w:World) (Q:Exit->Act->World->Prop),J0T P N b e=true->E.σ.length<=n->n<=st.sto.length->Sim N E st a w->
   (∀g w',Sim N E r.2 g w'->Q (J8W r.1) g w')->Code.rounds P e Q k a w
 |c=> ∀(N:Nat) (e:Code) (E:Sn) (a:Act) (w:World) (Q:Exit->Act->World->Prop),J0T P N c e=true->Sim N E st a w->
  (∀g w',Sim N E r.2 g w'->Q (J8W r.1) g w')->e.wp P Q a w
theorem Jfn.get{P:Program}{c:J17}{st:St}{r:Out}(h:Jfn P c st r){N:Nat}{e:Code}{E:Sn}{a:Act}{w:World}{Q:Exit->Act->World->Prop}(hc:J0T P N c e=true)(hs:Sim N E st a w)
  (next: ∀g w',Sim N E r.2 g w'->Q (J8W r.1) g w'):e.wp P Q a w:=by
 cases c<;>first|exact h N e E a w Q hc hs next|grind [J0T]
theorem Jg9{env:List (Nat×AV)}{n:Nat}{x:AV}: ∀{live:List Nat},lk n (restr live env)=some x->lk n env=some x
 |[],h=>by grind [restr,lk]
 |k::r,h=>by
  simp only[restr]at h;split at h
  ·rename_i v hv;simp only[lk]at h;split at h
   ·simp_all
   ·exact Jg9 h
  ·exact Jg9 h
theorem Jzk{m:Nat}{sto:List Blk}{n:Nat}{y:AV}: ∀{env g:List (Nat×AV)},JhQ m sto env=some g->lk n g=some y-> ∃x,lk n env=some x/\fin m [] sto x=some y
 |[],g,h,hy=>by grind [JhQ,lk]
 |(k,x)::r,g,h,hy=>by
  simp only[JhQ]at h;split at h
  ·rename_i z l hz hl;injection h with h;subst h;simp only[lk]at hy⊢;split at hy
   ·simp_all
   ·rename_i e;obtain⟨j,h1,h2⟩:=Jzk hl hy;simp_all
  ·cases h
section
variable {P:Program} {N:Nat} {E:Sn} {st st':St} {a:Act} {w:World}
theorem Sim.restr(h:Sim N E st a w)(live:List Nat):Sim N E ⟨restr live st.env,st.sto⟩ a w:=by obtain⟨h1,h2,g,hi,hr,e⟩:=h;exact⟨h1,h2,g,hi,λn x hx=>hr n x (Jg9 hx),e⟩
theorem Jgb{n:Nat}{live:List Nat}(h:Sim N E st a w)(hc:clean n live st=some st')(z:E.σ.length<=n)(hn:n<=st.sto.length):Sim N E st' a w/\st'.sto.length=n:=by
 unfold clean at hc;split at hc
 ·rename_i e;injection hc with hc;subst hc;exact⟨h.restr live,e⟩
 ·split at hc
  ·rename_i ev l q hl;injection hc with hc;subst hc;obtain⟨h1,h2,g,hi,hr,r⟩:=h;obtain⟨k1,k2⟩:=Jc7 hl;have hlen:l.length=n:=by simp_all
   have o:JB6 ⟨st.sto,g,w⟩ n [] l:=by
    refine⟨hi,hn,List.nodup_nil,λb hb=>by simp at hb,by simp[hlen],λk x hk=>?_⟩
    grind [J8v]
   refine⟨⟨h1,h2,(J6R ⟨st.sto,g,w⟩ n [] l).g,Jz4 o,λk y hy=>?_,JpC o r z⟩,hlen⟩;obtain⟨x,hx,hf⟩:=Jzk q hy;obtain⟨v,hv,j⟩:=hr k x (Jg9 hx);exact⟨v,hv,Jou o j hf⟩
  ·cases hc
def J7a(P:Program):List JhP->List ResultVar->Bool
 |[],[]=>true
 | .tmp t::r,.tmp t'::q=>t==t'&&J7a P r q
 | .cell t agg size::r,.cell t' ty::q=>t==t'&&agT P ty==some agg&&szT P ty==some size&&J7a P r q
 |_,_=>false
def JAq(tmps:Array Value):ResultVar->Sem Value
 | .tmp t=>pure (tmps.getD t undef)
 | .cell a t=>do loadVar t (<-asAddr (tmps.getD a undef))
theorem JnI{s:Sn}{env:List (Nat×AV)}{tmps:Array Value}(hi:Inv s)(he:J0n s tmps env): ∀{k:List JhP} {n:List ResultVar} {vs:List AV},J7a P k n=true->(Jby k).run ⟨env,s.σ⟩=some vs->
  ∃g:List Value,(n.mapM (JAq tmps)).run P s.w=.ok g s.w/\vs.length=g.length/\ ∀(i:Nat) x v,vs[i]?=some x->g[i]?=some v->JH s x v
 |[],[],vs,_,h=>by simp_all [Jby,RM.run]
 | .tmp t::r,.tmp t'::q,vs,hc,h=>by
  simp only[J7a,J03,beq_iff_eq]at hc;obtain⟨rfl,hc⟩:=hc;simp only[Jby]at h;obtain⟨x,h1,h⟩:=bind_some h;obtain⟨l,h2,h⟩:=bind_some h;simp only[RM.run]at h;injection h with h;subst h
  simp only[RM.run]at h1;split at h1
  ·rename_i y hy;injection h1 with h1;subst h1;obtain⟨v,hv,hr⟩:=he _ _ hy;obtain⟨g,k1,k2,A⟩:=JnI hi he hc h2;refine⟨v::g,?_,by simp[k2],λi x u hx hu=>?_⟩
   ·simp_all [JAq]
   grind
  ·cases h1
 | .cell t agg size::r,.cell t' ty::q,vs,hc,h=>by
  simp only[J7a,J03,beq_iff_eq]at hc;obtain⟨⟨⟨rfl,ha⟩,hz⟩,hc⟩:=hc;simp only[Jby]at h;obtain⟨x,h1,h⟩:=bind_some h;obtain⟨e,h3,h⟩:=bind_some h;obtain⟨l,h2,h⟩:=bind_some h;simp only[RM.run]at h;injection h with h;subst h
  simp only[RM.run]at h1;split at h1
  ·rename_i y hy;injection h1 with h1;subst h1;obtain⟨v,hv,hr⟩:=he _ _ hy;obtain⟨g,k1,k2,A⟩:=JnI hi he hc h2;obtain⟨C,o,ws,q1,q2,q3,_,D⟩:=JpB hi h3 hr;obtain⟨E,l2⟩:=Jjm (P:=P) ha hz q2 q3;have j: ∃u,(loadVar ty ⟨C,o,none⟩).run P s.w=.ok u s.w/\JH s e.val u:=by
    grind
   obtain⟨u,hu,B⟩:=j;refine⟨u::g,?_,by simp[k2],λi x z hx hz=>?_⟩
   ·simp_all [JAq,asAddr]
   grind
  ·cases h1
 |[],_::_,_,hc,_=>by grind [J7a]
 | .tmp _::_,[],_,hc,_=>by grind [J7a]
 | .cell _ _ _::_,[],_,hc,_=>by grind [J7a]
 | .tmp _::_,.cell _ _::_,_,hc,_=>by grind [J7a]
 | .cell _ _ _::_,.tmp _::_,_,hc,_=>by grind [J7a]
theorem JdV{m:Nat}{fresh:Bool}{sto:List Blk}: ∀{es:List Ent},∀b∈J4O m fresh sto es,m<=b
 |[],b,h=>by grind [J4O]
 | .elem _ _ _::r,b,h=>JdV (es:=r) b (by simpa[J4O]using h)
 | .whole c::r,b,h=>by
  simp only[J4O]at h;split at h
  ·exact JdV (es:=r) b h
  ·rename_i hc;have e:b∈c::J4O m fresh sto r->m<=b:=by
    intro h;rcases J2U.1 h with rfl|h
    ·omega
    ·exact JdV (es:=r) b h
   grind
theorem Jz6{s:Sn}{vs:List AV}{e:List Value}(hl:vs.length=e.length)(hr: ∀(i:Nat) x v,vs[i]?=some x->e[i]?=some v->JH s x v):
  JH s (one vs) (if h:e.toArray.size=1 then e.toArray[0]else .tuple e.toArray):=by
 by_cases h:e.toArray.size=1
 ·rw[dif_pos h];cases e with
  |nil=>simp at h
  |cons u q=>
   cases vs with
   |nil=>simp at hl
   |cons x p=>
    have hq:q=[]:=by simpa using h
    subst hq;have hp:p=[]:=by simpa using hl
    subst hp;exact hr 0 x u rfl rfl
 ·rw[dif_neg h];have:one vs=.tup vs:=by
   match vs,hl with
   |[],_=>rfl
   |[x],hl=>simp_all
   |_::_::_,_=>rfl
  rw[this];exact .tup _ _ (by simpa using hl) λi x v hx hv=>hr i x v hx (by simpa using hv)
theorem Jpw{e:AFn}{fn:Func}{m:Nat}{r:Res}(hs:Sim N E st a w)(hm:E.σ.length=m)(h:J3F e m st=some r)(hc:J7a P e.res fn.results.toList=true):
  a.defers=[]/\ ∃v,(results fn a.tmps).run P w=.ok v w/\ ∃g',Inv ⟨r.2,g',w⟩/\J0k E ⟨r.2,g',w⟩/\JH ⟨r.2,g',w⟩ r.1 v:=by
 obtain⟨h1,h2,g,hi,hr,B⟩:=hs;refine⟨h2,?_⟩;unfold J3F at h;cases hvs:(Jby e.res).run st with
 |none=>simp_all
 |some vs=>
  rw[hvs]at h;dsimp only at h;obtain⟨y,k1,k2,G⟩:=JnI (P:=P) (s:=⟨st.sto,g,w⟩) (env:=st.env) hi hr hc hvs;have n:(results fn a.tmps).run P w=.ok (if h:y.toArray.size=1 then y.toArray[0]else .tuple y.toArray) w:=by
   have:results fn a.tmps=(do
    let vs<-fn.results.mapM (JAq a.tmps)
    pure (if h:vs.size=1 then vs[0]else .tuple vs)):=rfl
   simp_all [Array.mapM_eq_mapM_toList]
  refine⟨_,n,?_⟩;split at h
  ·grind [Jz6]
  ·split at h
   ·rename_i C;have z:=JdV (m:=m) (fresh:=e.fresh) (sto:=st.sto) (es:=Jb9 st.sto (J0Z.entsOfL vs []) (J0Z.entsOfL vs []));generalize J4O m e.fresh st.sto (Jb9 st.sto (J0Z.entsOfL vs []) (J0Z.entsOfL vs []))=ids at*;split at h
    ·rename_i ws l q A hl hq;split at h
     ·rename_i q' D;injection h with h;subst h;obtain⟨a1,a2⟩:=J6h A;obtain⟨b1,b2⟩:=Jc7 hl;obtain⟨L,M⟩:=Jlu hq;obtain⟨K,J⟩:=Jc7 D;have F:m<=st.sto.length:=by rw[<-hm];exact B.len
      have hlen:l.length=m:=by simp_all
      have o:JB6 ⟨st.sto,g,w⟩ m ids (l++q'):=by
       refine⟨hi,F,JbY C,z,by simp;omega,λk x hk=>?_⟩;rcases Jfb hk with hk|⟨H,hk⟩
       ·grind [J8v]
       grind [J6D]
      refine⟨_,Jz4 o,JpC o B (by omega),Jz6 (by omega) λi x v hx hv=>?_⟩;have I:=Jw hx;have j:vs[i]?=some (vs[i]'(by omega)):=zQ9 _;exact Jou o (G i _ v j hv) (a2 i _ x j hx)
     ·cases h
    ·cases h
   ·cases h
def J7z(P:Program)(f:FuncId)(e:AFn):Bool:=
 match P.funcs[f]? with
 |none=>false
 |some fn=>match fn.body with
  |none=>false
  |some g=>fn.name != "runtime.NumGoroutine" &&e.nt==e.np+(fn.ntmps-e.np)&&J7a P e.res fn.results.toList&&J0T P e.nt e.body g
theorem Jn2: ∀{args:List AV} {k n:Nat} {x:AV},lk n (J8I k args)=some x->k<=n/\args[n-k]?=some x
 |[],k,n,x,h=>by grind [J8I,lk]
 |y::r,k,n,x,h=>by
  simp only[J8I,lk]at h;split at h
  ·simp_all
  ·rename_i e;obtain⟨h1,h2⟩:=Jn2 h
   grind
end
section
variable {P:Program} {T:J5t}
theorem JEe{f:FuncId}{j:AFn}{args:List AV}{blks:List Blk}{r:Res}(hc:J7z P f j=true)(I:args.length=j.np)
  (h: ∀(k:Code) (g:Gh) (w:World) (a:Act) (Q:Exit->Act->World->Prop),J0T P j.nt j.body k=true->Sim j.nt ⟨blks,g,w⟩ ⟨J8I 0 args,blks⟩ a w->
   (∀e s o w',(e=.normal\/e=.ret)->J3F j blks.length s=some r->Sim j.nt ⟨blks,g,w⟩ s o w'->Q (J8W e) o w')->k.wp P Q a w):J92 P f args blks r:=by
 unfold J7z at hc;split at hc
 ·cases hc
 ·rename_i fn z;split at hc
  ·cases hc
  ·rename_i k hb;simp only[J03,beq_iff_eq,bne_iff_ne,ne_eq]at hc;obtain⟨⟨⟨E,H⟩,F⟩,y⟩:=hc;refine⟨⟨fn,z,by simp[hb],by simp_all⟩,λg w vals A hlen B=>?_⟩;refine calls_of_wp z hb ?_;have D:Sim j.nt ⟨blks,g,w⟩ ⟨J8I 0 args,blks⟩ {tmps:=vals++Array.replicate (fn.ntmps-vals.size) undef,defers:=[]} w:=by
    refine⟨by simp;omega,rfl,g,A,λn x hx=>?_,.refl _⟩;obtain⟨_,hx⟩:=Jn2 hx;rw[Jhe]at hx;have G:=Jw hx;refine⟨vals[n]'(by omega),?_,B n x _ hx (JtD _)⟩
    grind
   have fin: ∀{s},J3F j blks.length s=some r-> ∀o w',Sim j.nt ⟨blks,g,w⟩ s o w'->o.defers=[]/\ ∃v,(results fn o.tmps).run P w'=.ok v w'/\ ∃C g',Ending.returned v=.returned C/\
     Inv ⟨r.2,g',w'⟩/\J0k ⟨blks,g,w⟩ ⟨r.2,g',w'⟩/\JH ⟨r.2,g',w'⟩ r.1 C:=by
    grind [Jpw]
   refine h k g w _ _ y D λe s o w' he q hs=>?_;rcases he with rfl|rfl
   ·exact fin q o w' hs
   ·exact fin q o w' hs
theorem JFj{R:J17->St->Option Out}(ih: ∀c s r,R c s=some r->Jfn P c s r){f:FuncId}{k:JbD}{args:List AV}{blks:List Blk}{r:Res}(hc:J7z P f k.af=true)(J:args.length=k.np)
  (h:Jim R k args blks=some r):J92 P f args blks r:=by
 refine JEe hc J λx g w a Q q B fin=>?_;simp only[JbD.af]at q fin B;cases x<;>simp only[J0T,J8E]at q;rename_i L K;simp only[J03]at q;obtain⟨E,y⟩:=q;unfold Jim at h;split at h
 ·rename_i s0 H;split at h
  ·rename_i s1 D;refine wp_seq ((ih _ _ _ H).get E B λa0 w0 z=>?_);split at y
   ·rename_i cp G T S M;simp only[J03]at y;obtain⟨⟨⟨⟨hp,ho⟩,hx⟩,hy⟩,hz⟩:=y;simp only[J8W,Exit.then];refine wp_seq (wp_seq ((ih _ _ _ D).get hp z λa1 w1 z=>?_))
    have O: ∀{c:J17} {x:Code},J0T P k.nt c x=true->Jkj k.af blks.length (thn (R c s1) λs=>R k.rest s)=some r->
      x.wp P (Exit.then (M.wp P Q) Q) a1 w1:=by
     intro c x hc n;cases hR:R c s1 with
     |none=>rw[hR]at n;cases n
     |some o=>
      obtain⟨e,F⟩:=o;rw[hR]at n;refine(ih _ _ _ hR).get hc z λA w' hs'=>?_;cases e with
      |normal=>
       simp only[thn]at n;cases hR2:R k.rest F with
       |none=>rw[hR2]at n;cases n
       |some N=>
        obtain⟨e2,I⟩:=N;rw[hR2]at n;simp only[J8W,Exit.then];refine(ih _ _ _ hR2).get hz hs' λA w' hs'=>?_;cases e2 with
        |normal=>exact fin .normal I A w' (.inl rfl) n hs'
        |ret=>exact fin .ret I A w' (.inr rfl) n hs'
        |exit id=>cases n
      |exit id=>cases n
      |ret=>exact fin .ret F A w' (.inr rfl) n hs'
    have C:=z;obtain⟨_,_,g,hi,hr,_⟩:=C;simp only[J8W,Exit.then];split at h
    ·rename_i b hb;have j:=J0h (s:=⟨s1.sto,g,w1⟩) (env:=s1.env) hr hb ho;generalize hv:a1.eval G=v at j;cases j with
     |p _ _ j=>cases j<;>grind [wp_cond]
    ·rename_i hb;have j:=J0h (s:=⟨s1.sto,g,w1⟩) (env:=s1.env) hr hb ho;generalize hv:a1.eval G=v at j;cases j with
     |unk t=>
      refine wp_cond hv ?_;unfold JkO at h
      grind
    ·cases h
   ·cases y
  ·cases h
 ·cases h
theorem Jt4{R:J17->St->Option Out}(ih: ∀c s r,R c s=some r->Jfn P c s r)(E: ∀f j,T f=some (.fn j)->J7z P f j=true)
  (K: ∀f g,T f=some (.prim g)-> ∀args blks r,g args blks=some r->J92 P f args blks r) (J: ∀f k,T f=some (.fork k)->J7z P f k.af=true):J5G P (JbZ T R):=by
 intro f args blks r h;unfold JbZ at h;cases hTf:T f with
 |none=>simp_all
 |some en=>
  rw[hTf]at h;cases en with
  |prim g=>simp_all
  |fork k=>
   grind [JFj]
  |fn j=>
   dsimp only at h;split at h
   ·rename_i H;have hc:=E f j hTf;unfold J7z at hc;split at hc
    ·cases hc
    ·rename_i fn y;split at hc
     ·cases hc
     ·rename_i D hb;simp only[J03,beq_iff_eq,bne_iff_ne,ne_eq]at hc;obtain⟨⟨⟨C,I⟩,F⟩,o⟩:=hc;refine⟨⟨fn,y,by simp[hb],by simp_all⟩,λg w vals z hlen A=>?_⟩;refine calls_of_wp y hb ?_;have q:Sim j.nt ⟨blks,g,w⟩ ⟨J8I 0 args,blks⟩ {tmps:=vals++Array.replicate (fn.ntmps-vals.size) undef,defers:=[]} w:=by
       refine⟨by simp;omega,rfl,g,z,λn x hx=>?_,.refl _⟩;obtain⟨_,hx⟩:=Jn2 hx;rw[Jhe]at hx;have G:=Jw hx;refine⟨vals[n]'(by omega),?_,A n x _ hx (JtD _)⟩
       grind
      have fin: ∀{s},J3F j blks.length s=some r-> ∀e w',Sim j.nt ⟨blks,g,w⟩ s e w'->e.defers=[]/\ ∃v,(results fn e.tmps).run P w'=.ok v w'/\ ∃B g',Ending.returned v=.returned B/\
        Inv ⟨r.2,g',w'⟩/\J0k ⟨blks,g,w⟩ ⟨r.2,g',w'⟩/\JH ⟨r.2,g',w'⟩ r.1 B:=by
       grind [Jpw]
      split at h
      ·rename_i s hR;exact(ih _ _ _ hR).get o q λe w' hs=>fin h e w' hs
      ·rename_i s hR;exact(ih _ _ _ hR).get o q λe w' hs=>fin h e w' hs
      ·cases h
   ·cases h
theorem JGu(S:P.follows .mixedOrders=true)(hT: ∀f Z,T f=some (.fn Z)->J7z P f Z=true)
  (hP: ∀f g,T f=some (.prim g)-> ∀args blks r,g args blks=some r->J92 P f args blks r) (hK: ∀f k,T f=some (.fork k)->J7z P f k.af=true): ∀c s r,X T c s=some r->Jfn P c s r:=by
 refine JKu T _ ?_;intro R ih c s r h;have hF:J5G P (JbZ T R):=Jt4 ih hT hP hK;cases c with
 |skip=>
  simp only[step]at h;injection h with h;subst h
  intro N j E a w Q hc hs next;cases j<;>first
   |exact wp_skip (next a w hs)
   |exact wp_label (next a w hs)
   |grind [J0T]
 |bad=>grind [step]
 |reg d pairs ins=>
  simp only[step]at h;split at h
  ·rename_i s' M;injection h with h;subst h;intro N j E a w Q hc hs next;cases j<;>simp only[J0T,J8E]at hc;simp only[J03,beq_iff_eq]at hc;obtain⟨rfl,hc⟩:=hc;exact JIf hF S M hc hs next
  ·cases h
 |seq x y=>
  simp only[step]at h;intro N j E a w Q hc hs next;cases j<;>simp only[J0T,J8E]at hc;simp only[J03]at hc;refine wp_seq ?_;split at h
  ·rename_i s' hx;refine(ih _ _ _ hx).get hc.1 hs λA w' hs'=>?_;exact(ih _ _ _ h).get hc.2 hs' next
  ·rename_i J;refine(ih _ _ _ h).get hc.1 hs λA w' hs'=>?_;obtain⟨e,s'⟩:=r;cases e with
   |normal=>simp_all
   |exit id=>exact next A w' hs'
   |ret=>exact next A w' hs'
 |cond c x y=>
  simp only[step]at h;intro N j E a w Q hc hs next;cases j<;>simp only[J0T,J8E]at hc;simp only[J03]at hc;obtain⟨⟨K,hx⟩,hy⟩:=hc;have hs':=hs;obtain⟨_,_,g,hi,hr,_⟩:=hs';split at h
  ·rename_i b hb;have q:=J0h (s:=⟨s.sto,g,w⟩) (env:=s.env) hr hb K;generalize hv:a.eval _=v at q;cases q with
   |p _ _ q=>
    cases q with
    |b=>
     refine wp_cond hv ?_;cases b with
     |true=>exact(ih _ _ _ (by simpa using h)).get hx hs next
     |false=>exact(ih _ _ _ (by simpa using h)).get hy hs next
  ·rename_i hb;have q:=J0h (s:=⟨s.sto,g,w⟩) (env:=s.env) hr hb K;generalize hv:a.eval _=v at q;cases q with
   |unk t=>
    refine wp_cond hv ?_;unfold same at h;split at h
    ·rename_i r1 r2 e1 e2;split at h
     ·rename_i he;injection h with h;subst h;cases t with
      |true=>exact(ih _ _ _ e1).get hx hs next
      |false=>rw[he]at next;exact(ih _ _ _ e2).get hy hs next
     ·cases h
    ·cases h
  ·cases h
 |block id x=>
  simp only[step]at h;intro N j E a w Q hc hs next;cases j<;>simp only[J0T,J8E]at hc;simp only[J03,beq_iff_eq]at hc;obtain⟨rfl,hc⟩:=hc;refine wp_block ?_;split at h
  ·rename_i k s' hx;refine(ih _ _ _ hx).get hc hs λA w' hs'=>?_
   grind [J8W,Exit.inBlock]
  ·rename_i J;refine(ih _ _ _ h).get hc hs λA w' hs'=>?_;obtain⟨e,s'⟩:=r;cases e with
   |normal=>exact next A w' hs'
   |exit id=>simp_all
   |ret=>exact next A w' hs'
 |loop live x=>
  simp only[step]at h;intro N j E a w Q hc hs next;cases j<;>simp only[J0T,J8E]at hc;split at h
  ·rename_i s' B;obtain⟨k,hk⟩:=ih _ _ _ h;have F:E.σ.length<=s.sto.length:=by obtain⟨_,_,g,_,_,z⟩:=hs;exact z.len
   obtain⟨hs',hl⟩:=Jgb hs B F (zQ0 _);exact wp_loop_rounds k (hk N _ E a w Q hc F (by omega) hs' next)
  ·cases h
 |lp n live x=>
  simp only[step]at h;split at h
  ·rename_i s' hx;split at h
   ·rename_i a9 B;obtain⟨k,hk⟩:=ih _ _ _ h;refine⟨k+1,λN j E a w Q hc F hn hs next=>?_⟩;rw[rounds_succ];obtain⟨h1,h2,g,hi,hr,z⟩:=hs;have C:Sim N ⟨s.sto,g,w⟩ s a w:=⟨h1,h2,g,hi,hr,.refl _⟩;refine(ih _ _ _ hx).get hc C λA w' hs'=>?_;obtain⟨q1,q2,g',G,H,D⟩:=hs';have hlen:s.sto.length<=s'.sto.length:=D.len;have W:Sim N E s' A w':=⟨q1,q2,g',G,H,z.trans D⟩;obtain⟨Y,hl⟩:=Jgb W B F (by omega);exact hk N j E A w' Q hc F (by omega) Y next
   ·cases h
  ·rename_i J;refine⟨1,λN j E a w Q hc F hn hs next=>?_⟩;rw[rounds_succ];refine(ih _ _ _ h).get hc hs λA w' hs'=>?_;obtain⟨e,s'⟩:=r;cases e with
   |normal=>simp_all
   |exit id=>exact next A w' hs'
   |ret=>exact next A w' hs'
 |scope x=>simp only[step]at h;intro N j E a w Q hc hs next;cases j<;>simp only[J0T,J8E]at hc;refine wp_scope_straight ((ih _ _ _ h).get hc hs λA w' hs'=>?_);have:=next A w' hs';obtain⟨e,s'⟩:=r;cases e<;>exact this
 |exit id=>
  simp only[step]at h;injection h with h;subst h
  intro N j E a w Q hc hs next;cases j<;>simp only[J0T,J8E]at hc;simp only[beq_iff_eq]at hc;subst hc;exact wp_exit (next a w hs)
 |ret=>
  simp only[step]at h;injection h with h;subst h
  intro N j E a w Q hc hs next;cases j<;>simp only[J0T,J8E]at hc;exact wp_ret (next a w hs)
 |keep live x=>simp only[step]at h;intro N j E a w Q hc hs next;exact(ih _ _ _ h).get (by grind [J0T]) (hs.restr live) next
 |tidy live x=>
  simp only[step,J6K]at h;intro N j E a w Q hc hs next;split at h
  ·rename_i e I he;split at h
   ·rename_i U B;injection h with h;subst h;obtain⟨h1,h2,g,hi,hr,z⟩:=hs;have C:Sim N ⟨s.sto,g,w⟩ s a w:=⟨h1,h2,g,hi,hr,.refl _⟩;refine(ih _ _ _ he).get (by grind [J0T]) C λA w' hs'=>next A w' ?_;obtain⟨q1,q2,g',G,H,D⟩:=hs';exact(Jgb (st:=I) (st':=U) ⟨q1,q2,g',G,H,z.trans D⟩ B z.len D.len).1
   ·cases h
  ·cases h
 |br live pre o x y rest=>
  simp only[step]at h;intro N j E a w Q hc hs next;unfold J0T at hc;split at hc
  ·rename_i cp cq cx cy cz;simp only[J03]at hc;obtain⟨⟨⟨⟨hp,ho⟩,hx⟩,hy⟩,hz⟩:=hc;split at h
   ·rename_i s1 V;refine wp_seq (wp_seq ((ih _ _ _ V).get hp hs λa1 w1 L=>?_))
    have a2: ∀{c:J17} {j:Code} {r':Out},J0T P N c j=true->thn (R c s1) (λs=>R rest s)=some r'->
      ∀{E:Sn} {a:Act} {w:World} {Q:Exit->Act->World->Prop},Sim N E s1 a w->(∀A w',Sim N E r'.2 A w'->Q (J8W r'.1) A w')->j.wp P (Exit.then (cz.wp P Q) Q) a w:=by
     intro c j r' hc z E a w Q hs next;cases hR:R c s1 with
     |none=>rw[hR]at z;cases z
     |some o=>
      obtain⟨e,I⟩:=o;rw[hR]at z;refine(ih _ _ _ hR).get hc hs λA w' hs'=>?_;cases e with
      |normal=>exact(ih _ _ _ z).get hz hs' next
      |exit id=>injection z with z;subst z;exact next A w' hs'
      |ret=>injection z with z;subst z;exact next A w' hs'
    have a4: ∀{c:J17} {j:Code},J0T P N c j=true->J6K s1.sto.length live (thn (R c s1) λs=>R rest s)=some r->j.wp P (Exit.then (cz.wp P Q) Q) a1 w1:=by
     intro c j hc z;unfold J6K at z;split at z
     ·rename_i e I he;split at z
      ·rename_i U B;injection z with z;subst z;obtain⟨h1,h2,g,hi,hr,z⟩:=L;have C:Sim N ⟨s1.sto,g,w1⟩ s1 a1 w1:=⟨h1,h2,g,hi,hr,.refl _⟩;refine a2 hc he C λA w' hs'=>next A w' ?_;obtain⟨q1,q2,g',G,H,D⟩:=hs';exact(Jgb (st:=I) (st':=U) ⟨q1,q2,g',G,H,z.trans D⟩ B z.len D.len).1
      ·cases z
     ·cases z
    have O:=L;obtain⟨_,_,g,hi,hr,_⟩:=O;simp only[J8W,Exit.then];split at h
    ·rename_i b hb;have q:=J0h (s:=⟨s1.sto,g,w1⟩) (env:=s1.env) hr hb ho;generalize hv:a1.eval cq=v at q;cases q with
     |p _ _ q=>cases q<;>grind [wp_cond]
    ·rename_i hb;have q:=J0h (s:=⟨s1.sto,g,w1⟩) (env:=s1.env) hr hb ho;generalize hv:a1.eval cq=v at q;cases q with
     |unk t=>
      refine wp_cond hv ?_;unfold same at h
      grind
    ·cases h
   ·cases h
  ·cases hc
theorem JJQ(e:P.follows .mixedOrders=true)(j: ∀f o,T f=some (.fn o)->J7z P f o=true)
  (h: ∀f g,T f=some (.prim g)-> ∀args blks r,g args blks=some r->J92 P f args blks r) (n: ∀f k,T f=some (.fork k)->J7z P f k.af=true):J5G P (AF T):=
 Jt4 (JGu e j h n) j h n
end
end Go.Am
end
section
namespace Go.Am
@[congr] theorem JKh{o e:Option Out}{k:St->Option Out}(h:o=e):thn o k=thn e k:=by rw[h]
@[congr] theorem JJm{α β:Type}{o e:RM α}{f:α->RM β}(h:o=e):o.bind f=e.bind f:=by rw[h]
@[congr] theorem JJn{α β:Type}{o e:Option α}{f:α->Option β}(h:o=e):o.bind f=e.bind f:=by rw[h]
@[simp] theorem J9T(s k):thn (some (.normal,s)) k=k s:=rfl
@[simp] theorem JEF(i s k):thn (some (.exit i,s)) k=some (.exit i,s):=rfl
@[simp] theorem JGs(s k):thn (some (.ret,s)) k=some (.ret,s):=rfl
@[simp] theorem JDx(k):thn none k=none:=rfl
def Jvo(o:Option Out)(k:St->Option Out):Option Out:=
 match o with
 |some (.normal,s)=>k s
 |_=>none
@[congr] theorem JJr{o e:Option Out}{k:St->Option Out}(h:o=e):Jvo o k=Jvo e k:=by rw[h]
@[simp] theorem JxG(s k):Jvo (some (.normal,s)) k=k s:=rfl
def blo(id:Nat)(o:Option Out):Option Out:=
 match o with
 |some (.exit k,s)=>if k=id then some (.normal,s)else some (.exit k,s)
 |o=>o
@[simp] theorem JB2(id s):blo id (some (.normal,s))=some (.normal,s):=rfl
@[simp] theorem JuB(id i s):blo id (some (.exit i,s))=if i=id then some (.normal,s)else some (.exit i,s):=rfl
@[simp] theorem JHg(id s):blo id (some (.ret,s))=some (.ret,s):=rfl
@[simp] theorem JEg(id):blo id none=none:=rfl
def nrm(o:Option St):Option Out:=match o with
 |some s=>some (.normal,s)
 |none=>none
@[simp] theorem JFK(s):nrm (some s)=some (.normal,s):=rfl
@[simp] theorem JEW:nrm none=none:=rfl
def evv(x:Opd)(env:List (Nat×AV)):Option AV:=match x with
 | .t n=>lk n env
 | .c v=>some v
@[simp] theorem JKN(n env):evv (.t n) env=lk n env:=rfl
@[simp] theorem JKO(v env):evv (.c v) env=some v:=rfl
theorem JlT(x:Opd)(s:St):(ev x).run s=evv x s.env:=by cases x<;>grind [ev,RM.run,evv]
section
variable (T:J5t)
@[simp ↓] theorem JKI(s):X T .skip s=some (.normal,s):=by rw[JaL];rfl
@[simp ↓] theorem JFQ(a b s):X T (.seq a b) s=thn (X T a s) λs=>X T b s:=by
 rw[JaL];simp only[step];cases X T a s with
 |none=>rfl
 |some o=>obtain⟨e,s'⟩:=o;cases e<;>rfl
theorem JFZ(d ps ins s):X T (.reg d ps ins) s=nrm (region (AF T) ps ins s):=by rw[JaL];simp only[step];show(match region (AF T) ps ins s with|some s'=>some (AX.normal,s')|none=>none)=_;cases region (AF T) ps ins s<;>rfl
@[simp ↓] theorem JKK(d ins env sto):X T (.reg d [] ins) ⟨env,sto⟩=nrm (J3j (AF T) ins sto.length ⟨env,room (news ins) sto⟩):=by rw[JFZ];rfl
def cnd(x:Option AV)(a b:Option Out)(c:Unit->Option Out):Option Out:=
 match x with
 |some (.p (.b x))=>if x=true then a else b
 |some .unk=>c ()
 |_=>none
@[congr] theorem JKf{x e:Option AV}{a b:Option Out}{c:Unit->Option Out}(h:x=e):cnd x a b c=cnd e a b c:=by rw[h]
@[simp] theorem JG0(x a b c):cnd (some (.p (.b x))) a b c=if x=true then a else b:=rfl
@[simp] theorem JHl(a b c):cnd (some .unk) a b c=c ():=rfl
@[simp ↓] theorem JHw(x a b s):X T (.cond x a b) s=cnd (evv x s.env) (X T a s) (X T b s) λ_=>same (X T a s) (X T b s):=by
 rw[JaL];simp only[step,JlT];cases evv x s.env with
 |none=>rfl
 |some v=>
  cases v with
  |p c=>cases c<;>rfl
  |_=>rfl
@[simp ↓] theorem JGi(id c s):X T (.block id c) s=blo id (X T c s):=by
 rw[JaL];simp only[step];cases X T c s with
 |none=>rfl
 |some o=>obtain⟨e,s'⟩:=o;cases e<;>rfl
@[simp ↓] theorem JGE(c s):X T (.scope c) s=X T c s:=by rw[JaL];rfl
@[simp ↓] theorem JKH(id s):X T (.exit id) s=some (.exit id,s):=by rw[JaL];rfl
@[simp ↓] theorem JJV(s):X T .ret s=some (.ret,s):=by rw[JaL];rfl
@[simp ↓] theorem JDh(live c s):X T (.keep live c) s=X T c ⟨restr live s.env,s.sto⟩:=by rw[JaL];rfl
@[simp ↓] theorem JKQ(live pre x a b rest s):X T (.br live pre x a b rest) s=Jvo (X T pre s) λs1=>
  cnd (evv x s1.env) (thn (X T a s1) λs=>X T rest s) (thn (X T b s1) λs=>X T rest s) λ_=>
   same (J6K s1.sto.length live (thn (X T a s1) λs=>X T rest s)) (J6K s1.sto.length live (thn (X T b s1) λs=>X T rest s)):=by
 rw[JaL];simp only[step,JlT];cases X T pre s with
 |none=>rfl
 |some o=>
  obtain⟨e,s1⟩:=o;cases e with
  |normal=>
   dsimp only[Jvo];cases evv x s1.env with
   |none=>rfl
   |some v=>
    cases v with
    |p c=>cases c<;>rfl
    |_=>rfl
  |exit=>rfl
  |ret=>rfl
@[simp ↓] theorem JIy(live c env sto):X T (.loop live c) ⟨env,sto⟩=X T (.lp sto.length live c) ⟨restr live env,sto⟩:=by
 grind [JaL,step,clean]
theorem JEr(n live c s):X T (.lp n live c) s=thn (X T c s) λs=>match clean n live s with
  |some s=>X T (.lp n live c) s
  |none=>none:=by
 rw[JaL];simp only[step];cases X T c s with
 |none=>rfl
 |some o=>obtain⟨e,s'⟩:=o;cases e<;>rfl
def Jwa(res:List JhP)(fresh:Bool)(m:Nat)(o:Option Out):Option Res:=
 match o with
 |some (.normal,s)=>J3F ⟨0,0,.skip,res,fresh⟩ m s
 |some (.ret,s)=>J3F ⟨0,0,.skip,res,fresh⟩ m s
 |_=>none
@[congr] theorem JJU{res:List JhP}{fresh:Bool}{m:Nat}{o e:Option Out}(h:o=e):Jwa res fresh m o=Jwa res fresh m e:=by rw[h]
@[simp] theorem JxO(res fresh m s):Jwa res fresh m (some (.normal,s))=J3F ⟨0,0,.skip,res,fresh⟩ m s:=rfl
@[simp] theorem JFm(res fresh m s):Jwa res fresh m (some (.ret,s))=J3F ⟨0,0,.skip,res,fresh⟩ m s:=rfl
@[simp] theorem JJG(o:Option Res):JkO o o=o:=by unfold JkO;cases o<;>simp
theorem JKa{f:FuncId}{fn:AFn}(h:T f=some (.fn fn))(args blks):AF T f args blks=if args.length=fn.np then
  Jwa fn.res fn.fresh blks.length (X T fn.body ⟨J8I 0 args,blks⟩)
 else none:=by
 unfold AF JbZ;rw[h];rfl
end
variable {F:Orc} {env:List (Nat×AV)} {sto:List Blk} {new:Nat} {r:List J1u} {d:Nat}
@[simp] theorem JzP(s):J3j F [] new s=some s:=rfl
theorem JxL(i s):J3j F (i::r) new s=((J1A F i new).run s).bind λe=>J3j F r (new+J7J i.op) (put i.dst e s):=by
 grind [J3j]
@[simp] theorem JKq:news []=0:=rfl
@[simp ↓] theorem JKg(i):news (i::r)=J7J i.op+news r:=rfl
@[simp] theorem JKL:room 0 sto=sto:=rfl
@[simp] theorem JKd(n):room (n+1) sto=sto++List.replicate (n+1) .dead:=rfl
@[simp] theorem JKM(n):lk n []=none:=rfl
@[simp] theorem JGS(n m v)(r:List (Nat×AV)):lk n ((m,v)::r)=if n=m then some v else lk n r:=rfl
attribute [simp ↓] JxL J1A opD Jc2 J7J run_bind JlT opR
attribute [simp] put val evs evo J41 J4D
 Jbw Jkx Jkm unP J8F JvX fz fz.fzL fz.fz1 fzs J9w J4p J3X sub spl J91 Jsn Jtb Ji3 Jid J6J JsA JhB J6A J5q Jbe Jbk J2Q J8B J81 mmP cellsOf unp J6F J5z
 Jby one J8I J3s Jhg J5g
@[simp] theorem JKi(o:Option Out):same o o=o:=by unfold same;cases o<;>simp
@[simp ↓] theorem JZ{α:Type}(a:α)(s:St):(RM.ret a).run s=some a:=rfl
@[simp ↓] theorem JKC{α:Type}(s:St):(RM.fail:RM α).run s=none:=rfl
@[simp ↓] theorem J7V{α:Type}(n:Nat)(k:AV->RM α)(s:St):(RM.slot n k).run s=(lk n s.env).bind λv=>(k v).run s:=by grind [RM.run]
@[simp ↓] theorem J1F{α:Type}(n:Nat)(k:Blk->RM α)(s:St):(RM.blk n k).run s=(s.sto[n]?).bind λv=>(k v).run s:=by grind [RM.run]
@[simp] theorem JGd:upd [] sto=sto:=rfl
@[simp] theorem JEy(b x ws):upd ((b,x)::ws) sto=upd ws (sto.set b x):=rfl
@[simp] theorem JKe:restr [] env=[]:=rfl
@[simp] theorem JBa(k l):restr (k::l) env=match lk k env with
 |some v=>(k,v)::restr l env
 |none=>restr l env:=rfl
end Go.Am
namespace Go.Am
def J88:AV->Bool
 | .p _| .data _| .cp _ _| .unk=>true
 |_=>false
@[simp] theorem JKr(c):J88 (.p c)=true:=rfl
@[simp] theorem JJo(c):J88 (.data c)=true:=rfl
@[simp] theorem JKc(c o):J88 (.cp c o)=true:=rfl
theorem JkH: ∀{args:List AV} {l:List Ent},args.all J88=true->J0Z.entsOfL args l=l
 |[],l,_=>rfl
 |x::r,l,h=>by simp only[List.all_cons,J03]at h;obtain⟨h1,h2⟩:=h;simp only[J0Z.entsOfL];cases x<;>simp[J88]at h1<;>simp only[J0Z]<;>exact JkH h2
theorem JpD{ρ:Ent->Option Nat}: ∀{args:List AV},args.all J88=true->ren.renL ρ args=some args
 |[],_=>rfl
 |x::r,h=>by simp only[List.all_cons,J03]at h;have:=JpD (ρ:=ρ) h.2;have h1:=h.1;clear h;cases x<;>simp[J88]at h1<;>simp[ren.renL,ren,this]
theorem JEI{es:List Ent}{new:Nat}{x:AV}(h:J88 x=true):bk es new x=some x:=by cases x<;>simp[J88]at h<;>rfl
theorem Jhv{es:List Ent}{new:Nat}: ∀{xs:List AV},xs.all J88=true->bk.bkL es new xs=some xs
 |[],_=>rfl
 |x::r,h=>by simp only[List.all_cons,J03]at h;simp[bk.bkL,JEI h.1,Jhv h.2]
@[simp] theorem JKP(es new c):bk es new (.p c)=some (.p c):=rfl
@[simp] theorem JKG(es new c):bk es new (.data c)=some (.data c):=rfl
@[simp] theorem JKJ(es new l):bk es new (.tup l)=(bk.bkL es new l).map .tup:=by grind [bk]
@[simp] theorem JKF(es new):bk.bkL es new []=some []:=rfl
@[simp] theorem JKv(es new x l):bk.bkL es new (x::l)=(bk es new x).bind λy=>(bk.bkL es new l).map λl=>y::l:=by simp only[bk.bkL];cases bk es new x<;>simp;cases bk.bkL es new l<;>rfl
@[simp] theorem JJp(n live):J6K n live none=none:=rfl
@[simp] theorem Jxh(n live e s):J6K n live (some (e,s))=(clean n live s).map λs=>(e,s):=by
 grind [J6K]
attribute [simp ↓] J06 Option.bind_none J9T JEF JGs JDx JxG JFK JEW JG0 JHl JB2 JuB JHg JEg JxO JFm JzP JGS JBa JGd JEy
attribute [simp] clean JhQ Jbb J6j fin fin.finL J3F J4O Jb9 J0Z J0Z.entsOfL Jbg J4T Jdr J4N unp
end Go.Am
end
section
namespace Go.Am
inductive Fr where
 |sq (b:J17)
 |bl (id:Nat)
 |td (n:Nat) (live:List Nat)
 |lo (n:Nat) (live:List Nat) (c:J17)
noncomputable def again(T:J5t)(n:Nat)(live:List Nat)(c:J17)(o:Option St):Option Out:=match o with
 |some s=>X T (.lp n live c) s
 |none=>none
section
variable (T:J5t) (f:AFn) (m:Nat) (k:List Fr)
theorem JI1(live c s):X T (.tidy live c) s=J6K s.sto.length live (X T c s):=by rw[JaL];rfl
end
open Classical in
noncomputable def Jg{σ ρ:Type}(f:σ->Option (σ⊕ρ))(s:σ):Option ρ:=
 let e:Nat->σ->Option ρ:=λn=>n.rec (λ_=>none) λ_ ih s=>match f s with
  |some (.inl s')=>ih s'
  |some (.inr r)=>some r
  |none=>none
 if h: ∃n r,e n s=some r then e (Classical.choose h) s else none
def J2g{σ ρ:Type}(f:σ->Option (σ⊕ρ)):Nat->σ->Option ρ
 |0,_=>none
 |n+1,s=>match f s with
  |some (.inl s')=>J2g f n s'
  |some (.inr r)=>some r
  |none=>none
section
variable {σ ρ:Type} {f:σ->Option (σ⊕ρ)}
theorem JmR(n:Nat): ∀s:σ,(Nat.rec (motive:=λ_=>σ->Option ρ) (λ_=>none) (λ_ ih s=>match f s with
  |some (.inl s')=>ih s'
  |some (.inr r)=>some r
  |none=>none) n) s=J2g f n s:=by
 induction n with
 |zero=>intro s;rfl
 |succ n ih=>grind [J2g]
theorem JhV: ∀{n:Nat} {s:σ} {r:ρ} (m:Nat),J2g f n s=some r->J2g f (n+m) s=some r
 |0,_,_,_,h=>by cases h
 |n+1,s,r,m,h=>by
  rw[show n+1+m=(n+m)+1 by omega];simp only[J2g]at h⊢;split at h
  ·exact JhV m h
  all_goals simp_all
theorem JDS{n m:Nat}{s:σ}{r r':ρ}(h:J2g f n s=some r)(e:J2g f m s=some r'):r=r':=by
 have a:=JhV m h;have b:=JhV n e
 grind
theorem J2G{s:σ}{r:ρ}:Jg f s=some r↔ ∃n,J2g f n s=some r:=by
 unfold Jg;dsimp only;constructor
 ·intro h;split at h
  ·exact⟨_,by rw[<-JmR];exact h⟩
  ·cases h
 ·rintro⟨n,h⟩;have e: ∃n r,(Nat.rec (motive:=λ_=>σ->Option ρ) (λ_=>none) (λ_ ih s=>match f s with
   |some (.inl s')=>ih s'
   |some (.inr r)=>some r
   |none=>none) n) s=some r:=⟨n,r,by grind [JmR]⟩
  rw[dif_pos e];obtain⟨r',hr⟩:=Classical.choose_spec e;rw[hr];rw[JmR]at hr
  grind [JDS]
theorem J72{s:σ}{r:ρ}(h:f s=some (.inr r)):Jg f s=some r:=J2G.2 ⟨1,by grind [J2g]⟩
theorem Jab{s s':σ}(h:f s=some (.inl s')):Jg f s=Jg f s':=by
 have e: ∀r,Jg f s=some r↔Jg f s'=some r:=by
  intro r;rw[J2G,J2G];constructor
  ·rintro⟨n,hn⟩;cases n<;>grind [J2g]
  ·rintro⟨n,hn⟩;exact⟨n+1,by grind [J2g]⟩
 cases hs:Jg f s with
 |some r=>grind
 |none=>cases hs':Jg f s'<;>grind
theorem Ji8{P:σ->ρ->Prop}(h1: ∀s r,f s=some (.inr r)->P s r)(h2: ∀s s' r,f s=some (.inl s')->P s' r->P s r){s:σ}{r:ρ}(h:Jg f s=some r):P s r:=by
 obtain⟨n,hn⟩:=J2G.1 h;clear h
 induction n generalizing s with
 |zero=>cases hn
 |succ n ih=>
  grind [J2g]
end
end Go.Am
end
section
namespace Go.Am
section
variable {α:Type}
def idx(l:List α)(n:Int):Option α:=if 0<=n then l[n.toNat]? else none
def inb(k:Nat)(n:Int):Option Unit:=if 0<=n/\n<k then some ()else none
def JA(bytes:Nat)(l l':List α):Option (List α):=if J8B (l.length+l'.length) bytes=true then some (l++l')else none
def J2l(bytes:Nat)(l:List α):Option (List α):=if J8B l.length bytes=true then some l else none
def JIF(bytes:Nat)(l l':List α):Option (List α):=if 0<l'.length/\J8B (l.length+l'.length) bytes=true then some (l++l')else none
def mkS(bytes:Nat)(n m:Int)(z:α):Option (List α):=if 0<=n/\n<=m/\bytes*m<=281474976710656/\m<=281474976710656 then some (List.replicate n.toNat z)else none
def Jeq(x:Option Int)(top e:Nat):Option Nat:=match x with
 |none=>some e
 |some n=>if 0<=n/\n<=top then some n.toNat else none
def JcE(n:Nat)(lo hi:Option Int):Option (Nat×Nat):=match Jeq hi n n with
 |none=>none
 |some h=>match Jeq lo h 0 with
  |none=>none
  |some l=>some (l,h)
def J0D(l:List α)(lo hi:Option Int):Option (List α):=match JcE l.length lo hi with
 |some c=>some ((l.drop c.1).take (c.2-c.1))
 |none=>none
def JHC(k:IntKind)(x y:Int):Option Int:=if y=0 then none else some (k.wrap (x.tdiv y))
def Jhw(x y:Int):Option Int:=if y=0 then none else some (x.tmod y)
def Jgf(k:IntKind)(x y:Int):Option Int:=if y<0 then none else some (k.wrap (x*2^(min y.toNat k.bits)))
def JfI(k:IntKind)(x y:Int):Option Int:=if y<0 then none else some (x.fdiv (2^(min y.toNat k.bits)))
def Jtd(k:IntKind)(x y:Int):Int:=k.wrap (BitVec.ofInt k.bits x&&&BitVec.ofInt k.bits y).toNat
def orI(k:IntKind)(x y:Int):Int:=k.wrap (BitVec.ofInt k.bits x|||BitVec.ofInt k.bits y).toNat
def Jeu(k:IntKind)(x y:Int):Int:=k.wrap (BitVec.ofInt k.bits x^^^BitVec.ofInt k.bits y).toNat
def JDB(k:IntKind)(n:Int):Int:=k.wrap (BitVec.ofInt k.bits (if k.signed then -1 else k.max)^^^BitVec.ofInt k.bits n).toNat
def J5s(a b:List UInt8):Option (List UInt8):=if a.length+b.length<=4611686018427387904 then some (a++b)else none
def Jex(l:List UInt8)(n:Int):Option Int:=if 0<=n then(match l[n.toNat]? with|some u=>some (u.toNat:Int)|none=>none)else none
def JFC{k:Nat}(v:Vector α k)(n:Int):Option α:=if 0<=n/\n<k then v[n.toNat]? else none
def toStr(l:List Int):List UInt8:=l.map λn=>UInt8.ofNat n.toNat
def toByt(l:List UInt8):List Int:=l.map λu=>(u.toNat:Int)
def Jax(x y:Int):Int:=if y<x then y else x
def J1o(x y:Int):Int:=if y>x then y else x
end
@[reducible] def cat(a b:List PV):List PV:=a++b
def r_i(k:IntKind)(n:Int):List PV:=[.i k n]
def r_b(x:Bool):List PV:=[.b x]
def r_s(l:List UInt8):List PV:=[.s l]
def JKz{α:Type}(esz:Nat)(r:α->List PV)(l:List α):List PV:=[.sl esz (l.map r)]
def Jcl{α:Type}{n:Nat}(r:α->List PV)(v:Vector α n):List PV:=(v.toList.map r).flatten
section
variable {α:Type}
theorem JaB(cs:List α)(off size:Nat):sub cs off size=if off+size<=cs.length then some ((cs.drop off).take size)else none:=by
 grind [sub]
theorem Jcb(cs:List α)(off:Nat)(vs:List α):spl cs off vs=if off+vs.length<=cs.length then some (cs.take off++vs++cs.drop (off+vs.length))else none:=by simp_all
theorem JoK{cs:List α}{n:Nat}(h:cs.length=n):sub cs 0 n=some cs:=by simp_all
theorem JyK{cs vs:List α}(h:cs.length=vs.length):spl cs 0 vs=some vs:=by simp_all
theorem JDm{a b c:List α}{off size:Nat}(h1:a.length=off)(h2:b.length=size):sub (a++(b++c)) off size=some b:=by
 grind [JaB]
theorem JBt{b c:List α}{size:Nat}(h2:b.length=size):sub (b++c) 0 size=some b:=JDm (a:=[]) rfl h2
theorem JCg{a b c v:List α}{off:Nat}(h1:a.length=off)(h2:b.length=v.length):spl (a++(b++c)) off v=some (a++(v++c)):=by
 grind [Jcb]
theorem JBK{b c v:List α}(h2:b.length=v.length):spl (b++c) 0 v=some (v++c):=JCg (a:=[]) rfl h2
theorem Jyq{cs e r:List α}{a m k n:Nat}(h1:sub cs a m=some e)(h2:sub e k n=some r):sub cs (a+k) n=some r:=by
 grind [JaB,List.drop_take,List.drop_drop]
theorem Jz1{cs g e v cs':List α}{a m k:Nat}(h1:sub cs a m=some g)(h2:spl g k v=some e)(h3:spl cs a e=some cs'):spl cs (a+k) v=some cs':=by
 rw[JaB]at h1;rw[Jcb]at h2 h3⊢;split at h1
 ·rename_i h4;injection h1 with h1;subst h1;split at h2
  ·rename_i h5;injection h2 with h2;subst h2;simp at h5;split at h3
   ·injection h3 with h3;subst h3;rw[if_pos (by omega)]
    congr 1
    simp only[J4G,J7w,Ji7,List.take_take,List.drop_take,Jnz,J8H];have e1:cs.take (a+k)=cs.take a++(cs.drop a).take k:=List.take_add ..;rw[e1,J8H];rw[show min k m=k by omega]
    congr 3
    have e2:cs.drop (a+k+v.length)=(cs.drop (a+(k+v.length))).take (m-(k+v.length))++cs.drop (a+m):=by
     have:=Joe (m-(k+v.length)) (cs.drop (a+(k+v.length)));rw[Jnz]at this;rw[show a+(k+v.length)+(m-(k+v.length))=a+m by omega]at this
     grind
    rw[e2]
    congr 2
    omega
   ·cases h3
  ·cases h2
 ·cases h1
theorem JaI{β:Type}(g:α->β)(cs:List α)(off size:Nat):sub (cs.map g) off size=(sub cs off size).map (List.map g):=by
 grind [JaB,List.map_drop,List.map_take]
theorem JaP{β:Type}(g:α->β)(cs:List α)(off:Nat)(vs:List α):spl (cs.map g) off (vs.map g)=(spl cs off vs).map (List.map g):=by
 grind [Jcb,List.map_drop,List.map_take]
theorem Jh7{n k w:Nat}{r:α->List PV}(hr: ∀x,(r x).length=w){v:Vector α n}{x:α}(h:v[k]?=some x):sub (Jcl r v) (k*w) w=some (r x):=by
 have g: ∀(l:List α) (k:Nat) (x:α),l[k]?=some x->sub ((l.map r).flatten) (k*w) w=some (r x):=by
  intro l
  induction l with
  |nil=>simp_all
  |cons y l ih=>
   intro k x h;cases k with
   |zero=>
    grind [JBt]
   |succ k=>
    simp at h;have:=ih k x h;rw[J1n,Jei];rw[JaB]at this⊢;split at this
    ·injection this with this;have e:(k+1)*w=w+k*w:=by grind
     rw[e,if_pos (by grind)];have e2:w+k*w=(r y).length+k*w:=by rw[hr]
     rw[e2,List.drop_length_add_append,this]
    ·cases this
 exact g _ _ _ (by simp_all)
theorem JCI{n k w:Nat}{r:α->List PV}(hr: ∀x,(r x).length=w){v:Vector α n}(h:k<n)(y:α):spl (Jcl r v) (k*w) (r y)=some (Jcl r (v.setIfInBounds k y)):=by
 have g: ∀(l:List α) (k:Nat),k<l.length->spl ((l.map r).flatten) (k*w) (r y)=some (((l.set k y).map r).flatten):=by
  intro l
  induction l with
  |nil=>simp_all
  |cons z l ih=>
   intro k h;cases k with
   |zero=>
    grind [JBK]
   |succ k=>
    simp at h;have:=ih k h;rw[J1n,Jei];rw[Jcb]at this⊢;split at this
    ·rename_i j;injection this with this;have e:(k+1)*w=(r z).length+k*w:=by grind
     rw[e,if_pos (by grind)];simp only[List.set_cons_succ,J1n,Jei];rw[<-this];rw[show(r z).length+k*w+(r y).length=(r z).length+(k*w+(r y).length) by omega];simp[List.take_length_add_append]
    ·cases this
 grind [Jcl]
theorem JIE{n w:Nat}{r:α->List PV}(hr: ∀x,(r x).length=w)(v:Vector α n):(Jcl r v).length=n*w:=by
 have e: ∀l:List α,((l.map r).flatten).length=l.length*w:=by
  intro l
  induction l with
  |nil=>simp
  |cons x l ih=>grind
 grind [Jcl]
end
theorem JcY: ∀l:List PV,unp (l.map AV.p)=some l
 |[]=>rfl
 |x::l=>by simp[unp,JcY l]
theorem Jjc(l:List PV):J41 true (l.map AV.p)=some (.data l):=by simp[JcY]
theorem J8m: ∀l:List PV,(l.map AV.p).all J88=true
 |[]=>rfl
 |x::l=>by simp
theorem Jpg(m:Nat)(ids:List Nat)(sto:List Blk): ∀l:List PV,fin.finL m ids sto (l.map AV.p)=some (l.map AV.p)
 |[]=>rfl
 |x::l=>by simp[fin.finL,fin,Jpg m ids sto l]
theorem Jpm(l:List PV)(acc:List Ent):J0Z.entsOfL (l.map AV.p) acc=acc:=JkH (J8m l)
theorem JCd{α:Type}{r:α->List PV}{l:List α}{n:Int}{x:α}(h:idx l n=some x):JsA (l.map r) n=some (r x):=by simp_all [idx]
theorem Jzo{k:Nat}{n:Int}{u:Unit}(h:inb k n=some u):0<=n/\n<k:=by
 grind [inb]
theorem JDz{α:Type}{k:Nat}{v:Vector α k}{n:Int}{x:α}(h:JFC v n=some x):(0<=n/\n<k)/\v[n.toNat]?=some x:=by
 grind [JFC]
theorem JGZ{α:Type}{r:α->List PV}{esz bytes b:Nat}{w:Bool}{l l' l2:List α}{y:AV}{s:St}(h:JA bytes l l2=some l')(hb:s.sto[b]?=some (.arr w esz (l.map r)))(hy:(J2Q esz y).run s=some (l2.map r)):
  (J81 esz bytes (.slr b 0 l.length) y).run s=some ⟨.slr b 0 l'.length,[(b,.arr w esz (l'.map r))]⟩:=by
 grind [JA,J81,J1F,run_bind,JZ]
theorem JfJ: ∀l:List Int,J8s (l.map (r_i .u8))=some (toStr l)
 |[]=>rfl
 |x::l=>by simp[J8s,r_i,JfJ l,toStr]
theorem Jkw(l:List UInt8):l.map J5g=(toByt l).map (r_i .u8):=by simp[toByt,r_i]
theorem JDv{α:Type}{bytes:Nat}{l l':List α}(h:J2l bytes l=some l'):J8B l.length bytes=true/\l'=l:=by
 grind [J2l]
theorem JH9{α:Type}{bytes:Nat}{n m:Int}{z:α}{l:List α}(h:mkS bytes n m z=some l):(0<=n/\n<=m/\bytes*m<=281474976710656/\m<=281474976710656)/\l=List.replicate n.toNat z:=by
 grind [mkS]
end Go.Am
end
section
set_option linter.unusedSimpArgs false
set_option linter.unusedVariables false
namespace Go.Am
open Go.RowKit
theorem JFz{σ:List Blk}{g:Gh}{w w':World}(hi:Inv ⟨σ,g,w⟩)(hb:Below w.heap.size w w'):
  Inv ⟨σ,g,w'⟩/\J0k ⟨σ,g,w⟩ ⟨σ,g,w'⟩:=by
 have hk: ∀(r:Nat) x,w.heap[r]?=some x->w'.heap[r]?=some x:=λr x h=>by rw[hb.block r (Jba h)];exact h
 have hc: ∀r o v,J0K w r o=some v->J0K w' r o=some v:=by
  grind [J0K]
 have t:J0k ⟨σ,g,w⟩ ⟨σ,g,w'⟩:=by
  refine⟨⟨hb.size,λr c e fz h=>⟨c,hk r _ h,rfl,λ_ _=>rfl⟩,λr x h _=>hk r x h,hb.os,hb.output⟩,λ_ _ h=>h,λ_ _ h=>.inl h,λr o ⟨b,hb⟩=>.inl ⟨b,hb⟩,zQ0 _,λ_ cs h=>⟨⟨cs,h,rfl⟩,rfl⟩,
   λ_ wm _ rows h=>⟨wm,rows,h,id,zQ0 _,λ_=>rfl⟩⟩
 exact⟨J82 hi t (λ_=>False) (λ_ _=>⟨rfl,rfl⟩) (λ_ r o v _ _ h=>hc r o v h) (λ_ _ h=>h.elim) (λ_ _ _ _ h=>h.elim)
  (λ_ _ _ _ h=>h.elim) (λr o h=>Nat.lt_of_lt_of_le (hi.const r o h).1 hb.size) (λ_ _ _ _ h=>h.elim) (λ_ _ _ h j=>(j h).elim),t⟩
def JI8(a:Option AFn)(k:Option JbD)(g q:Option (List AV->List Blk->Option Res)):Option Entry:=
 match a with
 |some a=>some (.fn a)
 |none=>match k with
  |some k=>some (.fork k)
  |none=>match g with
   |some g=>some (.prim g)
   |none=>q.map .prim
theorem JfW{a:Option AFn}{k:Option JbD}{g q:Option (List AV->List Blk->Option Res)}{e:Entry}(h:JI8 a k g q=some e):
  (∃x,a=some x/\e=.fn x)\/(∃x,k=some x/\e=.fork x)\/(∃x,g=some x/\e=.prim x)\/(∃x,q=some x/\e=.prim x):=by
 cases a with
 |some a=>exact .inl ⟨a,rfl,by injection h with h;exact h.symm⟩
 |none=>
  cases k with
  |some k=>exact .inr (.inl ⟨k,rfl,by injection h with h;exact h.symm⟩)
  |none=>
   cases g with
   |some g=>exact .inr (.inr (.inl ⟨g,rfl,by injection h with h;exact h.symm⟩))
   |none=>
    cases q with
    |some q=>exact .inr (.inr (.inr ⟨q,rfl,by injection h with h;exact h.symm⟩))
    |none=>cases h
def J8Y(n:Int)(i:Nat):Int:=IntKind.wrap .u8 ((IntKind.wrap .u64 n).fdiv (2^(8*i)))
def J0W(n:Int)(k:Nat):List UInt8:=toStr ((List.range k).map (J8Y n))
theorem JH8(x:Int):0<=IntKind.wrap .u8 x/\IntKind.wrap .u8 x<256:=by have h:IntKind.wrap .u8 x=x%256:=rfl;rw[h];omega
theorem JBo(n:Int)(i:Nat):((UInt8.ofNat (J8Y n i).toNat).toNat:Int)=J8Y n i:=by
 have h:0<=J8Y n i/\J8Y n i<256:=JH8 _
 grind [UInt8.toNat_ofNat_of_lt']
theorem JD4(n:Int)(k:Nat):J0W n (k+1)=J0W n k++[UInt8.ofNat (J8Y n k).toNat]:=by simp[J0W,toStr,List.range_succ]
theorem JR(n:Int)(k:Nat):(J0W n k).length=k:=by simp[J0W,toStr]
theorem JK8(x y:Bool):J1G [.b] [.b x] [.b y]=some (decide (x=y)):=by
 grind [J1G,Ji9]
theorem JK0(k:IntKind)(x y:Int):J1G [.i k] [.i k x] [.i k y]=some (decide (x=y)):=by
 grind [J1G,Ji9]
theorem JJY(x y:List UInt8):J1G [.s] [.s x] [.s y]=some (decide (x=y)):=by
 grind [J1G,Ji9]
theorem Jys{p q:Prop} [Decidable p] [Decidable q]: ∀{k1 k2:List KD} {a1 a2 b1 b2:List PV},J1G k1 a1 b1=some (decide p)->J1G k2 a2 b2=some (decide q)->J1G (k1++k2) (cat a1 a2) (cat b1 b2)=some (decide (p/\q)):=by
 have e: ∀(k1 k2:List KD) (a1 a2 b1 b2:List PV) (r s:Bool),J1G k1 a1 b1=some r->J1G k2 a2 b2=some s->J1G (k1++k2) (a1++a2) (b1++b2)=some (r&&s):=by
  intro k1
  induction k1 with
  |nil=>
   grind [J1G]
  |cons k ks ih=>
   intro k2 a1 a2 b1 b2 r s h1 h2;cases a1 with
   |nil=>grind [J1G]
   |cons a a1=>
    cases b1 with
    |nil=>grind [J1G]
    |cons b b1=>
     simp only[J1G]at h1;split at h1
     ·rename_i u c hu hc;injection h1 with h1;subst h1;simp only[Jk1,J1G,hu,ih _ _ _ _ _ _ _ hc h2,Bool.and_assoc]
     ·cases h1
 intro k1 k2 a1 a2 b1 b2 h1 h2;rw[e _ _ _ _ _ _ _ _ h1 h2,Bool.decide_and]
theorem JIR{α:Type} [DecidableEq α]{n:Nat}{ks:List KD}{r:α->List PV}(h: ∀x y,J1G ks (r x) (r y)=some (decide (x=y)))(v w:Vector α n):
  J1G (List.replicate n ks).flatten (Jcl r v) (Jcl r w)=some (decide (v=w)):=by
 have e: ∀(l l':List α),l.length=l'.length->J1G (List.replicate l.length ks).flatten (l.map r).flatten (l'.map r).flatten=some (decide (l=l')):=by
  intro l
  induction l with
  |nil=>grind [J1G]
  |cons a l ih=>
   intro l' h1;cases l' with
   |nil=>simp at h1
   |cons b l'=>
    have h2:=Jys (h a b) (ih l' (by simpa using h1))
    grind [decide]
 have h3:=e v.toList w.toList (by simp);rw[show v.toList.length=n by simp]at h3;rw[show decide (v=w)=decide (v.toList=w.toList) by simp[Vector.toList_inj]]
 exact h3
end Go.Am
end
section
namespace Go.Am
def J1(k:IntKind)(a c:Int):Int:=k.wrap (a+c)
def JI(k:IntKind)(a c:Int):Int:=k.wrap (a-c)
def J2r(k:IntKind)(a c:Int):Int:=k.wrap (a*c)
def JKA(k:IntKind)(n:Int):Int:=k.wrap (0-n)
def cvI(k:IntKind)(n:Int):Int:=k.wrap n
def eqI(a c:Int):Bool:=decide (a=c)
def neI(a c:Int):Bool:= !decide (a=c)
def ltI(a c:Int):Bool:=decide (a<c)
def leI(a c:Int):Bool:=decide (a<=c)
def gtI(a c:Int):Bool:=decide (a>c)
def geI(a c:Int):Bool:=decide (a>=c)
def eqS(a c:List UInt8):Bool:=decide (a=c)
def neS(a c:List UInt8):Bool:= !decide (a=c)
def ltS(a c:List UInt8):Bool:=Op.bytesLess a c
def leS(a c:List UInt8):Bool:=Op.bytesLess a c||decide (a=c)
def gtS(a c:List UInt8):Bool:= !(Op.bytesLess a c||decide (a=c))
def geS(a c:List UInt8):Bool:= !Op.bytesLess a c
def eqB(a c:Bool):Bool:=decide (a=c)
def Js(x:Bool):Bool:= !x
def J0{α:Type}(l:List α):Int:=l.length
def JKl{α:Type}(c:Bool)(x y:α):α:=if c=true then x else y
def lat{α:Type}(l:List α)(i:Nat):Option α:=l[i]?
def J0z{α:Type}(l:List α)(i:Nat)(x:α):List α:=l.set i x
def vat{α:Type}{n:Nat}(l:Vector α n)(i:Nat):Option α:=l[i]?
def Jgc{α:Type}{n:Nat}(l:Vector α n)(i:Nat)(x:α):Vector α n:=l.setIfInBounds i x
inductive Ty where
 |b
 |i (k:IntKind)
 |s
 |l (t:Ty)
 |pr (a c:Ty)
 |ar (n:Nat) (t:Ty)
 |u
 |f
 deriving DecidableEq
@[reducible] def Ty.D:Ty->Type
 | .b=>Bool
 | .i _=>Int
 | .s=>List UInt8
 | .l t=>List t.D
 | .pr a c=>a.D×c.D
 | .ar n t=>Vector t.D n
 | .u=>Unit
 | .f=>Unit
def Ty.sz:Ty->Nat
 | .b=>1
 | .i _=>1
 | .s=>1
 | .l _=>1
 | .pr a c=>a.sz+c.sz
 | .ar n t=>n*t.sz
 | .u=>0
 | .f=>1
def cel:(t:Ty)->t.D->List PV
 | .b,x=>[.b x]
 | .i k,x=>[.i k x]
 | .s,x=>[.s x]
 | .l t,x=>[.sl t.sz (x.map (cel t))]
 | .pr a c,x=>cel a x.1++cel c x.2
 | .ar _ t,x=>Jcl (cel t) x
 | .u,_=>[]
 | .f,_=>[.nf]
theorem J21: ∀(t:Ty) (x:t.D),(cel t x).length=t.sz
 | .b,_=>rfl
 | .i _,_=>rfl
 | .s,_=>rfl
 | .l _,_=>rfl
 | .pr a c,x=>by simp only[cel,J4G,J21 a,J21 c,Ty.sz]
 | .ar n t,x=>by simp only[cel,Ty.sz];exact JIE (J21 t) x
 | .u,_=>rfl
 | .f,_=>rfl
def Ty.eqd:(t:Ty)->DecidableEq t.D
 | .b=>inferInstanceAs (DecidableEq Bool)
 | .i _=>inferInstanceAs (DecidableEq Int)
 | .s=>inferInstanceAs (DecidableEq (List UInt8))
 | .l t=>have:=t.eqd;inferInstanceAs (DecidableEq (List t.D))
 | .pr a c=>have:=a.eqd;have:=c.eqd;inferInstanceAs (DecidableEq (a.D×c.D))
 | .ar n t=>have:=t.eqd;inferInstanceAs (DecidableEq (Vector t.D n))
 | .u=>inferInstanceAs (DecidableEq Unit)
 | .f=>inferInstanceAs (DecidableEq Unit)
def eqT(t:Ty)(x y:t.D):Bool:=have:=t.eqd;decide (x=y)
theorem J1J{t:Ty}{x y:t.D}:eqT t x y=true↔x=y:=by simp[eqT]
def Ty.zero:(t:Ty)->t.D
 | .b=>false
 | .i _=>(0:Int)
 | .s=>[]
 | .l _=>[]
 | .pr a c=>(a.zero,c.zero)
 | .ar n t=>Vector.replicate n t.zero
 | .u=>()
 | .f=>()
def Ty.ks:Ty->Option (List KD)
 | .b=>some [.b]
 | .i k=>some [.i k]
 | .s=>some [.s]
 | .l _=>none
 | .pr a c=>match a.ks,c.ks with
  |some x,some y=>some (x++y)
  |_,_=>none
 | .ar n t=>match t.ks with
  |some x=>some (List.replicate n x).flatten
  |none=>none
 | .u=>some []
 | .f=>none
theorem JiM: ∀(t:Ty) {ks:List KD} (x y:t.D),t.ks=some ks->J1G ks (cel t x) (cel t y)=some (eqT t x y)
 | .b,ks,x,y,h=>by injection h with h;subst h;exact JK8 x y
 | .i k,ks,x,y,h=>by injection h with h;subst h;exact JK0 k x y
 | .s,ks,x,y,h=>by injection h with h;subst h;exact JJY x y
 | .l _,_,_,_,h=>by cases h
 | .pr a c,ks,x,y,h=>by
  simp only[Ty.ks]at h;split at h
  ·rename_i p q hp hq;injection h with h;subst h;have h1:=JiM a x.1 y.1 hp;have h2:=JiM c x.2 y.2 hq;unfold eqT at h1 h2;have e1:(have:=a.eqd;decide (x.1=y.1))= @decide _ (a.eqd x.1 y.1):=rfl;have:= @Jys _ _ (a.eqd x.1 y.1) (c.eqd x.2 y.2) _ _ _ _ _ _ h1 h2;simp only[cel];refine this.trans (congrArg some ?_)
   grind [eqT]
  ·cases h
 | .ar n t,ks,x,y,h=>by
  simp only[Ty.ks]at h;split at h
  ·rename_i p hp;injection h with h;subst h;have:= @JIR t.D t.eqd n p (cel t) (λx y=>by have:=JiM t x y hp;exact this) x y
   grind [cel,eqT]
  ·cases h
 | .u,ks,x,y,h=>by injection h with h;subst h;rfl
 | .f,_,_,_,h=>by cases h
inductive Sp where
 |f (off:Nat)
 |a (i esz:Nat)
 deriving DecidableEq
def spo:List Sp->Nat
 |[]=>0
 | .f o::r=>o+spo r
 | .a i e::r=>i*e+spo r
def spf:Nat->List Sp->Nat×List Sp
 |o,.f k::r=>spf (o+k) r
 |o,r=>(o,r)
theorem JsL: ∀(o:Nat) (p:List Sp),(spf o p).1+spo (spf o p).2=o+spo p
 |o,[]=>rfl
 |o,.f k::r=>by simp only[spf,JsL,spo];omega
 |o,.a i e::r=>rfl
section
variable {R:Type}
def prt:(t:Ty)->t.D->(off:Nat)->List Sp->(w:Ty)->(w.D->Option R)->Option R
 |t,x,off,p,w,k=>
  if h:t=w/\off=0/\p=[]then k (h.1▸x)
  else match t,x with
   | .pr a c,x=>if off+(if p=[]then w.sz else 1)<=a.sz then prt a x.1 off p w k
    else if a.sz<=off then prt c x.2 (off-a.sz) p w k
    else none
   | .ar _ t,x=>if p=[]then(vat x (off/t.sz)).bind λy=>prt t y (off%t.sz) p w k
    else match off,p with
     |0,.a i e::r=>if e=t.sz then(vat x i).bind λy=>prt t y (spf 0 r).1 (spf 0 r).2 w k else none
     |_,_=>none
   |_,_=>none
def pst:(t:Ty)->t.D->(off:Nat)->List Sp->(w:Ty)->w.D->(t.D->Option R)->Option R
 |t,x,off,p,w,v,k=>
  if h:t=w/\off=0/\p=[]then k (h.1.symm▸v)
  else match t,x,k with
   | .pr a c,x,k=>if off+(if p=[]then w.sz else 1)<=a.sz then pst a x.1 off p w v λy=>k (y,x.2)
    else if a.sz<=off then pst c x.2 (off-a.sz) p w v λy=>k (x.1,y)
    else none
   | .ar _ t,x,k=>if p=[]then(vat x (off/t.sz)).bind λy=>pst t y (off%t.sz) p w v λy=>k (Jgc x (off/t.sz) y)
    else match off,p with
     |0,.a i e::r=>if e=t.sz then(vat x i).bind λy=>pst t y (spf 0 r).1 (spf 0 r).2 w v λy=>k (Jgc x i y)else none
     |_,_=>none
   |_,_,_=>none
end
theorem JEO{α:Type}{a b v:List α}{off n:Nat}(h:sub a off n=some v):sub (a++b) off n=some v:=by
 grind [JaB]
theorem JDd{α:Type}{a b v:List α}{off n:Nat}(e:a.length<=off)(h:sub b (off-a.length) n=some v):sub (a++b) off n=some v:=by
 grind [JaB,List.drop_append,List.drop_of_length_le]
theorem JFE{α:Type}{a b v e:List α}{off:Nat}(h:spl a off v=some e):spl (a++b) off v=some (e++b):=by
 grind [Jcb]
theorem JCn{α:Type}{a b v e:List α}{off:Nat}(g:a.length<=off)(h:spl b (off-a.length) v=some e):spl (a++b) off v=some (a++e):=by
 rw[Jcb]at h⊢;split at h
 ·injection h with h;rw[if_pos (by simp;omega),<-h,List.take_append,List.take_of_length_le g,List.drop_append,List.drop_of_length_le (by omega)];simp;omega
 ·cases h
theorem Jzq{α:Type}{n i:Nat}{x:Vector α n}{y:α}(h:x[i]?=some y):i<n:=by
 grind
theorem J9C{R:Type}{t w:Ty}{x:t.D}{off:Nat}{p:List Sp}{k:w.D->Option R}{r:R}(e:t=w/\off=0/\p=[])(h:k (e.1▸x)=some r):
  ∃y,sub (cel t x) (off+spo p) w.sz=some (cel w y)/\k y=some r:=by
 obtain⟨rfl,rfl,rfl⟩:=e
 grind [spo,JoK,J21]
theorem J9B{R:Type}{t w:Ty}{x:t.D}{off:Nat}{p:List Sp}{v:w.D}{k:t.D->Option R}{r:R}(e:t=w/\off=0/\p=[])(h:k (e.1.symm▸v)=some r):
  ∃y,spl (cel t x) (off+spo p) (cel w v)=some (cel t y)/\k y=some r:=by
 obtain⟨rfl,rfl,rfl⟩:=e
 grind [spo,JyK,J21]
theorem J9D{R:Type}: ∀{t:Ty} {x:t.D} {off:Nat} {p:List Sp} {w:Ty} {k:w.D->Option R} {r:R},prt t x off p w k=some r->
  ∃y,sub (cel t x) (off+spo p) w.sz=some (cel w y)/\k y=some r
 | .pr a c,x,off,p,w,k,r,h=>by
  unfold prt at h;by_cases g:Ty.pr a c=w/\off=0/\p=[]
  ·rw[dif_pos g]at h;exact J9C g h
  ·rw[dif_neg g]at h;dsimp only at h;by_cases h1:off+(if p=[]then w.sz else 1)<=a.sz
   ·rw[if_pos h1]at h;obtain⟨y,q1,q2⟩:=J9D h;exact⟨y,JEO q1,q2⟩
   ·rw[if_neg h1]at h;by_cases h2:a.sz<=off
    ·rw[if_pos h2]at h;obtain⟨y,q1,q2⟩:=J9D h;refine⟨y,JDd (by grind [J21]) ?_,q2⟩
     grind [J21]
    simp_all
 | .ar n t,x,off,p,w,k,r,h=>by
  unfold prt at h;by_cases g:Ty.ar n t=w/\off=0/\p=[]
  ·rw[dif_pos g]at h;exact J9C g h
  ·rw[dif_neg g]at h;dsimp only at h;by_cases hp:p=[]
   ·rw[if_pos hp]at h;obtain⟨z,hz,h⟩:=J2H.1 h;obtain⟨y,h1,h2⟩:=J9D h;refine⟨y,?_,h2⟩;have:=Jyq (Jh7 (J21 t) hz) h1
    grind [cel,Nat.div_add_mod]
   ·rw[if_neg hp]at h;split at h
    ·rename_i _ i e q _;split at h
     ·rename_i he;obtain⟨z,hz,h⟩:=J2H.1 h;obtain⟨y,h1,h2⟩:=J9D h;refine⟨y,?_,h2⟩;have:=Jyq (Jh7 (J21 t) hz) h1
      grind [cel,JsL,spo]
     ·cases h
    ·cases h
 | .b,x,off,p,w,k,r,h=>by
  unfold prt at h;split at h
  next g=>exact J9C g h
  next=>cases h
 | .i _,x,off,p,w,k,r,h=>by
  unfold prt at h;split at h
  next g=>exact J9C g h
  next=>cases h
 | .s,x,off,p,w,k,r,h=>by
  unfold prt at h;split at h
  next g=>exact J9C g h
  next=>cases h
 | .l _,x,off,p,w,k,r,h=>by
  unfold prt at h;split at h
  next g=>exact J9C g h
  next=>cases h
 | .u,x,off,p,w,k,r,h=>by
  unfold prt at h;split at h
  next g=>exact J9C g h
  next=>cases h
 | .f,x,off,p,w,k,r,h=>by
  unfold prt at h;split at h
  next g=>exact J9C g h
  next=>cases h
theorem JaX{R:Type}: ∀{t:Ty} {x:t.D} {off:Nat} {p:List Sp} {w:Ty} {v:w.D} {k:t.D->Option R} {r:R},pst t x off p w v k=some r->
  ∃y,spl (cel t x) (off+spo p) (cel w v)=some (cel t y)/\k y=some r
 | .pr a c,x,off,p,w,v,k,r,h=>by
  unfold pst at h;by_cases g:Ty.pr a c=w/\off=0/\p=[]
  ·rw[dif_pos g]at h;exact J9B g h
  ·rw[dif_neg g]at h;dsimp only at h;by_cases h1:off+(if p=[]then w.sz else 1)<=a.sz
   ·rw[if_pos h1]at h;obtain⟨y,q1,q2⟩:=JaX h;exact⟨(y,x.2),JFE q1,q2⟩
   ·rw[if_neg h1]at h;by_cases h2:a.sz<=off
    ·rw[if_pos h2]at h;obtain⟨y,q1,q2⟩:=JaX h;refine⟨(x.1,y),JCn (by grind [J21]) ?_,q2⟩
     grind [J21]
    simp_all
 | .ar n t,x,off,p,w,v,k,r,h=>by
  unfold pst at h;by_cases g:Ty.ar n t=w/\off=0/\p=[]
  ·rw[dif_pos g]at h;exact J9B g h
  ·rw[dif_neg g]at h;dsimp only at h;by_cases hp:p=[]
   ·rw[if_pos hp]at h;obtain⟨z,hz,h⟩:=J2H.1 h;obtain⟨y,h1,h2⟩:=JaX h;refine⟨_,?_,h2⟩;have:=Jz1 (Jh7 (J21 t) hz) h1 (JCI (J21 t) (Jzq hz) y);subst hp;simp only[spo,JjJ]at this⊢;rw[Nat.mul_comm,Nat.div_add_mod]at this;exact this
   ·rw[if_neg hp]at h;split at h
    ·rename_i _ i e q _;split at h
     ·rename_i he;obtain⟨z,hz,h⟩:=J2H.1 h;obtain⟨y,h1,h2⟩:=JaX h;refine⟨_,?_,h2⟩;have:=Jz1 (Jh7 (J21 t) hz) h1 (JCI (J21 t) (Jzq hz) y);have e1:=JsL 0 q;simp only[spo,he];rw[show i*t.sz+((spf 0 q).1+spo (spf 0 q).2)=0+(i*t.sz+spo q) by omega]at this;exact this
     ·cases h
    ·cases h
 | .b,x,off,p,w,v,k,r,h=>by
  unfold pst at h;split at h
  next g=>exact J9B g h
  next=>cases h
 | .i _,x,off,p,w,v,k,r,h=>by
  unfold pst at h;split at h
  next g=>exact J9B g h
  next=>cases h
 | .s,x,off,p,w,v,k,r,h=>by
  unfold pst at h;split at h
  next g=>exact J9B g h
  next=>cases h
 | .l _,x,off,p,w,v,k,r,h=>by
  unfold pst at h;split at h
  next g=>exact J9B g h
  next=>cases h
 | .u,x,off,p,w,v,k,r,h=>by
  unfold pst at h;split at h
  next g=>exact J9B g h
  next=>cases h
 | .f,x,off,p,w,v,k,r,h=>by
  unfold pst at h;split at h
  next g=>exact J9B g h
  next=>cases h
end Go.Am
end
section
namespace Go.Am
inductive TC where
 |d (t:Ty) (x:t.D)
 |sc (t:Ty) (rows:List t.D)
 |np
 |nf
 |un
 |ptr (b:Nat) (p:List Sp)
 |cp (t:Ty) (x:t.D) (p:List Sp)
 |slr (b:Nat)
 |slo (b n:Nat)
 |ep (b i:Nat) (p:List Sp)
 |epo (b e i:Nat) (p:List Sp)
 |fn (f:FuncId)
inductive TA where
 |c (x:TC)
 |dt (t:Ty) (x:t.D)
 |m (t:Ty) (cs:List TC)
 |fn (f:FuncId) (first caps:List TC)
inductive TV where
 |a (x:TA)
 |tup (vs:List TA)
inductive TB where
 |dead
 |box (t:Ty) (x:t.D)
 |mbox (t:Ty) (cs:List TC)
 |arr (w:Bool) (t:Ty) (rows:List t.D)
structure TSt where
 env:List (Nat×TV)
 sto:List TB
def hdP:List PV->PV
 |[c]=>c
 |_=>.np
def lnB:TB->Nat
 | .arr _ _ rows=>rows.length
 |_=>0
def lnO:Option TB->Nat
 |some x=>lnB x
 |none=>0
def lns(sto:List TB)(b:Nat):Nat:=lnO sto[b]?
section
variable (L:Nat->Nat)
def J0r:TC->AV
 | .d t x=>.p (hdP (cel t x))
 | .sc t rows=>.p (.slc t.sz (rows.map (cel t)))
 | .np=>.p .np
 | .nf=>.p .nf
 | .un=>.unk
 | .ptr b p=>.ptr b (spo p)
 | .cp t x p=>.cp (cel t x) (spo p)
 | .slr b=>.slr b 0 (L b)
 | .slo b n=>.slr b 0 n
 | .ep b i p=>.ep b (L b) i (spo p)
 | .epo b e i p=>.ep b e i (spo p)
 | .fn f=>.fn f [] []
def J1r:TA->AV
 | .c x=>J0r L x
 | .dt t x=>.data (cel t x)
 | .m _ cs=>.agg (cs.map (J0r L))
 | .fn f a c=>.fn f (a.map (J0r L)) (c.map (J0r L))
def J04:TV->AV
 | .a x=>J1r L x
 | .tup vs=>.tup (vs.map (J1r L))
def J0E:TB->Blk
 | .dead=>.dead
 | .box t x=>.box ((cel t x).map .p)
 | .mbox _ cs=>.box (cs.map (J0r L))
 | .arr w t rows=>.arr w t.sz (rows.map (cel t))
end
def J5J(L:Nat->Nat)(env:List (Nat×TV)):List (Nat×AV):=env.map λx=>(x.1,J04 L x.2)
def Jy(s:TSt):St:=⟨J5J (lns s.sto) s.env,s.sto.map (J0E (lns s.sto))⟩
section
variable (L:Nat->Nat)
theorem Jf7(t x):J0E L (.box t x)=.box ((cel t x).map .p):=rfl
theorem Jfc(t cs):J0E L (.mbox t cs)=.box (cs.map (J0r L)):=rfl
theorem JvH(w t rows):J0E L (.arr w t rows)=.arr w t.sz (rows.map (cel t)):=rfl
theorem J6P(b p):J04 L (.a (.c (.ptr b p)))=.ptr b (spo p):=rfl
theorem JaF(t x p):J04 L (.a (.c (.cp t x p)))=.cp (cel t x) (spo p):=rfl
theorem J4W(b):J04 L (.a (.c (.slr b)))=.slr b 0 (L b):=rfl
theorem JaQ(b i p):J04 L (.a (.c (.ep b i p)))=.ep b (L b) i (spo p):=rfl
theorem e_i(k x):J04 L (.a (.c (.d (.i k) x)))=.p (.i k x):=rfl
theorem e_b(x):J04 L (.a (.c (.d .b x)))=.p (.b x):=rfl
theorem e_s(x):J04 L (.a (.c (.d .s x)))=.p (.s x):=rfl
theorem e_l(t x):J04 L (.a (.c (.d (.l t) x)))=.p (.sl t.sz (x.map (cel t))):=rfl
theorem JHy(f):J04 L (.a (.c (.fn f)))=.fn f [] []:=rfl
theorem JES(t x):J04 L (.a (.dt t x))=.data (cel t x):=rfl
theorem JEb(f a c):J04 L (.a (.fn f a c))=.fn f (a.map (J0r L)) (c.map (J0r L)):=rfl
theorem e_m(t cs):J04 L (.a (.m t cs))=.agg (cs.map (J0r L)):=rfl
end
theorem Ju8{t:Ty}(h:t.sz=1)(x:t.D):cel t x=[hdP (cel t x)]:=by
 have:=J21 t x;rw[h]at this
 match hc:cel t x,this with
 |[c],_=>rfl
def kC(b n:Nat):TC->TC
 | .slr c=>if c=b then .slo b n else .slr c
 | .ep c i p=>if c=b then .epo b n i p else .ep c i p
 |x=>x
def kA(b n:Nat):TA->TA
 | .c x=>.c (kC b n x)
 | .dt t x=>.dt t x
 | .m t cs=>.m t (cs.map (kC b n))
 | .fn f a c=>.fn f (a.map (kC b n)) (c.map (kC b n))
def kV(b n:Nat):TV->TV
 | .a x=>.a (kA b n x)
 | .tup vs=>.tup (vs.map (kA b n))
def kB(b n:Nat):TB->TB
 | .mbox t cs=>.mbox t (cs.map (kC b n))
 |x=>x
def wS(b:Nat)(x:TB)(s:TSt):TSt:=⟨s.env,s.sto.set b x⟩
def wN(b:Nat)(x:TB)(s:TSt):TSt:=⟨s.env.map λy=>(y.1,kV b (lns s.sto b) y.2),(s.sto.map (kB b (lns s.sto b))).set b x⟩
def J0J(d:Option Nat)(v:TV)(s:TSt):TSt:=
 match d with
 |some d=>⟨(d,v)::s.env,s.sto⟩
 |none=>s
section
variable {L L':Nat->Nat} {b:Nat}
theorem k_C(h: ∀c,c≠b->L' c=L c)(x:TC):J0r L' (kC b (L b) x)=J0r L x:=by cases x<;>grind [kC,J0r]
theorem JIB(h: ∀c,c≠b->L' c=L c)(xs:List TC):(xs.map (kC b (L b))).map (J0r L')=xs.map (J0r L):=by simp_all [k_C]
theorem k_A(h: ∀c,c≠b->L' c=L c)(x:TA):J1r L' (kA b (L b) x)=J1r L x:=by cases x<;>simp only[kA,J1r,k_C h,JIB h]
theorem k_V(h: ∀c,c≠b->L' c=L c)(x:TV):J04 L' (kV b (L b) x)=J04 L x:=by cases x<;>simp only[kV,J04,k_A h,JnN,Function.comp_def]
theorem k_B(h: ∀c,c≠b->L' c=L c)(x:TB):J0E L' (kB b (L b) x)=J0E L x:=by cases x<;>simp only[kB,J0E,JIB h]
theorem JJ6(b n:Nat)(x:TB):lnB (kB b n x)=lnB x:=by cases x<;>rfl
theorem JI0(sto:List TB)(b n c:Nat):lns (sto.map (kB b n)) c=lns sto c:=by
 unfold lns;rw[J6X];cases sto[c]? with
 |none=>rfl
 |some x=>exact JJ6 b n x
theorem Jzn(sto:List TB)(b:Nat)(x:TB)(c:Nat)(h:c≠b):lns (sto.set b x) c=lns sto c:=by
 grind [lns]
theorem JvL{sto:List TB}{b:Nat}(h:b<sto.length)(x:TB):lns (sto.set b x) b=lnB x:=by unfold lns;rw[Jo0 h];rfl
theorem JFU(b:Nat)(x:TB)(s:TSt):Jy (wN b x s)=⟨(Jy s).env,(Jy s).sto.set b (J0E (lns (wN b x s).sto) x)⟩:=by
 have h: ∀c,c≠b->lns (wN b x s).sto c=lns s.sto c:=λc hc=>by
  grind [wN,Jzn,JI0]
 unfold Jy
 congr 1
 ·show J5J _ (s.env.map λy=>(y.1,kV b (lns s.sto b) y.2))=J5J _ s.env;simp_all [J5J,k_V]
 ·show((s.sto.map (kB b (lns s.sto b))).set b x).map _=_
  grind [List.map_set,List.map_congr_left,k_B]
theorem JeJ{b:Nat}{x:TB}{s:TSt}(h:lnB x=lns s.sto b):lns (wS b x s).sto=lns s.sto:=by
 grind [wS,JvL,List.set_eq_of_length_le,Jzn]
theorem Jg0{b:Nat}{x:TB}{s:TSt}(h:lnB x=lns s.sto b):Jy (wS b x s)=⟨(Jy s).env,(Jy s).sto.set b (J0E (lns s.sto) x)⟩:=by
 grind [Jy,JeJ,wS,List.map_set]
theorem J8V{s s1:TSt}{ws:List (Nat×Blk)}(h:Jy s1=⟨(Jy s).env,upd ws (Jy s).sto⟩)(d:Option Nat)(v:TV):put d ⟨J04 (lns s1.sto) v,ws⟩ (Jy s)=Jy (J0J d v s1):=by cases d<;>simp_all [J0J,Jy,J5J]
end
theorem JeU{s:TSt}(d:Option Nat)(v:TV):put d ⟨J04 (lns s.sto) v,[]⟩ (Jy s)=Jy (J0J d v s):=J8V rfl d v
def tlk(n:Nat):List (Nat×TV)->Option TV
 |[]=>none
 |(m,v)::r=>if n=m then some v else tlk n r
theorem Jcv(L:Nat->Nat)(n:Nat): ∀env:List (Nat×TV),lk n (J5J L env)=(tlk n env).map (J04 L)
 |[]=>rfl
 |(m,v)::r=>by
  simp only[J5J,J1n,lk,tlk];split
  ·rfl
  ·exact Jcv L n r
theorem J1P(s:TSt)(b:Nat):(Jy s).sto[b]?=(s.sto[b]?).map (J0E (lns s.sto)):=by simp[Jy]
theorem J5Q{sto:List TB}{b:Nat}{w:Bool}{t:Ty}{rows:List t.D}(h:sto[b]?=some (.arr w t rows)):lns sto b=rows.length:=by unfold lns;rw[h];rfl
inductive TO where
 |t (n:Nat)
 |c (x:TV)
def erO:TO->Opd
 | .t n=>.t n
 | .c x=>.c (J04 (λ_=>0) x)
def JG4:TC->Bool
 | .d _ _| .sc _ _| .np| .nf| .un| .fn _=>true
 |_=>false
def JsJ:TA->Bool
 | .c x=>JG4 x
 | .dt _ _=>true
 | .m _ _=>false
 | .fn _ a c=>a.isEmpty&&c.isEmpty
def JiF:TV->Bool
 | .a x=>JsJ x
 | .tup vs=>vs.isEmpty
theorem JER{L L':Nat->Nat}{v:TV}(h:JiF v=true):J04 L v=J04 L' v:=by
 cases v with
 |a x=>
  cases x with
  |c x=>cases x<;>first|rfl|grind [JiF,JsJ,JG4]
  |dt t x=>rfl
  |m t cs=>grind [JiF,JsJ]
  |fn f a c=>simp[JiF,JsJ]at h;obtain⟨rfl,rfl⟩:=h;rfl
 |tup vs=>simp[JiF]at h;subst h;rfl
def tev:TO->TSt->Option TV
 | .t n,s=>tlk n s.env
 | .c x,_=>if JiF x=true then some x else none
theorem J0t{x:TO}{s:TSt}{v:TV}(h:tev x s=some v):(ev (erO x)).run (Jy s)=some (J04 (lns s.sto) v):=by
 cases x with
 |t n=>simp only[erO,ev,J7V];show(lk n (J5J (lns s.sto) s.env)).bind _=_;rw[Jcv,show tlk n s.env=some v from h];rfl
 |c x=>
  grind [tev,erO,ev,JZ,JER]
end Go.Am
end
section
namespace Go.Am
@[reducible] def vi(k:IntKind)(n:Int):TV:=.a (.c (.d (.i k) n))
@[reducible] def vb(x:Bool):TV:=.a (.c (.d .b x))
@[reducible] def vs(l:List UInt8):TV:=.a (.c (.d .s l))
@[reducible] def vl(t:Ty)(l:List t.D):TV:=.a (.c (.d (.l t) l))
def uv:TV:=.tup []
def mkv(agg:Bool)(t:Ty)(x:t.D):TV:=if agg=true then .a (.dt t x)else .a (.c (.d t x))
def Ok{R:Type}(m:RM Eff)(d:Option Nat)(s:TSt)(k:TSt->Option R)(r:R):Prop:= ∃e s',m.run (Jy s)=some e/\put d e (Jy s)=Jy s'/\k s'=some r
def asm:(t:Ty)->List TC->Option t.D
 | .pr a c,l=>match asm a (l.take a.sz),asm c (l.drop a.sz)with
  |some x,some y=>some (x,y)
  |_,_=>none
 | .ar _ _,_=>none
 | .u,l=>if l.isEmpty=true then some ()else none
 |t,l=>match l with
  |[.d t' x]=>if h:t'=t then some (h▸x)else none
  |_=>none
def Jk4:(t:Ty)->t.D->Option (List TC)
 | .pr a c,x=>match Jk4 a x.1,Jk4 c x.2 with
  |some l,some q=>some (l++q)
  |_,_=>none
 | .ar _ _,_=>none
 | .u,_=>some []
 |t,x=>some [.d t x]
theorem JhF(L:Nat->Nat): ∀{t:Ty} {l:List TC} {x:t.D},asm t l=some x->l.map (J0r L)=(cel t x).map .p
 | .pr a c,l,x,h=>by
  simp only[asm]at h;split at h
  ·rename_i y z hy hz;injection h with h;subst h;have h1:=JhF L hy;have h2:=JhF L hz
   grind [cel,List.take_append_drop]
  ·cases h
 | .ar _ _,_,_,h=>by cases h
 | .u,l,x,h=>by
  simp only[asm]at h;split at h
  ·rename_i e;rw[List.isEmpty_iff.1 e];rfl
  ·cases h
 | .b,l,x,h=>by
  simp only[asm]at h;split at h
  ·split at h
   ·rename_i e;subst e;injection h with h;subst h;rfl
   ·cases h
  ·cases h
 | .i _,l,x,h=>by
  simp only[asm]at h;split at h
  ·split at h
   ·rename_i e;subst e;injection h with h;subst h;rfl
   ·cases h
  ·cases h
 | .s,l,x,h=>by
  simp only[asm]at h;split at h
  ·split at h
   ·rename_i e;subst e;injection h with h;subst h;rfl
   ·cases h
  ·cases h
 | .l _,l,x,h=>by
  simp only[asm]at h;split at h
  ·split at h
   ·rename_i e;subst e;injection h with h;subst h;rfl
   ·cases h
  ·cases h
 | .f,l,x,h=>by
  simp only[asm]at h;split at h
  ·split at h
   ·rename_i e;subst e;injection h with h;subst h;rfl
   ·cases h
  ·cases h
theorem Jfh(L:Nat->Nat): ∀{t:Ty} {x:t.D} {l:List TC},Jk4 t x=some l->l.map (J0r L)=(cel t x).map .p
 | .pr a c,x,l,h=>by
  simp only[Jk4]at h;split at h
  ·rename_i y z hy hz;injection h with h;subst h;have h1:=Jfh L hy;have h2:=Jfh L hz
   grind [cel]
  ·cases h
 | .ar _ _,_,_,h=>by cases h
 | .u,x,l,h=>by injection h with h;subst h;rfl
 | .b,x,l,h=>by injection h with h;subst h;rfl
 | .i _,x,l,h=>by injection h with h;subst h;rfl
 | .s,x,l,h=>by injection h with h;subst h;rfl
 | .l _,x,l,h=>by injection h with h;subst h;rfl
 | .f,x,l,h=>by injection h with h;subst h;rfl
def zcs:Ty->List TC
 | .pr a c=>zcs a++zcs c
 | .ar n t=>(List.replicate n (zcs t)).flatten
 | .u=>[]
 |t=>[.d t t.zero]
theorem JeL(L:Nat->Nat): ∀t:Ty,(zcs t).map (J0r L)=(cel t t.zero).map .p
 | .pr a c=>by simp only[zcs,JnB,JeL L a,JeL L c,Ty.zero,cel]
 | .ar n t=>by have ih:=JeL L t;simp_all [cel,Jcl,Ty.zero,zcs]
 | .u=>rfl
 | .b=>rfl
 | .i _=>rfl
 | .s=>rfl
 | .l _=>rfl
 | .f=>rfl
def mkb(t:Ty)(cs:List TC):TB:=match asm t cs with
 |some x=>.box t x
 |none=>.mbox t cs
theorem Jil(L:Nat->Nat)(t:Ty)(cs:List TC):J0E L (mkb t cs)=.box (cs.map (J0r L)):=by
 unfold mkb;split
 ·grind [Jf7,JhF]
 ·rfl
theorem Jiy(t:Ty)(cs:List TC):lnB (mkb t cs)=0:=by unfold mkb;split<;>rfl
def JAR:TC->Bool
 | .ptr _ _| .cp _ _ _| .slr _| .slo _ _| .ep _ _ _| .epo _ _ _ _| .un| .fn _=>true
 |_=>false
theorem JoB(L:Nat->Nat): ∀{cs:List TC},cs.any JAR=true->unp (cs.map (J0r L))=none
 |[],h=>by simp at h
 |x::r,h=>by
  simp only[List.any_cons,Jnv]at h;rcases h with h|h
  ·cases x<;>simp[JAR]at h<;>rfl
  ·have:=JoB L h;cases x<;>simp[J0r,unp,this]
def mka(agg:Bool)(t:Ty)(cs:List TC):Option TV:=
 if agg=true then
  match asm t cs with
  |some x=>some (.a (.dt t x))
  |none=>if cs.any JAR=true then some (.a (.m t cs))else none
 else match cs with
  |[c]=>some (.a (.c c))
  |_=>none
theorem JeX(L:Nat->Nat){agg:Bool}{t:Ty}{cs:List TC}{v:TV}(h:mka agg t cs=some v):J41 agg (cs.map (J0r L))=some (J04 L v):=by
 unfold mka at h;split at h
 ·rename_i ha;subst ha;split at h
  ·rename_i x hx;injection h with h;subst h;rw[JhF L hx,Jjc];rfl
  ·split at h
   ·rename_i hr;injection h with h;subst h;simp only[J41,JoB L hr,if_true];rfl
   ·cases h
 ·rename_i ha;split at h
  ·injection h with h;subst h;have:agg=false:=by simpa using ha
   subst this;rfl
  ·cases h
def tcs:TV->Option (List TC)
 | .a (.c .un)=>none
 | .a (.c x)=>some [x]
 | .a (.dt t x)=>Jk4 t x
 | .a (.m _ cs)=>some cs
 | .a (.fn f [] [])=>some [.fn f]
 |_=>none
theorem Jhf(L:Nat->Nat){v:TV}{cs:List TC}(h:tcs v=some cs):cellsOf (J04 L v)=some (cs.map (J0r L)):=by
 cases v with
 |a x=>
  cases x with
  |c x=>cases x<;>cases h<;>rfl
  |dt t x=>simp only[J04,J1r,cellsOf];rw[Jfh L h]
  |m t cs=>injection h with h;subst h;rfl
  |fn f a c=>
   cases a with
   |nil=>cases c with
    |nil=>injection h with h;subst h;rfl
    |cons y c=>cases h
   |cons y a=>cases h
 |tup vs=>cases h
def tdv(t:Ty):TV->Option t.D
 | .a (.c (.d t' x))=>if h:t'=t then some (h▸x)else none
 | .a (.dt t' x)=>if h:t'=t then some (h▸x)else none
 |_=>none
def agv:TV->Bool
 | .a (.dt _ _)=>true
 |_=>false
theorem JJ8(L:Nat->Nat){t:Ty}{v:TV}{x:t.D}(h:tdv t v=some x):J04 L v=if agv v=true then .data (cel t x)else .p (hdP (cel t x)):=by
 unfold tdv at h;split at h
 ·split at h
  ·rename_i e;subst e;injection h with h;subst h;rfl
  ·cases h
 ·split at h
  ·rename_i e;subst e;injection h with h;subst h;rfl
  ·cases h
 ·cases h
def Jg4:List Sp->Option Nat
 |[]=>some 0
 | .f o::r=>match Jg4 r with
  |some n=>some (o+n)
  |none=>none
 | .a _ _::_=>none
theorem Jfd: ∀{p:List Sp} {n:Nat},Jg4 p=some n->spo p=n
 |[],n,h=>by injection h with h
 | .f o::r,n,h=>by
  simp only[Jg4]at h;split at h
  ·rename_i m hm;injection h with h;simp only[spo,Jfd hm,h]
  ·cases h
 | .a _ _::_,_,h=>by cases h
section
variable {R:Type}
def JA7(agg:Bool)(t:Ty)(v:TV)(d:Option Nat)(s:TSt)(k:TSt->Option R):Option R:=
 if agg=true\/t.sz=1 then
  match v with
  | .a (.c (.cp t0 x p))=>prt t0 x (spf 0 p).1 (spf 0 p).2 t λy=>k (J0J d (mkv agg t y) s)
  | .a (.c (.ptr b p))=>match s.sto[b]? with
   |some (.box t0 x)=>prt t0 x (spf 0 p).1 (spf 0 p).2 t λy=>k (J0J d (mkv agg t y) s)
   |some (.mbox _ cs)=>match Jg4 p with
    |some off=>match sub cs off t.sz with
     |some l=>match mka agg t l with
      |some v=>k (J0J d v s)
      |none=>none
     |none=>none
    |none=>none
   |_=>none
  | .a (.c (.ep b i p))=>match s.sto[b]? with
   |some (.arr _ t0 rows)=>(lat rows i).bind λrow=>prt t0 row (spf 0 p).1 (spf 0 p).2 t λy=>k (J0J d (mkv agg t y) s)
   |_=>none
  |_=>none
 else none
theorem Jfg(L:Nat->Nat){agg:Bool}{t:Ty}(h:agg=true\/t.sz=1)(y:t.D):J4D agg (cel t y)=some (J04 L (mkv agg t y)):=by
 unfold mkv;split
 ·rename_i ha;subst ha;rfl
 ·rename_i ha;have:agg=false:=by simpa using ha
  subst this;have:=h.resolve_left (by simp);rw[Ju8 this];rfl
theorem Jw2(p:List Sp):(spf 0 p).1+spo (spf 0 p).2=spo p:=by simp[JsL]
theorem JFs{agg:Bool}{t:Ty}{v:TV}{d:Option Nat}{s:TSt}{k:TSt->Option R}{r:R}(h:JA7 agg t v d s k=some r):Ok (J4p agg t.sz (J04 (lns s.sto) v)) d s k r:=by
 unfold JA7 at h;split at h
 ·rename_i ha;split at h
  ·rename_i t0 x p;obtain⟨y,h1,h2⟩:=J9D h;rw[Jw2]at h1;refine⟨_,_,?_,JeU d (mkv agg t y),h2⟩;simp only[J6P,JaF,JaQ,J4W,J4p,h1,Jfg (lns s.sto) ha,val];rfl
  ·rename_i b p;split at h
   ·rename_i t0 x hb;obtain⟨y,h1,h2⟩:=J9D h;rw[Jw2]at h1;refine⟨_,_,?_,JeU d (mkv agg t y),h2⟩;have hc:J41 agg ((cel t y).map .p)=J4D agg (cel t y):=by
     unfold J41 J4D;split
     ·rw[JcY]
     ·cases hcel:cel t y with
      |nil=>rfl
      |cons a l=>cases l<;>rfl
    simp only[J6P,JaF,JaQ,J4W,J4p,J1F,J1P,hb,J3l,J06,J0E,JaI,h1,hc,Jfg (lns s.sto) ha,val];rfl
   ·rename_i cs hb;split at h
    ·rename_i off ho;split at h
     ·rename_i l hl;split at h
      ·rename_i v hv;refine⟨_,_,?_,JeU d v,h⟩;simp only[J6P,JaF,JaQ,J4W,J4p,J1F,J1P,hb,J3l,J06,J0E,JaI,Jfd ho,hl,JeX (lns s.sto) hv,val];rfl
      ·cases h
     ·cases h
    ·cases h
   ·cases h
  ·rename_i b i p;split at h
   ·rename_i w t0 rows hb;obtain⟨row,hr,h⟩:=J2H.1 h;have hr:rows[i]?=some row:=hr;obtain⟨y,h1,h2⟩:=J9D h;rw[Jw2]at h1;refine⟨_,_,?_,JeU d (mkv agg t y),h2⟩;simp only[J6P,JaF,JaQ,J4W,J4p,J1F,J1P,hb,J3l,J06,J0E,J5Q hb,J6s,if_true,J6X,hr,h1,Jfg (lns s.sto) ha,val];rfl
   ·cases h
  ·cases h
 ·cases h
end
end Go.Am
end
section
namespace Go.Am
section
variable {R:Type}
def fzC:(t:Ty)->List TC->TSt->(t.D->TSt->Option R)->Option R
 | .pr a c,l,s,k=>fzC a (l.take a.sz) s λx s=>fzC c (l.drop a.sz) s λy s=>k (x,y) s
 | .ar _ _,_,_,_=>none
 | .u,l,s,k=>if l.isEmpty=true then k () s else none
 | .l e,l,s,k=>match l with
  |[.d t' x]=>if h:t'=.l e then k (h▸x) s else none
  |[.slr b]=>match s.sto[b]? with
   |some (.arr _ e' rows)=>if h:e'=e then k (h▸rows) (wS b (.arr false e' rows) s)else none
   |_=>none
  |_=>none
 |t,l,s,k=>match l with
  |[.d t' x]=>if h:t'=t then k (h▸x) s else none
  |_=>none
def tfz(t:Ty)(v:TV)(s:TSt)(k:t.D->TSt->Option R):Option R:=
 match v with
 | .a (.dt t' x)=>if h:t'=t then k (h▸x) s else none
 | .a (.c x)=>fzC t [x] s k
 | .a (.m _ cs)=>fzC t cs s k
 |_=>none
def Fzd(s s':TSt)(ws:List (Nat×Blk)):Prop:=s'.env=s.env/\lns s'.sto=lns s.sto/\Jy s'=⟨(Jy s).env,upd ws (Jy s).sto⟩/\(∀(b:Nat) (t:Ty) (rows:List t.D) (w:Bool),s'.sto[b]?=some (TB.arr w t rows)-> ∃w',s.sto[b]?=some (TB.arr w' t rows))/\(∀(b:Nat) (t:Ty) (rows:List t.D),s.sto[b]?=some (TB.arr false t rows)->s'.sto[b]?=some (TB.arr false t rows))/\ ∀x∈ws,∃(t:Ty) (rows:List t.D),s'.sto[x.1]?=some (TB.arr false t rows)
theorem Fzd.refl(s:TSt):Fzd s s []:=⟨rfl,rfl,rfl,λb t rows w h=>⟨w,h⟩,λb t rows h=>h,λx h=>by cases h⟩
theorem Fzd.trans{s1 e g:TSt}{a c:List (Nat×Blk)}(h:Fzd s1 e a)(j:Fzd e g c):Fzd s1 g (a++c):=by
 obtain⟨h1,h2,h3,h4,h5,q⟩:=h;obtain⟨q1,q2,q3,o,k,n⟩:=j;refine⟨q1.trans h1,q2.trans h2,?_,λb t rows w h=>?_,λb t rows h=>k b t rows (h5 b t rows h),λx hx=>?_⟩
 all_goals grind [J20]
theorem Jox{s:TSt}{b:Nat}{w:Bool}{t:Ty}{rows:List t.D}(hb:s.sto[b]?=some (.arr w t rows)):Fzd s (wS b (.arr false t rows) s) [(b,.arr false t.sz (rows.map (cel t)))]:=by
 have hl:lnB (.arr false t rows)=lns s.sto b:=by rw[J5Q hb];rfl
 have hs:(wS b (.arr false t rows) s).sto[b]?=some (.arr false t rows):=by grind [wS]
 have ho: ∀c,c≠b->(wS b (.arr false t rows) s).sto[c]?=s.sto[c]?:=λc hc=>by grind [wS]
 refine⟨rfl,JeJ hl,Jg0 hl,λc t' e w' h=>?_,λc t' e h=>?_,λx hx=>?_⟩
 all_goals grind
theorem JGP(x y:List AV)(st:St):(fz.fzL (x++y)).run st=((fz.fzL x).run st).bind λa=>((fz.fzL y).run st).map λc=>(a.1++c.1,a.2++c.2):=by
 induction x with
 |nil=>simp_all
 |cons v x ih=>
  simp only[Jk1,fz.fzL,run_bind,ih];cases(fz.fz1 v).run st with
  |none=>rfl
  |some a=>
   simp only[J06];cases(fz.fzL x).run st with
   |none=>rfl
   |some c=>simp only[J06];cases(fz.fzL y).run st<;>simp_all
theorem JhM{L:Nat->Nat}{t t':Ty}{x:t'.D}(h:t'=t)(h1:t.sz=1)(st:St):(fz.fzL ([TC.d t' x].map (J0r L))).run st=some (cel t (h▸x),[]):=by
 grind [Ju8,J0r,fz.fzL,fz.fz1,run_bind,JZ]
theorem Jh2: ∀{t:Ty} {l:List TC} {s0 s:TSt} {w0:List (Nat×Blk)} {k:t.D->TSt->Option R} {r:R},Fzd s0 s w0->fzC t l s k=some r->
  ∃y s' ws,(fz.fzL (l.map (J0r (lns s0.sto)))).run (Jy s0)=some (cel t y,ws)/\Fzd s0 s' (w0++ws)/\k y s'=some r
 | .pr a c,l,s0,s,w0,k,r,j,h=>by simp only[fzC]at h;obtain⟨x,s1,w1,e1,o,h⟩:=Jh2 j h;obtain⟨y,q,w2,e2,v,h⟩:=Jh2 o h;refine⟨(x,y),q,w1++w2,?_,by simp_all,h⟩;have:=JGP ((l.take a.sz).map (J0r (lns s0.sto))) ((l.drop a.sz).map (J0r (lns s0.sto))) (Jy s0);rw[<-JnB,Joe,e1,e2]at this;exact this
 | .ar _ _,_,_,_,_,_,_,_,h=>by cases h
 | .u,l,s0,s,w0,k,r,j,h=>by
  simp only[fzC]at h;split at h
  ·rename_i g;refine⟨(),s,[],?_,by simp_all,h⟩;rw[List.isEmpty_iff.1 g];rfl
  ·cases h
 | .l e,l,s0,s,w0,k,r,j,h=>by
  simp only[fzC]at h;split at h
  ·split at h
   ·rename_i g;exact⟨_,s,[],JhM g rfl _,by simp_all,h⟩
   ·cases h
  ·rename_i b;split at h
   ·rename_i w e' rows hb;split at h
    ·rename_i g;subst g;obtain⟨w',n⟩:=j.2.2.2.1 b _ rows w hb;refine⟨rows,_,[(b,.arr false e'.sz (rows.map (cel e')))],?_,j.trans (Jox hb),h⟩;simp only[J1n,List.map_nil,J0r,fz.fzL,fz.fz1,run_bind,J1F,J1P,n,J3l,J06,J0E,J5Q n,J6s,Jeo,if_true,Jvr,JZ];rfl
    ·cases h
   ·cases h
  ·cases h
 | .b,l,s0,s,w0,k,r,j,h=>by
  simp only[fzC]at h;split at h
  ·split at h
   ·rename_i g;exact⟨_,s,[],JhM g rfl _,by simp_all,h⟩
   ·cases h
  ·cases h
 | .i _,l,s0,s,w0,k,r,j,h=>by
  simp only[fzC]at h;split at h
  ·split at h
   ·rename_i g;exact⟨_,s,[],JhM g rfl _,by simp_all,h⟩
   ·cases h
  ·cases h
 | .s,l,s0,s,w0,k,r,j,h=>by
  simp only[fzC]at h;split at h
  ·split at h
   ·rename_i g;exact⟨_,s,[],JhM g rfl _,by simp_all,h⟩
   ·cases h
  ·cases h
 | .f,l,s0,s,w0,k,r,j,h=>by
  simp only[fzC]at h;split at h
  ·split at h
   ·rename_i g;exact⟨_,s,[],JhM g rfl _,by simp_all,h⟩
   ·cases h
  ·cases h
theorem JKx(x:AV)(hx:(∀cs,x≠.data cs)/\ ∀cs,x≠.agg cs)(st:St){y:List PV}{ws:List (Nat×Blk)}(h:(fz.fzL [x]).run st=some (y,ws)):(fz x).run st=some (y,ws):=by simp only[fz.fzL,run_bind,JZ]at h;cases x<;>simp_all [J2H]
theorem JCT{t:Ty}{v:TV}{s0 s:TSt}{w0:List (Nat×Blk)}{k:t.D->TSt->Option R}{r:R}(e:Fzd s0 s w0)(h:tfz t v s k=some r):
  ∃y s' ws,(fz (J04 (lns s0.sto) v)).run (Jy s0)=some (cel t y,ws)/\Fzd s0 s' (w0++ws)/\k y s'=some r:=by
 unfold tfz at h;split at h
 ·split at h
  ·rename_i g;subst g;exact⟨_,s,[],rfl,by simp_all,h⟩
  ·cases h
 ·rename_i x;obtain⟨y,s',ws,h1,h2,h3⟩:=Jh2 e h;refine⟨y,s',ws,JKx _ ⟨λcs=>?_,λcs=>?_⟩ _ h1,h2,h3⟩<;>cases x<;>simp[J0r,J04,J1r]
 ·obtain⟨y,s',ws,h1,h2,h3⟩:=Jh2 e h;exact⟨y,s',ws,h1,h2,h3⟩
 ·cases h
end
end Go.Am
end
section
namespace Go.Am
section
variable {R:Type}
theorem Jhr(L:Nat->Nat){t:Ty}{v:TV}{x:t.D}(h:tdv t v=some x)(ha:agv v=true\/t.sz=1):cellsOf (J04 L v)=some ((cel t x).map .p):=by
 rw[JJ8 L h];split
 ·rfl
 ·rename_i hn;rw[Ju8 (ha.resolve_left hn)];rfl
def JuS(t:Ty)(x u:TV)(d:Option Nat)(s:TSt)(k:TSt->Option R):Option R:=
 match x with
 | .a (.c (.ptr b p))=>match s.sto[b]? with
  |some (.box t0 y)=>match tdv t u with
   |some z=>if agv u=true\/t.sz=1 then pst t0 y (spf 0 p).1 (spf 0 p).2 t z λg=>k (J0J d uv (wS b (.box t0 g) s))else none
   |none=>match Jg4 p,Jk4 t0 y,tcs u with
    |some off,some cs,some l=>if l.length=t.sz then
     match spl cs off l with
     |some cs'=>k (J0J d uv (wS b (mkb t0 cs') s))
     |none=>none
     else none
    |some off,none,some l=>if off=0/\l.length=t0.sz/\l.length=t.sz then k (J0J d uv (wS b (mkb t0 l) s))else none
    |_,_,_=>none
  |some (.mbox t0 cs)=>match Jg4 p,tcs u with
   |some off,some l=>if l.length=t.sz then
    match spl cs off l with
    |some cs'=>k (J0J d uv (wS b (mkb t0 cs') s))
    |none=>none
    else none
   |_,_=>none
  |_=>none
 | .a (.c (.ep b i p))=>tfz t u s λz s1=>match s1.sto[b]? with
  |some (.arr true t0 rows)=>(lat rows i).bind λrow=>pst t0 row (spf 0 p).1 (spf 0 p).2 t z λe=>k (J0J d uv (wS b (.arr true t0 (J0z rows i e)) s1))
  |_=>none
 |_=>none
theorem JJ9(L:Nat->Nat):J04 L uv=J3s:=rfl
theorem JiJ{s:TSt}{b:Nat}{t:Ty}{x:t.D}(h:s.sto[b]?=some (.box t x)):lns s.sto b=0:=by unfold lns;rw[h];rfl
theorem Juk{s:TSt}{b:Nat}{t:Ty}{cs:List TC}(h:s.sto[b]?=some (.mbox t cs)):lns s.sto b=0:=by unfold lns;rw[h];rfl
theorem J9v{s:TSt}{b:Nat}(h:s.sto[b]?=some .dead):lns s.sto b=0:=by unfold lns;rw[h];rfl
theorem Jm0{m:RM Eff}{d:Option Nat}{s:TSt}{k:TSt->Option R}{r:R}{b:Nat}{x:TB}{v:TV}(hl:lnB x=lns s.sto b)(hm:m.run (Jy s)=some ⟨J04 (lns s.sto) v,[(b,J0E (lns s.sto) x)]⟩)
  (h:k (J0J d v (wS b x s))=some r):Ok m d s k r:=by
 refine⟨_,_,hm,?_,h⟩;have e:=JeJ hl;rw[<-e];refine J8V ?_ d v;simp_all [Jg0]
theorem JBz{m:RM Eff}{d:Option Nat}{s:TSt}{k:TSt->Option R}{r:R}{b:Nat}{x:TB}{v:TV}(hm:m.run (Jy s)=some ⟨J04 (lns (wN b x s).sto) v,[(b,J0E (lns (wN b x s).sto) x)]⟩)
  (h:k (J0J d v (wN b x s))=some r):Ok m d s k r:=
 ⟨_,_,hm,J8V (JFU b x s) d v,h⟩
theorem J28{m:RM Eff}{d:Option Nat}{s:TSt}{k:TSt->Option R}{r:R}{v:TV}(hm:m.run (Jy s)=some ⟨J04 (lns s.sto) v,[]⟩)(h:k (J0J d v s)=some r):Ok m d s k r:=
 ⟨_,_,hm,JeU d v,h⟩
theorem JvR{m:RM Eff}{d:Option Nat}{s s':TSt}{ws:List (Nat×Blk)}{k:TSt->Option R}{r:R}{v:TV}(f:Fzd s s' ws)(hm:m.run (Jy s)=some ⟨J04 (lns s.sto) v,ws⟩)(h:k (J0J d v s')=some r):Ok m d s k r:=by refine⟨_,_,hm,?_,h⟩;rw[<-f.2.1];exact J8V f.2.2.1 d v
theorem JC4{t:Ty}{x u:TV}{d:Option Nat}{s:TSt}{k:TSt->Option R}{r:R}(h:JuS t x u d s k=some r):Ok (J3X t.sz (J04 (lns s.sto) x) (J04 (lns s.sto) u)) d s k r:=by
 unfold JuS at h;split at h
 ·rename_i b p;split at h
  ·rename_i t0 y hb;split at h
   ·rename_i z hz;split at h
    ·rename_i ha;obtain⟨o,h1,h2⟩:=JaX h;rw[Jw2]at h1;refine Jm0 (x:=.box t0 o) (v:=uv) (JiJ hb).symm ?_ h2;simp only[J6P,JaF,JaQ,J4W,J3X,J1F,J1P,hb,J3l,J06,J0E,Jhr (lns s.sto) hz ha,J6s,J21,if_true,JaP,h1,JZ];rfl
    ·cases h
   ·split at h
    ·rename_i off cs l ho hc hl;split at h
     ·rename_i hn;split at h
      ·rename_i cs' hs;refine Jm0 (x:=mkb t0 cs') (v:=uv) ((Jiy _ _).trans (JiJ hb).symm) ?_ h;rw[Jil];simp only[J6P,JaF,JaQ,J4W,J3X,J1F,J1P,hb,J3l,J06,J0E,Jhf (lns s.sto) hl,J6s,hn,if_true,Jfd ho,<-Jfh (lns s.sto) hc,JaP,hs,JZ];rfl
      ·cases h
     ·cases h
    ·rename_i off l ho _ hl;split at h
     ·rename_i n;obtain⟨rfl,h1,h2⟩:=n;refine Jm0 (x:=mkb t0 l) (v:=uv) ((Jiy _ _).trans (JiJ hb).symm) ?_ h;rw[Jil];have he:spl ((cel t0 y).map AV.p) 0 (l.map (J0r (lns s.sto)))=some (l.map (J0r (lns s.sto))):=JyK (by grind [J21]);simp only[J6P,JaF,JaQ,J4W,J3X,J1F,J1P,hb,J3l,J06,J0E,Jhf (lns s.sto) hl,J6s,h2,if_true,Jfd ho,he,JZ];rfl
     ·cases h
    ·cases h
  ·rename_i t0 cs hb;split at h
   ·rename_i off l ho hl;split at h
    ·rename_i hn;split at h
     ·rename_i cs' hs;refine Jm0 (x:=mkb t0 cs') (v:=uv) ((Jiy _ _).trans (Juk hb).symm) ?_ h;rw[Jil];simp only[J6P,JaF,JaQ,J4W,J3X,J1F,J1P,hb,J3l,J06,J0E,Jhf (lns s.sto) hl,J6s,hn,if_true,Jfd ho,JaP,hs,JZ];rfl
     ·cases h
    ·cases h
   ·cases h
  ·cases h
 ·rename_i b i p;obtain⟨z,s1,ws,h1,f,h⟩:=JCT (Fzd.refl s) h;rw[Jhp]at f;split at h
  ·rename_i t0 rows hb;obtain⟨row,hr,h⟩:=J2H.1 h;have hr:rows[i]?=some row:=hr;obtain⟨e,q1,q2⟩:=JaX h;rw[Jw2]at q1;obtain⟨w',g⟩:=f.2.2.2.1 b _ rows true hb;have hw:w'=true:=by
    cases w' with
    |true=>rfl
    |false=>have:=f.2.2.2.2.1 b _ rows g;simp_all
   subst hw;have j:(ws.all λy=>y.1 !=b)=true:=by
    rw[JBF];intro y hy;obtain⟨t',rows',hf⟩:=f.2.2.2.2.2 y hy
    grind
   have hl:lnB (.arr true t0 (J0z rows i e))=lns s1.sto b:=by grind [J5Q,lnB,J0z]
   refine⟨⟨J3s,ws++[(b,.arr true t0.sz ((J0z rows i e).map (cel t0)))]⟩,_,?_,?_,q2⟩
   ·simp only[J6P,JaF,JaQ,J4W,J3X,J1F,J1P,g,J3l,J06,J0E,J5Q g,J6s,if_true,J6X,hr,run_bind,h1,J21,j,and_self,q1,JZ,List.map_set,J0z]
   ·rw[<-JJ9 (lns (wS b (.arr true t0 (J0z rows i e)) s1).sto)];refine J8V ?_ d uv;rw[Jg0 hl,f.2.2.1,J20];rfl
  ·cases h
 ·cases h
def tpv:List (Nat×Ty×TO)->TSt->Option (List (Nat×(w:Ty)×w.D))
 |[],_=>some []
 |(off,w,o)::r,s=>match tev o s with
  |some v=>match tdv w v with
   |some z=>if agv v=true\/w.sz=1 then
    match tpv r s with
    |some l=>some ((off,⟨w,z⟩)::l)
    |none=>none
    else none
   |none=>none
  |none=>none
def JsC(t:Ty):t.D->List (Nat×(w:Ty)×w.D)->(t.D->Option R)->Option R
 |x,[],k=>k x
 |x,(off,⟨w,z⟩)::r,k=>pst t x off [] w z λe=>JsC t e r k
def tpc:List (Nat×Ty×TO)->TSt->Option (List (Nat×Nat×List TC))
 |[],_=>some []
 |(off,w,o)::r,s=>match tev o s with
  |some v=>match tcs v with
   |some l=>match tpc r s with
    |some q=>some ((off,w.sz,l)::q)
    |none=>none
   |none=>none
  |none=>none
def Jmw:List (Nat×Nat×List TC)->List TC->Option (List TC)
 |[],cs=>some cs
 |(off,n,c)::r,cs=>if c.length=n then
  match spl cs off c with
  |some cs'=>Jmw r cs'
  |none=>none
  else none
def erP(parts:List (Nat×Ty×TO)):List (Nat×Nat×Opd):=parts.map λx=>(x.1,x.2.1.sz,erO x.2.2)
theorem Jv6{s:TSt}: ∀{parts:List (Nat×Ty×TO)} {l:List (Nat×Nat×List TC)},tpc parts s=some l->
  (J5z (erP parts)).run (Jy s)=some (l.map λx=>(x.1,x.2.1,x.2.2.map (J0r (lns s.sto))))
 |[],l,h=>by injection h with h;subst h;rfl
 |(off,w,o)::r,l,h=>by
  simp only[tpc]at h;split at h
  ·rename_i v hv;split at h
   ·rename_i c hc;split at h
    ·rename_i q hq;injection h with h;subst h;have ih:=Jv6 hq;simp only[erP,J1n,J5z,run_bind,J0t hv,J06,Jhf (lns s.sto) hc];simp_all [erP]
    ·cases h
   ·cases h
  ·cases h
theorem JD9{s:TSt}: ∀{parts:List (Nat×Ty×TO)} {l:List (Nat×(w:Ty)×w.D)},tpv parts s=some l->
  (J5z (erP parts)).run (Jy s)=some (l.map λx=>(x.1,x.2.1.sz,(cel x.2.1 x.2.2).map .p))
 |[],l,h=>by injection h with h;subst h;rfl
 |(off,w,o)::r,l,h=>by
  simp only[tpv]at h;split at h
  ·rename_i v hv;split at h
   ·rename_i z hz;split at h
    ·rename_i ha;split at h
     ·rename_i q hq;injection h with h;subst h;have ih:=JD9 hq;simp only[erP,J1n,J5z,run_bind,J0t hv,J06,Jhr (lns s.sto) hz ha];simp_all [erP]
     ·cases h
    ·cases h
   ·cases h
  ·cases h
theorem JsT{t:Ty}: ∀{l:List (Nat×(w:Ty)×w.D)} {x:t.D} {k:t.D->Option R} {r:R},JsC t x l k=some r->
  ∃y,J6F (l.map λx=>(x.1,x.2.1.sz,(cel x.2.1 x.2.2).map .p)) ((cel t x).map .p)=some ((cel t y).map .p)/\k y=some r
 |[],x,k,r,h=>⟨x,rfl,h⟩
 |(off,⟨w,z⟩)::q,x,k,r,h=>by
  simp only[JsC]at h;obtain⟨e,h1,h2⟩:=JaX h;obtain⟨y,h3,h4⟩:=JsT h2
  grind [J6F,J21,JaP,spo]
theorem Jjt(L:Nat->Nat): ∀{l:List (Nat×Nat×List TC)} {cs cs':List TC},Jmw l cs=some cs'->
  J6F (l.map λx=>(x.1,x.2.1,x.2.2.map (J0r L))) (cs.map (J0r L))=some (cs'.map (J0r L))
 |[],cs,cs',h=>by injection h with h;subst h;rfl
 |(off,n,c)::q,cs,cs',h=>by
  simp only[Jmw]at h;split at h
  ·rename_i hn;split at h
   ·rename_i e hs;simp only[J1n,J6F,J6s,hn,if_true,JaP,hs,J3l];exact Jjt L h
   ·cases h
  ·cases h
def JuM(t:Ty)(parts:List (Nat×Ty×TO))(d:Option Nat)(s:TSt)(k:TSt->Option R):Option R:=
 match tpv parts s with
 |some l=>JsC t t.zero l λy=>k (J0J d (.a (.dt t y)) s)
 |none=>match tpc parts s with
  |some l=>match Jmw l (zcs t)with
   |some cs'=>match mka true t cs' with
    |some v=>k (J0J d v s)
    |none=>none
   |none=>none
  |none=>none
theorem JCH(F:Orc)(new:Nat){t:Ty}{parts:List (Nat×Ty×TO)}{d:Option Nat}{s:TSt}{k:TSt->Option R}{r:R}(h:JuM t parts d s k=some r):Ok (opR F (.build (cel t t.zero) (erP parts)) new) d s k r:=by
 unfold JuM at h;split at h
 ·rename_i l hl;obtain⟨y,h1,h2⟩:=JsT h;refine J28 (v:=.a (.dt t y)) ?_ h2;simp only[opR,run_bind,JD9 hl,J06,h1,Jjc,val,JZ];rfl
 ·split at h
  ·rename_i l hl;split at h
   ·rename_i cs' hf;split at h
    ·rename_i v hv;refine J28 (v:=v) ?_ h;simp only[opR,run_bind,Jv6 hl,J06,<-JeL (lns s.sto) t,Jjt (lns s.sto) hf,JeX (lns s.sto) hv,val,JZ]
    ·cases h
   ·cases h
  ·cases h
def JuI(agg:Bool)(off:Nat)(t:Ty)(v:TV)(d:Option Nat)(s:TSt)(k:TSt->Option R):Option R:=
 if agg=true\/t.sz=1 then
  match v with
  | .a (.dt t0 x)=>prt t0 x off [] t λy=>k (J0J d (mkv agg t y) s)
  | .a (.m _ cs)=>match sub cs off t.sz with
   |some l=>match mka agg t l with
    |some v=>k (J0J d v s)
    |none=>none
   |none=>none
  |_=>none
 else none
theorem JCk{agg:Bool}{off:Nat}{t:Ty}{v:TV}{d:Option Nat}{s:TSt}{k:TSt->Option R}{r:R}(h:JuI agg off t v d s k=some r):Ok (val (J91 agg off t.sz (J04 (lns s.sto) v))) d s k r:=by
 unfold JuI at h;split at h
 ·rename_i ha;split at h
  ·rename_i t0 x;obtain⟨y,h1,h2⟩:=J9D h;refine J28 (v:=mkv agg t y) ?_ h2
   grind [spo,JES,J91,Jfg,val,JZ]
  ·rename_i cs;split at h
   ·rename_i l hl;split at h
    ·rename_i v hv;refine J28 (v:=v) ?_ h
     grind [e_m,J91,JaI,JeX,val,JZ]
    ·cases h
   ·cases h
  ·cases h
 ·cases h
end
end Go.Am
end
section
namespace Go.Am
section
variable {R:Type}
theorem JnE{α:Type} [BEq α] [LawfulBEq α] [DecidableEq α](x y:α):(x==y)=decide (x=y):=by
 grind
def Vl(m:Option AV)(s:TSt)(kk:TV->Option R)(r:R):Prop:= ∃v,m=some (J04 (lns s.sto) v)/\kk v=some r
theorem Vl.ok{m:Option AV}{d:Option Nat}{s:TSt}{k:TSt->Option R}{r:R}(h:Vl m s (λv=>k (J0J d v s)) r):Ok (val m) d s k r:=by obtain⟨v,h1,h2⟩:=h;refine J28 (v:=v) ?_ h2;rw[h1];rfl
def JF5(op:BinOp)(k:IntKind)(a c:Int)(kk:TV->Option R):Option R:=
 match op with
 | .add=>kk (vi k (J1 k a c))
 | .sub=>kk (vi k (JI k a c))
 | .mul=>kk (vi k (J2r k a c))
 | .quo=>(JHC k a c).bind λq=>kk (vi k q)
 | .rem=>(Jhw a c).bind λq=>kk (vi k q)
 | .and=>kk (vi k (Jtd k a c))
 | .or=>kk (vi k (orI k a c))
 | .xor=>kk (vi k (Jeu k a c))
 | .eql=>kk (vb (eqI a c))
 | .neq=>kk (vb (neI a c))
 | .lss=>kk (vb (ltI a c))
 | .leq=>kk (vb (leI a c))
 | .gtr=>kk (vb (gtI a c))
 | .geq=>kk (vb (geI a c))
 |_=>none
def JDH(op:BinOp)(a c:List UInt8)(kk:TV->Option R):Option R:=
 match op with
 | .add=>(J5s a c).bind λq=>kk (vs q)
 | .eql=>kk (vb (eqS a c))
 | .neq=>kk (vb (neS a c))
 | .lss=>kk (vb (ltS a c))
 | .leq=>kk (vb (leS a c))
 | .gtr=>kk (vb (gtS a c))
 | .geq=>kk (vb (geS a c))
 |_=>none
inductive TBT where
 |plain
 |bool
 |flat (t:Ty)
 |nilp
 |nilf
def erT:TBT->BT
 | .plain=>.plain
 | .bool=>.bool
 | .flat t=>.flat (t.ks.getD [])
 | .nilp=>.nilp
 | .nilf=>.nilf
def Jbr(op:BinOp)(x:Bool)(kk:TV->Option R):Option R:=
 match op with
 | .eql=>kk (vb x)
 | .neq=>kk (vb (Js x))
 |_=>none
def JEf(op:BinOp)(bt:TBT)(x y:TV)(kk:TV->Option R):Option R:=
 match bt with
 | .plain=>match x,y with
  | .a (.c (.d (.i k) a)),.a (.c (.d (.i k') c))=>match op with
   | .shl=>(Jgf k a c).bind λq=>kk (vi k q)
   | .shr=>(JfI k a c).bind λq=>kk (vi k q)
   |_=>if k=k' then JF5 op k a c kk else none
  | .a (.c (.d .s a)),.a (.c (.d .s c))=>JDH op a c kk
  |_,_=>none
 | .bool=>match x,y with
  | .a (.c (.d .b a)),.a (.c (.d .b c))=>Jbr op (eqB a c) kk
  |_,_=>none
 | .flat t=>match x,y with
  | .a (.dt g a),.a (.dt e c)=>if h:g=t/\e=t/\t.ks.isSome=true then Jbr op (eqT t (h.1▸a) (h.2.1▸c)) kk else none
  |_,_=>none
 | .nilp=>match x with
  | .a (.c .np)=>Jbr op true kk
  | .a (.c (.ptr _ _))=>Jbr op false kk
  | .a (.c (.cp _ _ _))=>Jbr op false kk
  | .a (.c (.ep _ _ _))=>Jbr op false kk
  |_=>none
 | .nilf=>match x with
  | .a (.c .nf)=>Jbr op true kk
  | .a (.fn _ _ _)=>Jbr op false kk
  | .a (.c (.fn _))=>Jbr op false kk
  | .a (.c (.d .f _))=>Jbr op true kk
  |_=>none
theorem JiG{op:BinOp}{x:Bool}{s:TSt}{kk:TV->Option R}{r:R}(h:Jbr op x kk=some r):Vl (J8F op (some x)) s kk r:=by
 unfold Jbr at h;split at h
 ·exact⟨_,rfl,h⟩
 ·exact⟨_,rfl,h⟩
 ·cases h
theorem JG8{op:BinOp}{k:IntKind}{a c:Int}{s:TSt}{kk:TV->Option R}{r:R}(h:JF5 op k a c kk=some r):Vl ((Jkx op k a c).map .p) s kk r:=by
 unfold JF5 at h;split at h<;>first
  |exact⟨_,rfl,h⟩
  |(obtain⟨q,h1,h⟩:=J2H.1 h
    refine⟨_,?_,h⟩
    first|unfold JHC at h1|unfold Jhw at h1
    split at h1
    ·cases h1
    ·rename_i e;injection h1 with h1;simp only[Jkx,if_neg e,h1,J3l,e_i])
  |(refine⟨_,?_,h⟩;simp only[Jkx,JnE,J3l,e_b,bne,eqI,neI,ltI,leI,gtI,geI];done)
  |cases h
theorem JHn{op:BinOp}{a c:List UInt8}{s:TSt}{kk:TV->Option R}{r:R}(h:JDH op a c kk=some r):Vl ((Jkm op a c).map .p) s kk r:=by
 unfold JDH at h;split at h<;>first
  |(obtain⟨q,h1,h⟩:=J2H.1 h
    refine⟨_,?_,h⟩;unfold J5s at h1;split at h1
    ·rename_i e;injection h1 with h1;simp only[Jkm,if_pos e,h1,J3l,e_s]
    ·cases h1)
  |(refine⟨_,?_,h⟩;simp only[Jkm,JnE,J3l,e_b,eqS,neS,ltS,leS,gtS,geS];done)
  |cases h
theorem JGT{op:BinOp}{bt:TBT}{x y:TV}{s:TSt}{kk:TV->Option R}{r:R}(h:JEf op bt x y kk=some r):Vl (Jbw op (erT bt) (J04 (lns s.sto) x) (J04 (lns s.sto) y)) s kk r:=by
 unfold JEf at h;split at h
 ·split at h
  ·rename_i k a k' c;simp only[e_i,erT,Jbw];split at h
   ·obtain⟨q,h1,h⟩:=J2H.1 h;unfold Jgf at h1;split at h1
    ·cases h1
    ·rename_i e;injection h1 with h1;exact⟨_,by simp_all [e_i],h⟩
   ·obtain⟨q,h1,h⟩:=J2H.1 h;unfold JfI at h1;split at h1
    ·cases h1
    ·rename_i e;injection h1 with h1;exact⟨_,by simp_all [e_i],h⟩
   grind [JG8]
  ·exact JHn h
  ·cases h
 ·split at h
  ·rename_i a c;simp only[e_b,erT,Jbw,JnE];exact JiG h
  ·cases h
 ·grind [Option.isSome_iff_exists,JES,erT,Jbw,JiM,JiG]
 ·split at h<;>first|exact JiG h|cases h
 ·split at h<;>first|exact JiG h|cases h
def tUn(op:UnOp)(x:TV)(kk:TV->Option R):Option R:=
 match op,x with
 | .neg,.a (.c (.d (.i k) n))=>kk (vi k (JKA k n))
 | .xor,.a (.c (.d (.i k) n))=>kk (vi k (JDB k n))
 | .not,.a (.c (.d .b x))=>kk (vb (Js x))
 |_,_=>none
theorem JIU{op:UnOp}{x:TV}{s:TSt}{kk:TV->Option R}{r:R}(h:tUn op x kk=some r):Vl (unP op (J04 (lns s.sto) x)) s kk r:=by unfold tUn at h;split at h<;>first|exact⟨_,rfl,h⟩|cases h
def tMm(mx:Bool)(x y:TV)(kk:TV->Option R):Option R:=
 match x,y with
 | .a (.c (.d (.i k) a)),.a (.c (.d (.i _) c))=>kk (vi k (if mx=true then J1o a c else Jax a c))
 |_,_=>none
theorem JJe{mx:Bool}{x y:TV}{s:TSt}{kk:TV->Option R}{r:R}(h:tMm mx x y kk=some r):Vl (mmP mx (J04 (lns s.sto) x) (J04 (lns s.sto) y)) s kk r:=by
 unfold tMm at h;split at h
 ·exact⟨_,by cases mx<;>rfl,h⟩
 ·cases h
def tls(t:Ty)(v:TV)(s:TSt):Option (List t.D):=
 match v with
 | .a (.c (.d (.l t') l))=>if h:t'=t then some (h▸l)else none
 | .a (.c (.d .s l))=>if h:t=.i .u8 then some (h▸(toByt l:List (Ty.i .u8).D))else none
 | .a (.c (.slr b))=>match s.sto[b]? with
  |some (.arr _ t' rows)=>if h:t'=t then some (h▸rows)else none
  |_=>none
 |_=>none
theorem JkY{t:Ty}{v:TV}{s:TSt}{l:List t.D}(h:tls t v s=some l):(J2Q t.sz (J04 (lns s.sto) v)).run (Jy s)=some (l.map (cel t)):=by
 unfold tls at h;split at h
 ·grind [e_l,J2Q,JZ]
 ·split at h
  ·rename_i e;subst e;injection h with h;subst h
   simp only[e_s,J2Q,Ty.sz,if_true,JZ,Jkw];rfl
  ·cases h
 ·rename_i b;split at h
  ·rename_i w t' rows hb;split at h
   ·rename_i e;subst e;injection h with h;subst h
    simp only[J4W,J2Q,J1F,J1P,hb,J3l,J06,J0E,J5Q hb,J6s,Jeo,and_self,if_true,JZ,Jvr]
   ·cases h
  ·cases h
 ·cases h
def JAN(k:CK)(x:TV)(d:Option Nat)(new:Nat)(s:TSt)(kk:TSt->Option R):Option R:=
 match k with
 | .int k=>match x with
  | .a (.c (.d (.i _) n))=>kk (J0J d (vi k (cvI k n)) s)
  |_=>none
 | .same=>match x with
  | .a (.c (.d .s l))=>kk (J0J d (vs l) s)
  |_=>none
 | .toStr=>match tls (.i .u8) x s with
  |some l=>kk (J0J d (vs (toStr l)) s)
  |none=>none
 | .toBytes own=>match x with
  | .a (.c (.d .s l))=>if own=true then kk (J0J d (.a (.c (.slr new))) (wN new (.arr true (.i .u8) (toByt l)) s))else kk (J0J d (vl (.i .u8) (toByt l)) s)
  |_=>none
theorem JEo(F:Orc){k:CK}{x:TO}{v:TV}{d:Option Nat}{new:Nat}{s:TSt}{kk:TSt->Option R}{r:R}(hx:tev x s=some v)(hn:k=.toBytes true->new<s.sto.length)(h:JAN k v d new s kk=some r):Ok (opR F (.conv k (erO x)) new) d s kk r:=by
 unfold JAN at h;split at h
 ·split at h
  ·refine J28 (v:=vi _ _) ?_ h;simp only[opR,run_bind,J0t hx,J06,e_i,JZ,cvI]
  ·cases h
 ·split at h
  ·refine J28 (v:=vs _) ?_ h
   grind [opR,run_bind,J0t,e_s,JZ]
  ·cases h
 ·split at h
  ·rename_i l hl;refine J28 (v:=vs _) ?_ h;have:=JkY hl;have e:l.map (cel (.i .u8))=l.map (r_i .u8):=rfl;rw[e]at this;simp only[opR,run_bind,J0t hx,J06,this,JfJ,e_s,JZ,Ty.sz];rw[show(J2Q 1 (J04 (lns s.sto) v)).run (Jy s)=some (l.map (r_i .u8))from this];simp[JfJ]
  ·cases h
 ·rename_i own;split at h
  ·rename_i l;split at h
   ·rename_i ho;subst ho;refine JBz (x:=.arr true (.i .u8) (toByt l)) (v:=.a (.c (.slr new))) ?_ h;simp only[opR,run_bind,J0t hx,J06,e_s,if_true,JZ,J4W,J0E,Jkw];have e:lns (wN new (TB.arr true (Ty.i IntKind.u8) (toByt l)) s).sto new=l.length:=by
     grind [wN,JvL,lnB,toByt]
    rw[e];rfl
   ·rename_i ho;have:own=false:=by simpa using ho
    subst this;refine J28 (v:=vl _ _) ?_ h;simp only[opR,run_bind,J0t hx,J06,e_s,J8E,if_false,JZ,e_l,Jkw];rfl
  ·cases h
end
end Go.Am
end
section
namespace Go.Am
section
variable {R:Type}
theorem JyV(p q:List Sp):spo (p++q)=spo p+spo q:=by
 induction p with
 |nil=>simp[spo]
 |cons x p ih=>cases x<;>simp only[Jk1,spo,ih]<;>omega
def Ju5(off:Nat)(x:TV)(kk:TV->Option R):Option R:=
 match x with
 | .a (.c (.ptr b p))=>kk (.a (.c (.ptr b (p++[.f off]))))
 | .a (.c (.cp t x p))=>kk (.a (.c (.cp t x (p++[.f off]))))
 | .a (.c (.ep b i p))=>kk (.a (.c (.ep b i (p++[.f off]))))
 |_=>none
theorem JCy{off:Nat}{x:TV}{s:TSt}{kk:TV->Option R}{r:R}(h:Ju5 off x kk=some r):Vl (Ji3 off (J04 (lns s.sto) x)) s kk r:=by
 unfold Ju5 at h;split at h<;>first
  |(refine⟨_,?_,h⟩;simp only[J6P,JaF,JaQ,Ji3,JyV,spo,JjJ];done)
  |cases h
def JtS(len esz:Nat)(x i:TV)(kk:TV->Option R):Option R:=
 match i with
 | .a (.c (.d (.i _) n))=>(inb len n).bind λ_=>match x with
  | .a (.c (.ptr b p))=>kk (.a (.c (.ptr b (p++[.a n.toNat esz]))))
  | .a (.c (.cp t x p))=>kk (.a (.c (.cp t x (p++[.a n.toNat esz]))))
  | .a (.c (.ep b i p))=>kk (.a (.c (.ep b i (p++[.a n.toNat esz]))))
  |_=>none
 |_=>none
theorem JCL{len esz:Nat}{x i:TV}{s:TSt}{kk:TV->Option R}{r:R}(h:JtS len esz x i kk=some r):Vl (Jid len esz (J04 (lns s.sto) x) (J04 (lns s.sto) i)) s kk r:=by
 unfold JtS at h;split at h
 ·obtain⟨_,h1,h⟩:=J2H.1 h;have e:=Jzo h1;split at h<;>first
   |(refine⟨_,?_,h⟩;simp only[J6P,JaF,JaQ,e_i,Jid,if_pos e,JyV,spo,JjJ];done)
   |cases h
 ·cases h
def JuQ(t:Ty)(x i:TV)(s:TSt)(kk:TV->Option R):Option R:=
 match i with
 | .a (.c (.d (.i _) n))=>match x with
  | .a (.c (.d (.l t') l))=>if t'=t then(idx l n).bind λy=>kk (.a (.c (.cp t' y [])))else none
  | .a (.c (.slr b))=>match s.sto[b]? with
   |some (.arr _ t' rows)=>if t'=t then(inb rows.length n).bind λ_=>kk (.a (.c (.ep b n.toNat [])))else none
   |_=>none
  |_=>none
 |_=>none
theorem JCh{t:Ty}{x i:TV}{d:Option Nat}{s:TSt}{k:TSt->Option R}{r:R}(h:JuQ t x i s (λv=>k (J0J d v s))=some r):Ok (J6J t.sz (J04 (lns s.sto) x) (J04 (lns s.sto) i)) d s k r:=by
 unfold JuQ at h;split at h
 ·split at h
  ·split at h
   ·rename_i e;subst e;obtain⟨y,h1,h⟩:=J2H.1 h;refine J28 (v:=.a (.c (.cp _ y []))) ?_ h
    grind [e_l,e_i,JaF,J6J,JCd,JZ,spo]
   ·cases h
  ·rename_i b;split at h
   ·rename_i w t' rows hb;split at h
    ·rename_i e;subst e;obtain⟨_,h1,h⟩:=J2H.1 h;have e:=Jzo h1;refine J28 (v:=.a (.c (.ep b _ []))) ?_ h;simp only[J4W,e_i,JaQ,J6J,J1F,J1P,hb,J3l,J06,J0E,J5Q hb,J6s,Jeo,true_and];rw[if_pos e];rfl
    ·cases h
   ·cases h
  ·cases h
 ·cases h
def JzN(x i:TV)(kk:TV->Option R):Option R:=
 match x,i with
 | .a (.c (.d .s l)),.a (.c (.d (.i _) n))=>(Jex l n).bind λu=>kk (vi .u8 u)
 |_,_=>none
theorem JFM(F:Orc){x i:TO}{g e:TV}{d:Option Nat}{new:Nat}{s:TSt}{k:TSt->Option R}{r:R}(hx:tev x s=some g)(hi:tev i s=some e)(h:JzN g e (λv=>k (J0J d v s))=some r):Ok (opR F (.sidx (erO x) (erO i)) new) d s k r:=by
 unfold JzN at h;split at h
 ·rename_i l k' n;obtain⟨u,h1,h⟩:=J2H.1 h;refine J28 (v:=vi .u8 u) ?_ h;simp only[opR,run_bind,J0t hx,J0t hi,J06,e_s,e_i];unfold Jex at h1;split at h1
  ·rename_i j;rw[if_pos j];split at h1
   all_goals simp_all
  ·cases h1
 ·cases h
def JBi(j:Int)(k:Nat->Option R):Nat->Option R
 |0=>none
 |m+1=>if eqI j m=true then k m else JBi j k m
theorem Jzd{j:Int}{k:Nat->Option R}{r:R}: ∀{n:Nat},JBi j k n=some r-> ∃m,m<n/\j=m/\k m=some r
 |0,h=>by cases h
 |n+1,h=>by
  simp only[JBi]at h;split at h
  ·grind [eqI]
  ·obtain⟨m,h1,h2,h3⟩:=Jzd h
   grind
def JBj(agg:Bool)(len:Nat)(t:Ty)(x i:TV)(d:Option Nat)(s:TSt)(k:TSt->Option R):Option R:=
 if agg=true\/t.sz=1 then
  match x,i with
  | .a (.dt (.ar n t') v),.a (.c (.d (.i _) j))=>if h:t'=t/\n=len then(JFC v j).bind λy=>k (J0J d (mkv agg t (h.1▸y)) s)else none
  | .a (.m _ cs),.a (.c (.d (.i _) j))=>JBi j (λm=>match sub cs (m*t.sz) t.sz with
   |some l=>match mka agg t l with
    |some v=>k (J0J d v s)
    |none=>none
   |none=>none) len
  |_,_=>none
 else none
theorem JEM(F:Orc){agg:Bool}{len:Nat}{t:Ty}{x i:TO}{g e:TV}{d:Option Nat}{new:Nat}{s:TSt}{k:TSt->Option R}{r:R}(hx:tev x s=some g)(hi:tev i s=some e)(h:JBj agg len t g e d s k=some r):
  Ok (opR F (.aidx agg len t.sz (erO x) (erO i)) new) d s k r:=by
 unfold JBj at h;split at h
 ·rename_i ha;split at h
  ·rename_i n t' v k' j;split at h
   ·rename_i o;obtain⟨rfl,rfl⟩:=o;obtain⟨y,h1,h⟩:=J2H.1 h;obtain⟨h2,h3⟩:=JDz h1;refine J28 (v:=mkv agg t' y) ?_ h;simp only[opR,run_bind,J0t hx,J0t hi,J06,JES,e_i,if_pos h2,J91]
    grind [cel,Jh7,J21,Jfg,val,JZ]
   ·cases h
  ·rename_i t0 cs k' j;obtain⟨m,h1,e0,h3⟩:=Jzd h;clear h;subst e0;split at h3
   ·rename_i l hl;split at h3
    ·rename_i v hv;refine J28 (v:=v) ?_ h3;have h2:(0:Int)<=m/\(m:Int)<len:=by omega
     simp only[opR,run_bind,J0t hx,J0t hi,J06,e_m,e_i,if_pos h2,J91,Int.toNat_natCast,JaI,hl,J3l,JeX (lns s.sto) hv,val,JZ]
    ·cases h3
   ·cases h3
  ·cases h
 ·cases h
def JAI(x:TV)(i:Nat)(kk:TV->Option R):Option R:=
 match x with
 | .tup vs=>match vs[i]? with
  |some v=>kk (.a v)
  |none=>none
 |_=>none
theorem JFw{x:TV}{i:Nat}{s:TSt}{kk:TV->Option R}{r:R}(h:JAI x i kk=some r):Vl (Jsn i (J04 (lns s.sto) x)) s kk r:=by
 unfold JAI at h;split at h
 ·split at h
  ·rename_i v hv;refine⟨_,?_,h⟩;simp_all [J04]
  ·cases h
 ·cases h
def JDO(str:Bool)(x:TV)(s:TSt)(kk:TV->Option R):Option R:=
 match str,x with
 |true,.a (.c (.d .s l))=>kk (vi .i64 (J0 l))
 |false,.a (.c (.d (.l _) l))=>kk (vi .i64 (J0 l))
 |false,.a (.c (.slr b))=>match s.sto[b]? with
  |some (.arr _ _ rows)=>kk (vi .i64 (J0 rows))
  |_=>none
 |false,.a (.c (.slo _ n))=>kk (vi .i64 n)
 |_,_=>none
theorem JGe{str:Bool}{x:TV}{s:TSt}{kk:TV->Option R}{r:R}(h:JDO str x s kk=some r):Vl (Jtb str (J04 (lns s.sto) x)) s kk r:=by
 unfold JDO at h;split at h
 ·exact⟨_,rfl,h⟩
 ·exact⟨_,by simp[e_l,e_i,J0],h⟩
 ·split at h
  ·rename_i hb;exact⟨_,by grind [J4W,Jtb,J5Q,e_i,J0],h⟩
  ·cases h
 ·exact⟨_,rfl,h⟩
 ·cases h
theorem Jn5{s:TSt}{new:Nat}(hn:new<s.sto.length){w:Bool}{t:Ty}{rows:List t.D}:lns (wN new (TB.arr w t rows) s).sto new=rows.length:=by unfold wN;rw[JvL (by simpa using hn)];rfl
theorem JkX{m:RM Eff}{d:Option Nat}{s:TSt}{k:TSt->Option R}{r:R}{new:Nat}{t:Ty}{rows:List t.D}(hn:new<s.sto.length)
  (hm:m.run (Jy s)=some ⟨.slr new 0 rows.length,[(new,.arr true t.sz (rows.map (cel t)))]⟩) (h:k (J0J d (.a (.c (.slr new))) (wN new (.arr true t rows) s))=some r):Ok m d s k r:=by
 refine JBz (x:=.arr true t rows) (v:=.a (.c (.slr new))) ?_ h;rw[hm,J4W,Jn5 hn];rfl
def Jky(own:Bool)(t:Ty)(bytes:Nat)(l c:TV)(d:Option Nat)(new:Nat)(s:TSt)(k:TSt->Option R):Option R:=
 match l,c with
 | .a (.c (.d (.i _) n)),.a (.c (.d (.i _) m))=>(mkS bytes n m t.zero).bind λrows=>
  if own=true then k (J0J d (.a (.c (.slr new))) (wN new (.arr true t rows) s))else k (J0J d (vl t rows) s)
 |_,_=>none
theorem JxW(F:Orc){own:Bool}{t:Ty}{bytes:Nat}{l c:TO}{e g:TV}{d:Option Nat}{new:Nat}{s:TSt}{k:TSt->Option R}{r:R}(hl:tev l s=some e)(hc:tev c s=some g)(hn:own=true->new<s.sto.length)
  (h:Jky own t bytes e g d new s k=some r):Ok (opR F (.mkslice own t.sz bytes (cel t t.zero) (erO l) (erO c)) new) d s k r:=by
 unfold Jky at h;split at h
 ·obtain⟨rows,h1,h3⟩:=J2H.1 h;obtain⟨h2,rfl⟩:=JH9 h1;clear h;split at h3
  ·rename_i ho;subst ho;refine JkX (hn rfl) ?_ h3;simp only[opR,run_bind,J0t hl,J0t hc,J06,e_i,if_pos h2,if_true,JZ,JmJ,JBw]
  ·rename_i ho;have:own=false:=by simpa using ho
   subst this;refine J28 (v:=vl t _) ?_ h3;simp only[opR,run_bind,J0t hl,J0t hc,J06,e_i,if_pos h2,J8E,if_false,JZ,e_l,JBw]
 ·cases h
def JBr(t:Ty)(bytes:Nat)(x y:TV)(d:Option Nat)(s:TSt)(k:TSt->Option R):Option R:=
 match x with
 | .a (.c (.slr b))=>match s.sto[b]? with
  |some (.arr w t' rows)=>if h:t'=t then
   match tls t' y s with
   |some l=>(JA bytes rows l).bind λm=>k (J0J d (.a (.c (.slr b))) (wN b (.arr w t' m) s))
   |none=>none
   else none
  |_=>none
 |_=>none
theorem Jzs{t:Ty}{bytes:Nat}{x y:TV}{d:Option Nat}{s:TSt}{k:TSt->Option R}{r:R}(h:JBr t bytes x y d s k=some r):Ok (J81 t.sz bytes (J04 (lns s.sto) x) (J04 (lns s.sto) y)) d s k r:=by
 unfold JBr at h;split at h
 ·rename_i b;split at h
  ·rename_i w t' rows hb;split at h
   ·rename_i g;subst g;split at h
    ·rename_i l hl;obtain⟨m,h1,h⟩:=J2H.1 h;refine JBz (x:=.arr w t' m) (v:=.a (.c (.slr b))) ?_ h;have e:(Jy s).sto[b]?=some (.arr w t'.sz (rows.map (cel t'))):=by rw[J1P,hb];rfl
     have:=JGZ h1 e (JkY hl);rw[J4W,J5Q hb,this,J4W,Jn5 (Jw hb)];rfl
    ·cases h
   ·cases h
  ·cases h
 ·cases h
def JBc(t:Ty)(bytes:Nat)(y:TV)(d:Option Nat)(new:Nat)(s:TSt)(k:TSt->Option R):Option R:=
 match tls t y s with
 |some l=>(J2l bytes l).bind λm=>k (J0J d (.a (.c (.slr new))) (wN new (.arr true t m) s))
 |none=>none
theorem JDY(F:Orc){t:Ty}{bytes:Nat}{z:List PV}{y:TO}{e:TV}{d:Option Nat}{new:Nat}{s:TSt}{k:TSt->Option R}{r:R}(hy:tev y s=some e)(hn:new<s.sto.length)(h:JBc t bytes e d new s k=some r):Ok (opR F (.appn t.sz bytes z (erO y)) new) d s k r:=by
 unfold JBc at h;split at h
 ·rename_i l hl;obtain⟨m,h1,h3⟩:=J2H.1 h;obtain⟨h2,rfl⟩:=JDv h1;refine JkX hn ?_ h3;simp only[opR,run_bind,J0t hy,J06,JkY hl,J6s,h2,if_true,JZ]
 ·cases h
def JBe(t:Ty)(bytes:Nat)(x y:TV)(d:Option Nat)(s:TSt)(k:TSt->Option R):Option R:=
 match y with
 | .a (.c (.d (.i _) n))=>if 0<=n then JBr t bytes x (vl t (List.replicate n.toNat t.zero)) d s k else none
 |_=>none
theorem JEK(F:Orc){t:Ty}{bytes:Nat}{x y:TO}{g j:TV}{d:Option Nat}{new:Nat}{s:TSt}{k:TSt->Option R}{r:R}(hx:tev x s=some g)(hy:tev y s=some j)(h:JBe t bytes g j d s k=some r):Ok (opR F (.appz t.sz bytes (cel t t.zero) (erO x) (erO y)) new) d s k r:=by
 unfold JBe at h;split at h
 ·rename_i n;split at h
  ·rename_i o;obtain⟨e,s',h1,h2,h3⟩:=Jzs h;refine⟨e,s',?_,h2,h3⟩;simp only[opR,run_bind,J0t hx,J0t hy,J06,e_i,zrs,if_pos o];simp_all [e_l]
  ·cases h
 ·cases h
def JAz(t:Ty)(bytes:Nat)(x y:TV)(d:Option Nat)(new:Nat)(s:TSt)(k:TSt->Option R):Option R:=
 match x with
 | .a (.c (.sc t' rows))=>if h:t'=t then
   match tls t' y s with
   |some l=>(JIF bytes rows l).bind λm=>k (J0J d (.a (.c (.slr new))) (wN new (.arr true t' m) s))
   |none=>none
  else none
 |_=>none
theorem JEC(F:Orc){t:Ty}{bytes:Nat}{z:List PV}{x y:TO}{e g:TV}{d:Option Nat}{new:Nat}{s:TSt}{k:TSt->Option R}{r:R}(hx:tev x s=some e)(hy:tev y s=some g)(hn:new<s.sto.length)(h:JAz t bytes e g d new s k=some r):
  Ok (opR F (.appc t.sz bytes z (erO x) (erO y)) new) d s k r:=by
 unfold JAz at h;split at h
 ·rename_i t' rows;split at h
  ·rename_i j;subst j;split at h
   ·rename_i l hl;obtain⟨m,h1,h⟩:=J2H.1 h;unfold JIF at h1;split at h1
    ·rename_i h2;injection h1 with h1;subst h1;refine JkX hn ?_ h;simp only[opR,run_bind,J0t hx,J0t hy,J06];show(Jv0 t'.sz bytes (.p (.slc t'.sz (rows.map (cel t')))) _ new).run _=_
     grind [Jv0,run_bind,JkY,JZ]
    ·cases h1
   ·cases h
  ·cases h
 ·cases h
def tbn(x:Option TO)(s:TSt):Option (Option (IntKind×Int)):=
 match x with
 |none=>some none
 |some o=>match tev o s with
  |some (.a (.c (.d (.i k) n)))=>some (some (k,n))
  |_=>none
def bv(x:Option (IntKind×Int)):Option AV:=x.map λy=>.p (.i y.1 y.2)
theorem Jfk{x:Option TO}{s:TSt}{y:Option (IntKind×Int)}(h:tbn x s=some y):(evo (x.map erO)).run (Jy s)=some (bv y):=by
 cases x with
 |none=>injection h with h;subst h;rfl
 |some o=>
  simp only[tbn]at h;split at h
  ·rename_i k n ho;injection h with h;subst h;simp only[J3l,evo,run_bind,J0t ho,J06,JZ,bv,e_i]
  ·cases h
theorem JIQ(x:Option (IntKind×Int))(top d:Nat):J6A (bv x) top d=Jeq (x.map (·.2)) top d:=by cases x<;>rfl
theorem JCB(n:Nat)(lo hi:Option (IntKind×Int)):JhB n (bv lo) (bv hi)=JcE n (lo.map (·.2)) (hi.map (·.2)):=by
 grind [JhB,JcE,JIQ]
inductive TSK where
 |str
 |sl (t:Ty)
def erK:TSK->SK
 | .str=>.str
 | .sl t=>.sl t.sz
def JFp(t:Ty)(x:TV)(s:TSt)(kk:List t.D->TSt->Option R):Option R:=
 match x with
 | .a (.c (.d (.l t') l))=>if h:t'=t then kk (h▸l) s else none
 | .a (.c (.slr b))=>match s.sto[b]? with
  |some (.arr _ t' rows)=>if h:t'=t then kk (h▸rows) (wS b (.arr false t' rows) s)else none
  |_=>none
 |_=>none
theorem JH1{t:Ty}{x:TV}{s:TSt}{kk:List t.D->TSt->Option R}{r:R}(h:JFp t x s kk=some r):
  ∃l s' ws,Fzd s s' ws/\kk l s'=some r/\((J04 (lns s.sto) x=.p (.sl t.sz (l.map (cel t)))/\ws=[])\/
   ∃b,J04 (lns s.sto) x=.slr b 0 l.length/\(fz (.slr b 0 l.length)).run (Jy s)=some ([.sl t.sz (l.map (cel t))],ws)):=by
 unfold JFp at h;split at h
 ·grind [Fzd.refl,e_l]
 ·rename_i b;split at h
  ·rename_i w t' rows hb;split at h
   ·rename_i e;subst e;refine⟨_,_,_,Jox hb,h,.inr ⟨b,by rw[J4W,J5Q hb],?_⟩⟩;simp_all [J1P,J0E]
   ·cases h
  ·cases h
 ·cases h
def JwE(e:TSK)(x:TV)(lo hi mx:Option (IntKind×Int))(d:Option Nat)(s:TSt)(k:TSt->Option R):Option R:=
 match e with
 | .str=>match x,mx with
  | .a (.c (.d .s l)),none=>(J0D l (lo.map (·.2)) (hi.map (·.2))).bind λq=>k (J0J d (vs q) s)
  |_,_=>none
 | .sl t=>JFp t x s λl s1=>match mx with
  |none=>(J0D l (lo.map (·.2)) (hi.map (·.2))).bind λq=>k (J0J d (vl t q) s1)
  |some (_,n)=>match lo,hi with
   |none,some (_,h)=>if h=l.length/\n=l.length then k (J0J d (.a (.c (.sc t l))) s1)else none
   |_,_=>none
theorem JyS{α:Type}{l q:List α}{lo hi:Option Int}(h:J0D l lo hi=some q): ∃c,JcE l.length lo hi=some c/\q=(l.drop c.1).take (c.2-c.1):=by
 grind [J0D]
theorem JCA(F:Orc){n:TSK}{x:TO}{j:TV}{lo hi mx:Option TO}{l g m:Option (IntKind×Int)}{d:Option Nat}{new:Nat}{s:TSt}{k:TSt->Option R}{r:R}(hx:tev x s=some j)(hl:tbn lo s=some l)(o:tbn hi s=some g)(hm:tbn mx s=some m)
  (h:JwE n j l g m d s k=some r):Ok (opR F (.slice (erK n) (erO x) (lo.map erO) (hi.map erO) (mx.map erO)) new) d s k r:=by
 unfold JwE at h;split at h
 ·split at h
  ·rename_i l0;obtain⟨q,h1,h⟩:=J2H.1 h;obtain⟨c,hc,rfl⟩:=JyS h1;refine J28 (v:=vs _) ?_ h;have e0:bv none=none:=rfl;simp only[opR,run_bind,J0t hx,Jfk hl,Jfk o,Jfk hm,J06,e_s,erK,e0,J5q,Jbe,val,JCB,hc,JZ]
  ·cases h
 ·rename_i t;obtain⟨y,s1,ws,f,h,hv⟩:=JH1 h
  have e: ∀(res:AV),J5q (.sl t.sz) (.p (.sl t.sz (y.map (cel t)))) (bv l) (bv g) (bv m)=some res->
    (opR F (.slice (erK (.sl t)) (erO x) (lo.map erO) (hi.map erO) (mx.map erO)) new).run (Jy s)=some ⟨res,ws⟩:=by
   intro res hr;simp only[opR,run_bind,J0t hx,Jfk hl,Jfk o,Jfk hm,J06,erK]
   grind [val,JZ,run_bind]
  split at h
  ·obtain⟨q,h2,h⟩:=J2H.1 h;obtain⟨c,hc,rfl⟩:=JyS h2;refine JvR (v:=vl t _) f (e _ ?_) h
   grind [bv,J5q,Jbk,JCB,e_l,List.map_take,List.map_drop]
  ·split at h
   ·split at h
    ·rename_i w;refine JvR (v:=.a (.c (.sc t y))) f (e _ ?_) h;simp only[bv,Option.map_none,J3l,J5q,Jsp,J6s,w,and_self,if_true];rfl
    ·cases h
   ·cases h
end
end Go.Am
end
section
namespace Go.Am
section
variable {R:Type}
def JBO(t:Ty):List (Nat×TO)->TSt->TSt->(List (Nat×t.D)->TSt->Option R)->Option R
 |[],_,s,k=>k [] s
 |(i,o)::r,s0,s,k=>match tev o s0 with
  |some v=>tfz t v s λz s'=>JBO t r s0 s' λl e=>k ((i,z)::l) e
  |none=>none
theorem JyE{t:Ty}: ∀{parts:List (Nat×TO)} {s0 s:TSt} {w0:List (Nat×Blk)} {k:List (Nat×t.D)->TSt->Option R} {r:R},Fzd s0 s w0->JBO t parts s0 s k=some r->
  ∃l s' ws,(fzs (parts.map λx=>erO x.2)).run (Jy s0)=some (l.map λx=>cel t x.2,ws)/\Fzd s0 s' (w0++ws)/\l.map (·.1)=parts.map (·.1)/\k l s'=some r
 |[],s0,s,w0,k,r,f,h=>⟨[],s,[],rfl,by simp_all,rfl,h⟩
 |(i,o)::q,s0,s,w0,k,r,f,h=>by
  simp only[JBO]at h;split at h
  ·rename_i v hv;obtain⟨z,s1,w1,h1,e,h⟩:=JCT f h;obtain⟨l,g,w2,h2,j,h3,h⟩:=JyE e h;refine⟨(i,z)::l,g,w1++w2,?_,by simp_all,by simp[h3],h⟩;simp only[J1n,fzs,run_bind,J0t hv,J06,h1,h2,JZ]
  ·cases h
def Jlm{α:Type}:List (Nat×α)->List α->Option (List α)
 |[],rows=>some rows
 |(i,c)::r,rows=>if i<rows.length then Jlm r (rows.set i c)else none
theorem Jpj{t:Ty}: ∀{l:List (Nat×t.D)} {rows rows':List t.D},Jlm l rows=some rows'->
  J9w t.sz ((l.map (·.1)).zip (l.map λx=>cel t x.2)) (rows.map (cel t))=some (rows'.map (cel t))/\rows'.length=rows.length
 |[],rows,rows',h=>by injection h with h;simp_all
 |(i,c)::q,rows,rows',h=>by
  simp only[Jlm]at h;split at h
  ·rename_i e;obtain⟨h1,h2⟩:=Jpj h;simp_all [J21]
  ·cases h
def JAC(own:Bool)(t:Ty)(n:Nat)(parts:List (Nat×TO))(d:Option Nat)(new:Nat)(s:TSt)(k:TSt->Option R):Option R:=
 JBO t parts s s λl s1=>match Jlm l (List.replicate n t.zero)with
  |some rows=>if own=true then k (J0J d (.a (.c (.slr new))) (wN new (.arr true t rows) s1))else k (J0J d (vl t rows) s1)
  |none=>none
theorem JEd(F:Orc){own:Bool}{t:Ty}{n:Nat}{parts:List (Nat×TO)}{d:Option Nat}{new:Nat}{s:TSt}{k:TSt->Option R}{r:R}(hn:own=true->new<s.sto.length)
  (h:JAC own t n parts d new s k=some r):Ok (opR F (.lits own t.sz n (cel t t.zero) (parts.map λx=>(x.1,erO x.2))) new) d s k r:=by
 unfold JAC at h;obtain⟨l,s1,ws,h1,f,h2,h3⟩:=JyE (Fzd.refl s) h;rw[Jhp]at f;clear h;split at h3
 ·rename_i rows hp;obtain⟨q1,q2⟩:=Jpj hp;rw[JmJ]at q2;rw[JBw]at q1;have e1:(parts.map λx=>(x.1,erO x.2)).map (·.2)=parts.map λx=>erO x.2:=by simp
  have e2:(parts.map λx=>(x.1,erO x.2)).map (·.1)=l.map (·.1):=by rw[h2];simp
  split at h3
  ·rename_i ho;subst ho;have e:new<s1.sto.length:=by
    have:=congrArg (λst=>st.sto.length) f.2.2.1
    grind [Jy,JaT]
   refine⟨⟨J04 (lns (wN new (.arr true t rows) s1).sto) (.a (.c (.slr new))),ws++[(new,.arr true t.sz (rows.map (cel t)))]⟩,_,?_,J8V ?_ d _,h3⟩
   ·grind [J4W,Jn5,opR,run_bind,JZ]
   ·rw[JFU,f.2.2.1,J20];rfl
  ·rename_i ho;have:own=false:=by simpa using ho
   subst this;refine JvR (v:=vl t rows) f ?_ h3
   grind [opR,run_bind,JZ,e_l]
 ·cases h3
def J9l(s:TSt):Nat->Nat->Bool
 |_,0=>true
 |new,k+1=>(match s.sto[new]? with
  |some .dead=>true
  |_=>false)&&J9l s (new+1) k
theorem Jvc{s:TSt}: ∀{k new:Nat},J9l s new k=true->(Jc2 new k).run (Jy s)=some ()
 |0,_,_=>rfl
 |k+1,new,h=>by
  simp only[J9l,J03]at h;obtain⟨h1,h2⟩:=h;split at h1
  ·rename_i hd;simp only[Jc2,J1F,J1P,hd,J3l,J06,J0E];exact Jvc h2
  ·cases h1
theorem J7Z{s:TSt}: ∀{k new:Nat},J9l s new k=true-> ∀j,j<k->s.sto[new+j]?=some .dead
 |0,_,_,j,hj=>by omega
 |k+1,new,h,j,hj=>by
  simp only[J9l,J03]at h;obtain⟨h1,h2⟩:=h;cases j with
  |zero=>
   grind
  |succ j=>
   have:=J7Z h2 j (by omega)
   grind
theorem Joj{m:RM Eff}{d:Option Nat}{s:TSt}{k:TSt->Option R}{r:R}{new:Nat}{x:TB}(hd:s.sto[new]?=some .dead)(e:lnB x=0)
  (hm:m.run (Jy s)=some ⟨.ptr new 0,[(new,J0E (lns s.sto) x)]⟩) (h:k (J0J d (.a (.c (.ptr new []))) (wS new x s))=some r):Ok m d s k r:=by
 refine Jm0 (x:=x) (v:=.a (.c (.ptr new []))) (e.trans (J9v hd).symm) ?_ h;rw[hm];rfl
def JyH(t:Ty)(d:Option Nat)(new:Nat)(s:TSt)(k:TSt->Option R):Option R:=k (J0J d (.a (.c (.ptr new []))) (wS new (.box t t.zero) s))
theorem JA0(F:Orc){t:Ty}{d:Option Nat}{new:Nat}{s:TSt}{k:TSt->Option R}{r:R}(hd:s.sto[new]?=some .dead)(h:JyH t d new s k=some r):Ok (opR F (.newbox (cel t t.zero)) new) d s k r:=
 Joj hd (x:=.box t t.zero) rfl rfl h
def JF1(t:Ty)(x:TV)(d:Option Nat)(new:Nat)(s:TSt)(k:TSt->Option R):Option R:=
 match tdv t x with
 |some z=>if agv x=true\/t.sz=1 then k (J0J d (.a (.c (.ptr new []))) (wS new (.box t z) s))else none
 |none=>match tcs x with
  |some cs=>if cs.length=t.sz then k (J0J d (.a (.c (.ptr new []))) (wS new (.mbox t cs) s))else none
  |none=>none
theorem JGg(F:Orc){t:Ty}{x:TO}{v:TV}{d:Option Nat}{new:Nat}{s:TSt}{k:TSt->Option R}{r:R}(hd:s.sto[new]?=some .dead)(hx:tev x s=some v)(h:JF1 t v d new s k=some r):Ok (opR F (.box t.sz (erO x)) new) d s k r:=by
 unfold JF1 at h;split at h
 ·rename_i z hz;split at h
  ·rename_i ha;refine Joj hd (x:=.box t z) rfl ?_ h;simp only[opR,run_bind,J0t hx,J06,Jhr (lns s.sto) hz ha,J6s,J21,if_true,JZ,J0E]
  ·cases h
 ·split at h
  ·rename_i cs hc;split at h
   ·rename_i hn;refine Joj hd (x:=.mbox t cs) rfl ?_ h;simp only[opR,run_bind,J0t hx,J06,Jhf (lns s.sto) hc,J6s,hn,if_true,JZ,J0E]
   ·cases h
  ·cases h
def Ja4:List (Nat×Ty)->Nat->TSt->TSt
 |[],_,s=>s
 |(_,t)::r,n,s=>Ja4 r (n+1) (wS n (.arr true t []) s)
def Jk7:List (Nat×Ty)->Nat->List TC->List TC
 |[],_,cs=>cs
 |(off,_)::r,n,cs=>Jk7 r (n+1) (cs.set off (.slr n))
def Ja0(os:List (Nat×Ty)):List (Nat×Nat):=os.map λx=>(x.1,x.2.sz)
theorem Jkn: ∀{os:List (Nat×Ty)} {new:Nat} {s:TSt},(∀j,j<os.length->s.sto[new+j]?=some .dead)->
  lns (Ja4 os new s).sto=lns s.sto/\Jy (Ja4 os new s)=⟨(Jy s).env,upd (J4X (Ja0 os) new) (Jy s).sto⟩/\(∀b,(∀j,j<os.length->b≠new+j)->(Ja4 os new s).sto[b]?=s.sto[b]?)
 |[],_,s,_=>⟨rfl,rfl,λ_ _=>rfl⟩
 |(off,t)::q,new,s,h=>by
  have hd:s.sto[new]?=some .dead:=h 0 (by simp);have hl:lnB (.arr true t [])=lns s.sto new:=(J9v hd).symm;have e:=JeJ hl;have ho: ∀c,c≠new->(wS new (.arr true t []) s).sto[c]?=s.sto[c]?:=λc hc=>by grind [wS]
  obtain⟨h1,h2,h3⟩:=Jkn (os:=q) (new:=new+1) (s:=wS new (.arr true t []) s) (λj hj=>by
   rw[ho _ (by omega)];have:=h (j+1) (by simp;omega)
   grind)
  refine⟨h1.trans e,?_,λb hb=>?_⟩
  ·simp only[Ja4];rw[h2,Jg0 hl];simp only[Ja0,J1n,J4X];rfl
  ·simp only[Ja4];rw[h3 b (λj hj=>by have:=hb (j+1) (by simp;omega);omega),ho b (by have:=hb 0 (by simp);omega)]
theorem JmB{L:Nat->Nat}: ∀{os:List (Nat×Ty)} {new:Nat} {cs:List TC},(∀j,j<os.length->L (new+j)=0)->(Jk7 os new cs).map (J0r L)=JaN (Ja0 os) new (cs.map (J0r L))
 |[],_,_,_=>rfl
 |(off,t)::q,new,cs,h=>by
  simp only[Jk7,Ja0,J1n,JaN];rw[JmB (os:=q) (new:=new+1) (λj hj=>by have:=h (j+1) (by simp;omega);grind),List.map_set];have:J0r L (.slr new)=.slr new 0 0:=by simp only[J0r];rw[show L new=0 from h 0 (by simp)]
  rw[this];rfl
def Jjy(t:Ty)(os:List (Nat×Ty))(d:Option Nat)(new:Nat)(s:TSt)(k:TSt->Option R):Option R:=k (J0J d (.a (.c (.ptr (new+os.length) []))) (wS (new+os.length) (.mbox t (Jk7 os new (zcs t))) (Ja4 os new s)))
theorem JxU(F:Orc){t:Ty}{os:List (Nat×Ty)}{d:Option Nat}{new:Nat}{s:TSt}{k:TSt->Option R}{r:R}(hd:J9l s new (os.length+1)=true)(h:Jjy t os d new s k=some r):
  Ok (opR F (.newboxo (cel t t.zero) (Ja0 os)) new) d s k r:=by
 unfold Jjy at h;generalize hc:zcs t=cs at h
 ·have g:=J7Z hd;obtain⟨h1,h2,h3⟩:=Jkn (os:=os) (new:=new) (s:=s) (λj hj=>g j (by omega));have hl:lnB (.mbox t (Jk7 os new cs))=lns (Ja4 os new s).sto (new+os.length):=by rw[h1,J9v (g os.length (by omega))];rfl
  have e:=JeJ hl;have el:(Ja0 os).length=os.length:=by simp[Ja0]
  refine⟨⟨J04 (lns (wS (new+os.length) (.mbox t (Jk7 os new cs)) (Ja4 os new s)).sto) (.a (.c (.ptr (new+os.length) []))),J4X (Ja0 os) new++[(new+os.length,.box (JaN (Ja0 os) new ((cel t t.zero).map .p)))]⟩,_,?_,J8V ?_ d _,h⟩
  ·simp only[opR,JZ,el];rfl
  ·rw[Jg0 hl,h2,J20];simp only[J0E];rw[JmB (λj hj=>by rw[h1];grind [J9v]),<-hc,JeL];rfl
def JmI(t:Ty)(parts:List (Nat×Ty×TO))(os:List (Nat×Ty))(d:Option Nat)(new:Nat)(s:TSt)(k:TSt->Option R):Option R:=
 match tpc parts s with
 |some l=>match Jmw l (Jk7 os new (zcs t))with
  |some cs'=>match mka true t cs' with
   |some v=>k (J0J d v (Ja4 os new s))
   |none=>none
  |none=>none
 |none=>none
theorem JzW(F:Orc){t:Ty}{parts:List (Nat×Ty×TO)}{os:List (Nat×Ty)}{d:Option Nat}{new:Nat}{s:TSt}{k:TSt->Option R}{r:R}(hd:J9l s new os.length=true)(h:JmI t parts os d new s k=some r):
  Ok (opR F (.buildo (cel t t.zero) (erP parts) (Ja0 os)) new) d s k r:=by
 unfold JmI at h;split at h
 ·rename_i l hl;have e:=J7Z hd;obtain⟨h1,h2,h3⟩:=Jkn (os:=os) (new:=new) (s:=s) (λj hj=>e j (by omega));split at h
  ·rename_i cs' hf;split at h
   ·rename_i v hv;refine⟨⟨J04 (lns (Ja4 os new s).sto) v,J4X (Ja0 os) new⟩,_,?_,J8V h2 d _,h⟩;have e1:=JmB (L:=lns s.sto) (os:=os) (new:=new) (cs:=zcs t) (λj hj=>J9v (e j (by omega)));rw[JeL]at e1;have e2:=Jjt (lns s.sto) hf
    grind [opR,run_bind,Jv6,JeX,JZ]
   ·cases h
  ·cases h
 ·cases h
def JD2(t:Ty)(d:Option Nat)(new:Nat)(s:TSt)(k:TSt->Option R):Option R:=k (J0J d (.a (.c (.slr new))) (wN new (.arr true t []) s))
theorem JC1(F:Orc){t:Ty}{x:Opd}{d:Option Nat}{new:Nat}{s:TSt}{k:TSt->Option R}{r:R}(hn:new<s.sto.length)(h:JD2 t d new s k=some r):Ok (opR F (.mkarr t.sz x) new) d s k r:=
 JkX (rows:=[]) hn rfl h
def tyB:Option TB->Ty
 |some (.box t _)=>t
 |some (.mbox t _)=>t
 |_=>.u
def Jny(t:Ty)(x:TV)(d:Option Nat)(new:Nat)(s:TSt)(k:TSt->Option R):Option R:=
 match x with
 | .a (.c (.ptr b p))=>match Jg4 p,(match s.sto[b]? with
   |some (.box t0 y)=>Jk4 t0 y
   |some (.mbox _ cs)=>some cs
   |_=>none)with
  |some off,some cs=>match spl cs off [.slr new]with
   |some cs'=>k (J0J d uv (wS b (.mbox (tyB s.sto[b]?) cs') (wS new (.arr true t []) s)))
   |none=>none
  |_,_=>none
 |_=>none
theorem JzV(F:Orc){t:Ty}{x:TO}{v:TV}{d:Option Nat}{new:Nat}{s:TSt}{k:TSt->Option R}{r:R}(hd:s.sto[new]?=some .dead)(hx:tev x s=some v)(h:Jny t v d new s k=some r):Ok (opR F (.storen t.sz (erO x)) new) d s k r:=by
 unfold Jny at h;split at h
 ·rename_i b p;split at h
  ·rename_i off cs ho hc;split at h
   ·rename_i cs' hs;have hl:lnB (.arr true t [])=lns s.sto new:=(J9v hd).symm;have j:b≠new/\lns s.sto b=0/\(Jy s).sto[b]?=some (.box (cs.map (J0r (lns s.sto)))):=by
     split at hc
     ·rename_i t0 y hb;refine⟨λe=>?_,JiJ hb,?_⟩
      ·simp_all
      ·rw[J1P,hb,Jfh _ hc];rfl
     ·rename_i t0 w hb;injection hc with hc;subst hc;refine⟨λe=>?_,Juk hb,?_⟩
      ·simp_all
      ·rw[J1P,hb];rfl
     ·cases hc
    obtain⟨q,n,hb⟩:=j;have e1:=JeJ hl;have g:lnB (.mbox (tyB s.sto[b]?) cs')=lns (wS new (.arr true t []) s).sto b:=by rw[e1,n];rfl
    refine⟨⟨J04 (lns (wS b (.mbox (tyB s.sto[b]?) cs') (wS new (.arr true t []) s)).sto) uv,(new,.arr true t.sz [])::[(b,.box (cs'.map (J0r (lns s.sto))))]⟩,_,?_,J8V ?_ d _,h⟩
    ·have e2:J0r (lns s.sto) (.slr new)=.slr new 0 0:=by grind [J0r,J9v]
     have o:spl (cs.map (J0r (lns s.sto))) (spo p) [.slr new 0 0]=some (cs'.map (J0r (lns s.sto))):=by rw[<-e2,Jfd ho];have:=JaP (J0r (lns s.sto)) cs off [TC.slr new];simp_all
     simp only[opR,run_bind,J0t hx,J06,J6P,J3X,J1F,hb,cellsOf,JBg,List.length_nil,Jeo,if_true,o,JZ];rfl
    ·rw[Jg0 g,Jg0 hl,e1];rfl
   ·cases h
  ·cases h
 ·cases h
def JAS(c:Bool)(a b:Option TV)(kk:TV->Option R):Option R:=
 match a,b with
 |some (.a (.c (.d t x))),some (.a (.c (.d t' y)))=>if h:t'=t then kk (.a (.c (.d t (JKl c x (h▸y)))))else none
 |some x,some y=>if c=true then kk x else kk y
 |some x,none=>if c=true then kk x else none
 |none,some y=>if c=true then none else kk y
 |none,none=>none
theorem JFu(F:Orc){c a b:TO}{x:Bool}{d:Option Nat}{new:Nat}{s:TSt}{k:TSt->Option R}{r:R}(hc:tev c s=some (vb x))(h:JAS x (tev a s) (tev b s) (λv=>k (J0J d v s))=some r):Ok (opR F (.pick (erO c) (erO a) (erO b)) new) d s k r:=by
 have e: ∃v,(if x=true then tev a s else tev b s)=some v/\k (J0J d v s)=some r:=by
  unfold JAS at h;split at h
  ·rename_i t y t' z ha hb;split at h
   ·rename_i g;subst g;refine⟨_,?_,h⟩;rw[ha,hb];cases x<;>rfl
   ·cases h
  all_goals grind
 obtain⟨v,h1,h2⟩:=e;refine J28 (v:=v) ?_ h2;simp only[opR,run_bind,J0t hc,J06,e_b]
 grind [run_bind,J0t,JZ]
def tcl:List TO->TSt->Option (List TC)
 |[],_=>some []
 |o::r,s=>match tev o s with
  |some (.a (.c x))=>match tcl r s with
   |some l=>some (x::l)
   |none=>none
  |_=>none
theorem JCi{s:TSt}: ∀{xs:List TO} {l:List TC},tcl xs s=some l->(evs (xs.map erO)).run (Jy s)=some (l.map (J0r (lns s.sto)))
 |[],l,h=>by injection h with h;subst h;rfl
 |o::q,l,h=>by
  simp only[tcl]at h;split at h
  ·rename_i x hx;split at h
   ·rename_i l' hl;injection h with h;subst h;simp only[J1n,evs,run_bind,J0t hx,J06,JCi hl,JZ];rfl
   ·cases h
  ·cases h
def JEj(x:TV)(kk:TV->Option R):Option R:=
 match x with
 | .a (.c (.ptr b p))=>kk (.a (.c (.ptr b p)))
 | .a (.c (.cp t y p))=>kk (.a (.c (.cp t y p)))
 | .a (.c (.ep b i p))=>kk (.a (.c (.ep b i p)))
 | .a (.fn f a c)=>kk (.a (.fn f a c))
 | .a (.c (.fn f))=>kk (.a (.c (.fn f)))
 |_=>none
theorem JGj(F:Orc){x:TO}{v:TV}{d:Option Nat}{new:Nat}{s:TSt}{k:TSt->Option R}{r:R}(hx:tev x s=some v)(h:JEj v (λv=>k (J0J d v s))=some r):Ok (opR F (.nilchk (erO x)) new) d s k r:=by
 unfold JEj at h;split at h<;>first
  |(refine J28 (v:=_) ?_ h
    simp only[opR,run_bind,J0t hx,J06,J6P,JaF,JaQ,JEb,JHy,JZ];done)
  |cases h
end
end Go.Am
end
section
namespace Go.Am
section
variable {R:Type}
def JF3(keep:Bool)(v:TV)(s:TSt)(kk:TA->TSt->Option R):Option R:=
 match v with
 | .a x=>if keep=true then kk x s else
  match x with
  | .c (.slr b)=>match s.sto[b]? with
   |some (.arr _ t' rows)=>kk (.c (.d (.l t') rows)) (wS b (.arr false t' rows) s)
   |_=>none
  | .c (.slo _ _)=>none
  | .m t cs=>fzC t cs s λx s'=>kk (.dt t x) s'
  |x=>kk x s
 | .tup _=>none
def Jmj:List (TV×Bool)->TSt->(List TA->TSt->Option R)->Option R
 |[],s,kk=>kk [] s
 |(v,keep)::r,s,kk=>JF3 keep v s λx s=>Jmj r s λl s=>kk (x::l) s
theorem JGX{keep:Bool}{v:TV}{s0 s:TSt}{w0:List (Nat×Blk)}{kk:TA->TSt->Option R}{r:R}(f:Fzd s0 s w0)(h:JF3 keep v s kk=some r):
  ∃x s' ws,(if keep=true then RM.ret (J04 (lns s0.sto) v,[])else J8P (J04 (lns s0.sto) v)).run (Jy s0)=some (J1r (lns s0.sto) x,ws)/\Fzd s0 s' (w0++ws)/\kk x s'=some r:=by
 unfold JF3 at h;split at h
 ·rename_i x;split at h
  ·rename_i hk;subst hk;exact⟨x,s,[],rfl,by simp_all,h⟩
  ·rename_i hk;have:keep=false:=by simpa using hk
   subst this;simp only[J8E,if_false];split at h
   ·rename_i b;split at h
    ·rename_i w t' rows hb;obtain⟨w',e⟩:=f.2.2.2.1 b _ rows w hb;refine⟨_,_,[(b,.arr false t'.sz (rows.map (cel t')))],?_,f.trans (Jox hb),h⟩;simp only[J4W,J8P,fz,run_bind,J1F,J1P,e,J3l,J06,J0E,J5Q e,J6s,Jeo,if_true,Jvr,JZ];rfl
    ·cases h
   ·cases h
   ·obtain⟨y,s',ws,h1,h2,h3⟩:=Jh2 f h;refine⟨_,s',ws,?_,h2,h3⟩;simp only[e_m,J8P,fz,run_bind,h1,J06,JZ];rfl
   ·rename_i j k g;refine⟨x,s,[],?_,by simp_all,h⟩;cases x with
    |c x=>
     cases x with
     |slr b=>simp_all
     |slo b n=>simp_all
     |_=>rfl
    |m t cs=>simp_all
    |_=>rfl
 ·cases h
theorem Jkg: ∀{vs:List (TV×Bool)} {s0 s:TSt} {w0:List (Nat×Blk)} {kk:List TA->TSt->Option R} {r:R},Fzd s0 s w0->Jmj vs s kk=some r->
  ∃xs s' ws,(J3K (vs.map (·.2)) (vs.map λx=>J04 (lns s0.sto) x.1)).run (Jy s0)=some (xs.map (J1r (lns s0.sto)),ws)/\Fzd s0 s' (w0++ws)/\kk xs s'=some r
 |[],s0,s,w0,kk,r,f,h=>⟨[],s,[],rfl,by simp_all,h⟩
 |(v,keep)::q,s0,s,w0,kk,r,f,h=>by simp only[Jmj]at h;obtain⟨x,s1,w1,h1,e,h⟩:=JGX f h;obtain⟨xs,g,w2,h2,j,h⟩:=Jkg e h;refine⟨x::xs,g,w1++w2,?_,by simp_all,h⟩;cases keep<;>simp_all [J3K]
theorem JbU: ∀(vs:List AV),J3K [] vs=J78 vs
 |[]=>rfl
 |x::r=>by simp only[J3K,J78,JbU r]
theorem J8R: ∀(m:List Bool) (vs:List AV),(∀x∈m,x=false)->J3K m vs=J78 vs
 |[],vs,_=>JbU vs
 |b::m,[],_=>rfl
 |b::m,x::r,h=>by have:b=false:=h b (by simp);subst this;simp only[J3K,J78,J8R m r (λx hx=>h x (by simp[hx]))]
def Jue(b:Nat)(l:List Nat):List Nat:=if l.any (λx=>x==b)=true then l else l++[b]
def JsF(x:TC)(l:List Nat):Option (List Nat):=
 match x with
 | .ptr b _=>some (Jue b l)
 | .slr b=>some (Jue b l)
 | .slo b _=>some (Jue b l)
 | .ep _ _ _=>none
 | .epo _ _ _ _=>none
 |_=>some l
def Jef:List TC->List Nat->Option (List Nat)
 |[],l=>some l
 |x::r,l=>match JsF x l with
  |some l=>Jef r l
  |none=>none
def JzQ(x:TA)(l:List Nat):Option (List Nat):=
 match x with
 | .c x=>JsF x l
 | .dt _ _=>some l
 | .m _ cs=>Jef cs l
 | .fn _ a c=>match Jef a l with
  |some l=>Jef c l
  |none=>none
def Jf2:List TA->List Nat->Option (List Nat)
 |[],l=>some l
 |x::r,l=>match JzQ x l with
  |some l=>Jf2 r l
  |none=>none
def JdC(s:TSt):List Nat->List Nat->Option (List Nat)
 |[],acc=>some acc
 |b::r,acc=>match s.sto[b]? with
  |some (.mbox _ cs)=>match Jef cs acc with
   |some acc=>JdC s r acc
   |none=>none
  |some _=>JdC s r acc
  |none=>none
theorem JwK(b:Nat)(l:List Nat):Jbg (.whole b) (l.map .whole)=(Jue b l).map .whole:=by
 grind [Jbg,Jue]
section
variable (L:Nat->Nat)
theorem JsS{x:TC}{l l':List Nat}(h:JsF x l=some l'):J0Z (J0r L x) (l.map .whole)=l'.map .whole:=by
 unfold JsF at h;split at h<;>first
  |(injection h with h;subst h;simp only[J0r,J0Z,JwK];done)
  |(cases h;done)
  |skip
 injection h with h;subst h;rename_i j k o q g;cases x with
 |ptr b p=>simp_all
 |slr b=>simp_all
 |slo b n=>simp_all
 |ep b i p=>simp_all
 |epo b e i p=>grind
 |_=>rfl
theorem JcJ: ∀{xs:List TC} {l l':List Nat},Jef xs l=some l'->J0Z.entsOfL (xs.map (J0r L)) (l.map .whole)=l'.map .whole
 |[],l,l',h=>by injection h with h;subst h;rfl
 |x::r,l,l',h=>by
  simp only[Jef]at h;split at h
  ·rename_i e h1;simp only[J1n,J0Z.entsOfL,JsS L h1];exact JcJ h
  ·cases h
theorem JET{x:TA}{l l':List Nat}(h:JzQ x l=some l'):J0Z (J1r L x) (l.map .whole)=l'.map .whole:=by
 cases x with
 |c x=>exact JsS L h
 |dt t x=>injection h with h;subst h;rfl
 |m t cs=>exact JcJ L h
 |fn f a c=>
  simp only[JzQ]at h;split at h
  all_goals simp_all [J1r,JcJ]
theorem Jdv: ∀{xs:List TA} {l l':List Nat},Jf2 xs l=some l'->J0Z.entsOfL (xs.map (J1r L)) (l.map .whole)=l'.map .whole
 |[],l,l',h=>by injection h with h;subst h;rfl
 |x::r,l,l',h=>by
  simp only[Jf2]at h;split at h
  ·rename_i e h1;simp only[J1n,J0Z.entsOfL,JET L h1];exact Jdv h
  ·cases h
end
theorem JjD{s0 s1:TSt}{ws:List (Nat×Blk)}(f:Fzd s0 s1 ws){b:Nat}{y:TB}(h:s1.sto[b]?=some y):(Jek ws b).run (Jy s0)=some (J0E (lns s0.sto) y):=by
 have h1:(Jy s1).sto[b]?=some (J0E (lns s0.sto) y):=by rw[J1P,h,f.2.1];rfl
 rw[f.2.2.1]at h1
 grind [JaT,J9E,Jek,J1F,JZ]
theorem J9p{s0 s1:TSt}{ws:List (Nat×Blk)}(f:Fzd s0 s1 ws): ∀{r acc l:List Nat},JdC s1 r acc=some l->(J47 ws (r.map .whole) (acc.map .whole)).run (Jy s0)=some (l.map .whole)
 |[],acc,l,h=>by injection h with h;subst h;rfl
 |b::r,acc,l,h=>by
  simp only[JdC]at h;split at h
  ·rename_i cs hb;split at h
   ·rename_i e ha;simp only[J1n,J47,run_bind,JjD f hb,J06,J0E,JcJ (lns s0.sto) ha];exact J9p f h
   ·cases h
  ·rename_i x hn hb;simp only[J1n,J47,run_bind,JjD f hb,J06];cases x with
   |mbox t cs=>simp_all
   |box t x=>simp only[J0E];rw[Jpm];exact J9p f h
   |_=>exact J9p f h
  ·cases h
end
end Go.Am
end
section
namespace Go.Am
def kCs(K:List Nat)(L:Nat->Nat):TC->TC
 | .slr c=>if K.any (λx=>x==c)=true then .slo c (L c)else .slr c
 | .ep c i p=>if K.any (λx=>x==c)=true then .epo c (L c) i p else .ep c i p
 |x=>x
def kAs(K:List Nat)(L:Nat->Nat):TA->TA
 | .c x=>.c (kCs K L x)
 | .dt t x=>.dt t x
 | .m t cs=>.m t (cs.map (kCs K L))
 | .fn f a c=>.fn f (a.map (kCs K L)) (c.map (kCs K L))
def kVs(K:List Nat)(L:Nat->Nat):TV->TV
 | .a x=>.a (kAs K L x)
 | .tup vs=>.tup (vs.map (kAs K L))
def kBs(K:List Nat)(L:Nat->Nat):TB->TB
 | .mbox t cs=>.mbox t (cs.map (kCs K L))
 |x=>x
section
variable {K:List Nat} {L L':Nat->Nat} (h: ∀c,K.any (λx=>x==c)=false->L' c=L c)
include h
theorem JIq(x:TC):J0r L' (kCs K L x)=J0r L x:=by cases x<;>grind [kCs,J0r]
theorem JG1(xs:List TC):(xs.map (kCs K L)).map (J0r L')=xs.map (J0r L):=by
 grind [List.map_congr_left,JIq]
theorem JKt(x:TA):J1r L' (kAs K L x)=J1r L x:=by cases x<;>simp only[kAs,J1r,JIq h,JG1 h]
theorem JKB(x:TV):J04 L' (kVs K L x)=J04 L x:=by cases x<;>simp only[kVs,J04,JKt h,JnN,Function.comp_def]
theorem JKo(x:TB):J0E L' (kBs K L x)=J0E L x:=by cases x<;>simp only[kBs,J0E,JG1 h]
end
theorem JHc(K:List Nat)(L:Nat->Nat)(x:TB):lnB (kBs K L x)=lnB x:=by cases x<;>rfl
theorem JGW(sto:List TB)(K:List Nat)(L:Nat->Nat)(c:Nat):lns (sto.map (kBs K L)) c=lns sto c:=by
 unfold lns;rw[J6X];cases sto[c]? with
 |none=>rfl
 |some x=>exact JHc K L x
def Jih(ws:List (Nat×Bool×TB))(sto:List TB):List TB:=ws.foldl (λσ x=>σ.set x.1 x.2.2) sto
def Jbq(ws:List (Nat×Bool×TB))(s:TSt):TSt:=
 match ws with
 |[]=>s
 |ws=>
  let K:=(ws.filter λx=> !x.2.1).map (·.1)
  ⟨s.env.map λy=>(y.1,kVs K (lns s.sto) y.2),Jih ws (s.sto.map (kBs K (lns s.sto)))⟩
theorem Jjq: ∀{ws:List (Nat×Bool×TB)} {sto:List TB} {c:Nat},c∉ws.map (·.1)->(Jih ws sto)[c]?=sto[c]?
 |[],_,_,_=>rfl
 |x::ws,sto,c,h=>by simp only[J1n,J2U,not_or]at h;show(Jih ws (sto.set x.1 x.2.2))[c]?=_;rw[Jjq h.2,Jwu (λe=>h.1 e.symm)]
theorem Jzg: ∀{ws:List (Nat×Bool×TB)} {sto:List TB},(ws.map (·.1)).Nodup-> ∀x∈ws,x.1<sto.length->(Jih ws sto)[x.1]?=some x.2.2
 |[],_,_,x,hx,_=>by cases hx
 |y::ws,sto,hn,x,hx,hl=>by
  simp only[J1n,List.nodup_cons]at hn;show(Jih ws (sto.set y.1 y.2.2))[x.1]?=_;rcases J2U.1 hx with rfl|hx
  ·grind [Jjq]
  ·exact Jzg hn.2 x hx (by simpa using hl)
theorem Ju3(f:TB->Blk): ∀(ws:List (Nat×Bool×TB)) (sto:List TB),(Jih ws sto).map f=upd (ws.map λx=>(x.1,f x.2.2)) (sto.map f)
 |[],_=>rfl
 |x::ws,sto=>by show(Jih ws (sto.set x.1 x.2.2)).map f=upd (ws.map λx=>(x.1,f x.2.2)) ((sto.map f).set x.1 (f x.2.2));rw[Ju3 f ws,List.map_set]
theorem JHf{ws:List (Nat×Bool×TB)}{s:TSt}(hn:(ws.map (·.1)).Nodup)(hl: ∀x∈ws,x.1<s.sto.length)(hf: ∀x∈ws,x.2.1=true->lnB x.2.2=lns s.sto x.1):
  Jy (Jbq ws s)=⟨(Jy s).env,upd (ws.map λx=>(x.1,J0E (lns (Jbq ws s).sto) x.2.2)) (Jy s).sto⟩/\ ∀x∈ws,lns (Jbq ws s).sto x.1=lnB x.2.2:=by
 cases ws with
 |nil=>exact⟨rfl,λx hx=>by cases hx⟩
 |cons h ws0=>
  generalize hw:h::ws0=ws at*;have e:Jbq ws s=⟨s.env.map λy=>(y.1,kVs ((ws.filter λx=> !x.2.1).map (·.1)) (lns s.sto) y.2),Jih ws (s.sto.map (kBs ((ws.filter λx=> !x.2.1).map (·.1)) (lns s.sto)))⟩:=by subst hw;rfl
  have g: ∀x∈ws,lns (Jbq ws s).sto x.1=lnB x.2.2:=λx hx=>by rw[e];unfold lns;rw[Jzg hn x hx (by grind)];rfl
  have hk: ∀c,((ws.filter λx=> !x.2.1).map (·.1)).any (λx=>x==c)=false->lns (Jbq ws s).sto c=lns s.sto c:=by
   intro c hc;by_cases hm:c∈ws.map (·.1)
   ·obtain⟨x,hx,rfl⟩:=J9s.1 hm
    grind
   ·rw[e];have:=JGW s.sto ((ws.filter λx=> !x.2.1).map (·.1)) (lns s.sto) c
    grind [lns,Jjq]
  refine⟨?_,g⟩;generalize hL:lns (Jbq ws s).sto=L' at*;unfold Jy;rw[hL,e]
  grind [J5J,List.map_congr_left,JKB,Ju3,JKo]
theorem Jzj(b:Nat): ∀(ids:List Nat) (k:Nat),J2h (.whole b) (ids.map .whole) k=J4N b ids k
 |[],_=>rfl
 |x::r,k=>by
  simp only[J1n,J2h,J4N];by_cases h:x=b
  ·subst h;simp
  ·simp[h,Jzj b r (k+1)]
def Jsz(ids:List Nat):TC->Option TC
 | .ptr b p=>(J4N b ids 0).bind λk=>some (.ptr k p)
 | .slr b=>(J4N b ids 0).bind λk=>some (.slr k)
 | .slo b n=>(J4N b ids 0).bind λk=>some (.slo k n)
 | .ep _ _ _=>none
 | .epo _ _ _ _=>none
 |x=>some x
def Jg6(ids:List Nat):List TC->Option (List TC)
 |[]=>some []
 |x::r=>match Jsz ids x,Jg6 ids r with
  |some y,some l=>some (y::l)
  |_,_=>none
def Jlj(ids:List Nat):TA->Option TA
 | .c x=>match Jsz ids x with
  |some y=>some (.c y)
  |none=>none
 | .dt t x=>some (.dt t x)
 | .m t cs=>match Jg6 ids cs with
  |some l=>some (.m t l)
  |none=>none
 | .fn f a c=>match Jg6 ids a,Jg6 ids c with
  |some a,some c=>some (.fn f a c)
  |_,_=>none
def Jly(ids:List Nat):List TA->Option (List TA)
 |[]=>some []
 |x::r=>match Jlj ids x,Jly ids r with
  |some y,some l=>some (y::l)
  |_,_=>none
def Jw3(ids:List Nat):TB->Option TB
 | .box t x=>some (.box t x)
 | .mbox t cs=>match Jg6 ids cs with
  |some l=>some (.mbox t l)
  |none=>none
 | .arr w t rows=>some (.arr w t rows)
 | .dead=>none
def J9A(ids:List Nat)(s:TSt):List Nat->Option (List TB)
 |[]=>some []
 |b::r=>match s.sto[b]? with
  |some x=>match Jw3 ids x,J9A ids s r with
   |some y,some l=>some (y::l)
   |_,_=>none
  |none=>none
section
variable {ids:List Nat} {L L':Nat->Nat} (hL: ∀b k,J4N b ids 0=some k->L' k=L b)
include hL
theorem Jv9{x y:TC}(h:Jsz ids x=some y):ren (λe=>J2h e (ids.map .whole) 0) (J0r L x)=some (J0r L' y):=by
 cases x<;>simp only[Jsz]at h<;>first
  |(obtain⟨k,hk,h⟩:=J2H.1 h
    injection h with h;subst h;simp only[J0r,ren,Jzj,hk,J3l]
    try rw[hL _ _ hk]
    done)
  |(injection h with h;subst h;rfl)
  |cases h
theorem JfM: ∀{xs g:List TC},Jg6 ids xs=some g->ren.renL (λe=>J2h e (ids.map .whole) 0) (xs.map (J0r L))=some (g.map (J0r L'))
 |[],g,h=>by injection h with h;subst h;rfl
 |x::r,g,h=>by
  simp only[Jg6]at h;split at h
  ·rename_i y l hy hl;injection h with h;subst h;simp only[J1n,ren.renL,Jv9 hL hy,JfM hl]
  ·cases h
theorem JEE{x y:TA}(h:Jlj ids x=some y):ren (λe=>J2h e (ids.map .whole) 0) (J1r L x)=some (J1r L' y):=by
 cases x with
 |c x=>
  simp only[Jlj]at h;split at h
  ·rename_i y hy;injection h with h;subst h;exact Jv9 hL hy
  ·cases h
 |dt t x=>injection h with h;subst h;rfl
 |m t cs=>
  grind [Jlj,J1r,ren,JfM]
 |fn f a c=>
  grind [Jlj,J1r,ren,JfM]
theorem JpA: ∀{xs g:List TA},Jly ids xs=some g->ren.renL (λe=>J2h e (ids.map .whole) 0) (xs.map (J1r L))=some (g.map (J1r L'))
 |[],g,h=>by injection h with h;subst h;rfl
 |x::r,g,h=>by
  simp only[Jly]at h;split at h
  ·rename_i y l hy hl;injection h with h;subst h;simp only[J1n,ren.renL,JEE hL hy,JpA hl]
  ·cases h
theorem Jln{s0 s1:TSt}{ws:List (Nat×Blk)}(f:Fzd s0 s1 ws)(g:lns s0.sto=L): ∀{j:List Nat} {bl:List TB},J9A ids s1 j=some bl->
  (J5j ws (λe=>J2h e (ids.map .whole) 0) (j.map .whole)).run (Jy s0)=some (bl.map (J0E L'))
 |[],bl,h=>by injection h with h;subst h;rfl
 |b::r,bl,h=>by
  simp only[J9A]at h;split at h
  ·rename_i x hb;split at h
   ·rename_i y l hy hl;injection h with h;subst h;have ih:=Jln f g hl;have k:=JjD f hb;rw[g]at k;simp only[J1n,J5j,Jga,run_bind,k,J06];cases x with
    |dead=>cases hy
    |box t x=>injection hy with hy;grind [JpD,J8m,J0E,JZ]
    |mbox t cs=>
     grind [Jw3,J0E,JfM,JZ]
    |arr w t rows=>injection hy with hy;grind [J0E,JZ]
   ·cases h
  ·cases h
end
theorem Jjf{ids:List Nat}{s:TSt}: ∀{e:List Nat} {bl:List TB},J9A ids s e=some bl->bl.length=e.length/\ ∀(k b:Nat),e[k]?=some b->lns bl k=lns s.sto b
 |[],bl,h=>by injection h with h;simp_all
 |b::r,bl,h=>by
  simp only[J9A]at h;split at h
  ·rename_i x hb;split at h
   ·rename_i y l hy hl;injection h with h;subst h;obtain⟨h1,h2⟩:=Jjf hl;refine⟨by simp[h1],λk c hk=>?_⟩;cases k with
    |zero=>
     simp at hk;subst hk;unfold lns;rw[hb];show lnB y=lnB x;cases x with
     |dead=>cases hy
     |box t x=>injection hy with hy;subst hy;rfl
     |mbox t cs=>
      simp only[Jw3]at hy;split at hy
      ·injection hy with hy;subst hy;rfl
      ·cases hy
     |arr w t rows=>injection hy with hy;subst hy;rfl
    |succ k=>
     grind [lns]
   ·cases h
  ·cases h
def J5u(ids:List Nat)(new m k:Nat):Option Nat:=if k<ids.length then ids[k]? else if k<m then some (new+(k-ids.length))else none
def JAH(ids:List Nat)(new m:Nat):TC->Option TC
 | .ptr k p=>(J5u ids new m k).bind λb=>some (.ptr b p)
 | .slr k=>(J5u ids new m k).bind λb=>some (.slr b)
 | .slo k n=>(J5u ids new m k).bind λb=>some (.slo b n)
 | .ep k i p=>(J5u ids new m k).bind λb=>some (.ep b i p)
 | .epo k e i p=>(J5u ids new m k).bind λb=>some (.epo b e i p)
 |x=>some x
def JjQ(ids:List Nat)(new m:Nat):List TC->Option (List TC)
 |[]=>some []
 |x::r=>match JAH ids new m x,JjQ ids new m r with
  |some y,some l=>some (y::l)
  |_,_=>none
def JzH(ids:List Nat)(new m:Nat):TA->Option TA
 | .c x=>match JAH ids new m x with
  |some y=>some (.c y)
  |none=>none
 | .dt t x=>some (.dt t x)
 | .m t cs=>match JjQ ids new m cs with
  |some l=>some (.m t l)
  |none=>none
 | .fn f a c=>match JjQ ids new m a,JjQ ids new m c with
  |some a,some c=>some (.fn f a c)
  |_,_=>none
def Jsr(ids:List Nat)(new m:Nat):List TA->Option (List TA)
 |[]=>some []
 |x::r=>match JzH ids new m x,Jsr ids new m r with
  |some y,some l=>some (y::l)
  |_,_=>none
def JEq(ids:List Nat)(new m:Nat):TV->Option TV
 | .a x=>match JzH ids new m x with
  |some y=>some (.a y)
  |none=>none
 | .tup vs=>match Jsr ids new m vs with
  |some l=>some (.tup l)
  |none=>none
def JjZ(ids:List Nat)(new m:Nat):TB->Option TB
 | .box t x=>some (.box t x)
 | .mbox t cs=>match JjQ ids new m cs with
  |some l=>some (.mbox t l)
  |none=>none
 | .arr w t rows=>some (.arr w t rows)
 | .dead=>none
section
variable {ids:List Nat} {new m:Nat} {L Lp:Nat->Nat} (hL: ∀k b,J5u ids new m k=some b->Lp b=L k)
theorem JJc{k b o:Nat}(h:J5u ids new m k=some b):bk (ids.map .whole) new (.ptr k o)=some (.ptr b o):=by
 grind [J5u,bk]
theorem JID{k b i n:Nat}(h:J5u ids new m k=some b):bk (ids.map .whole) new (.slr k i n)=some (.slr b i n):=by
 grind [J5u,bk]
theorem JJs{k b e i o:Nat}(h:J5u ids new m k=some b):bk (ids.map .whole) new (.ep k e i o)=some (.ep b e i o):=by
 grind [J5u,bk]
include hL
theorem Jz5{x y:TC}(h:JAH ids new m x=some y):bk (ids.map .whole) new (J0r L x)=some (J0r Lp y):=by
 cases x<;>simp only[JAH]at h<;>first
  |(obtain⟨b,hb,h⟩:=J2H.1 h
    injection h with h;subst h;simp only[J0r,JJc hb,JID hb,JJs hb,hL _ _ hb]
    done)
  |(injection h with h;subst h;rfl)
theorem Jiv: ∀{xs e:List TC},JjQ ids new m xs=some e->bk.bkL (ids.map .whole) new (xs.map (J0r L))=some (e.map (J0r Lp))
 |[],e,h=>by injection h with h;subst h;rfl
 |x::r,e,h=>by
  simp only[JjQ]at h;split at h
  ·rename_i y l hy hl;injection h with h;subst h;simp only[J1n,bk.bkL,Jz5 hL hy,Jiv hl]
  ·cases h
theorem Jyo{x y:TA}(h:JzH ids new m x=some y):bk (ids.map .whole) new (J1r L x)=some (J1r Lp y):=by cases x<;>grind [JzH,Jz5,J1r,bk,Jiv]
theorem JvN: ∀{xs e:List TA},Jsr ids new m xs=some e->bk.bkL (ids.map .whole) new (xs.map (J1r L))=some (e.map (J1r Lp))
 |[],e,h=>by injection h with h;subst h;rfl
 |x::r,e,h=>by
  simp only[Jsr]at h;split at h
  ·rename_i y l hy hl;injection h with h;subst h;simp only[J1n,bk.bkL,Jyo hL hy,JvN hl]
  ·cases h
theorem JGc{x y:TV}(h:JEq ids new m x=some y):bk (ids.map .whole) new (J04 L x)=some (J04 Lp y):=by cases x<;>grind [JEq,Jyo,J04,bk,JvN]
end
end Go.Am
end
section
namespace Go.Am
structure TG where
 go: ∀{R:Type},FuncId->List TA->List TB->(TV->List (Bool×TB)->Option R)->Option R
def Jez(out:List (Bool×TB)):Nat->Nat:=lns (out.map (·.2))
structure GOk(F:Orc)(G:TG):Prop where
 ok: ∀{R:Type} {f:FuncId} {xs:List TA} {bl:List TB} {kk:TV->List (Bool×TB)->Option R} {r:R},G.go f xs bl kk=some r->
  ∃v out,F f (xs.map (J1r (lns bl))) (bl.map (J0E (lns bl)))=some (J04 (Jez out) v,out.map λx=>J0E (Jez out) x.2)/\
   (∀(k:Nat) x,out[k]?=some (true,x)->k<bl.length->lnB x=lns bl k)/\kk v out=some r
def Jag(ids:List Nat)(new m:Nat):Nat->List (Bool×TB)->Option (List (Nat×Bool×TB))
 |_,[]=>some []
 |k,(s,x)::r=>match J5u ids new m k,JjZ ids new m x,Jag ids new m (k+1) r with
  |some b,some y,some l=>some ((b,s&&decide (k<ids.length),y)::l)
  |_,_,_=>none
section
variable {R:Type}
def JBG(e:Bool)(a b n:Nat):Bool:=if e=true then decide (a<=b/\b<=a+n)else decide (b=a+n)
theorem JCp{e:Bool}{a b n:Nat}(h:JBG e a b n=true):(if e=true then a<=b/\b<=a+n else b=a+n)/\a<=b/\b<=a+n:=by
 grind [JBG]
def JiP(G:TG)(f:FuncId)(args:List (TV×Bool))(e:Bool)(n:Nat)(d:Option Nat)(new:Nat)(s:TSt)(kk:TSt->Option R):Option R:=
 Jmj args s λxs s1=>
 match Jf2 xs []with
 |none=>none
 |some g=>match JdC s1 g g with
  |none=>none
  |some h=>match JdC s1 h h with
   |none=>none
   |some ids=>if J4T ids=true then
    match Jly ids xs,J9A ids s1 ids with
    |some k,some bl=>G.go f k bl λv out=>
     if JBG e ids.length out.length n=true then
      match JEq ids new out.length v,Jag ids new out.length 0 out with
      |some j,some ws=>if J4T (ws.map (·.1))=true then kk (J0J d j (Jbq ws s1))else none
      |_,_=>none
     else none
    |_,_=>none
    else none
theorem JwR{ids:List Nat}{new m:Nat}{x y:TB}(h:JjZ ids new m x=some y):lnB y=lnB x:=by
 cases x with
 |dead=>cases h
 |box t x=>injection h with h;subst h;rfl
 |mbox t cs=>
  simp only[JjZ]at h;split at h
  ·injection h with h;subst h;rfl
  ·cases h
 |arr w t rows=>injection h with h;subst h;rfl
theorem JsQ{ids:List Nat}{new m:Nat}: ∀{k:Nat} {out:List (Bool×TB)} {ws:List (Nat×Bool×TB)},Jag ids new m k out=some ws->
  ws.length=out.length/\ ∀(j:Nat) s x,out[j]?=some (s,x)-> ∃b y,J5u ids new m (k+j)=some b/\JjZ ids new m x=some y/\ws[j]?=some (b,s&&decide (k+j<ids.length),y)
 |k,[],ws,h=>by injection h with h;simp_all
 |k,(s,x)::r,ws,h=>by
  simp only[Jag]at h;split at h
  ·rename_i b y l hb hy hl;injection h with h;subst h;obtain⟨h1,h2⟩:=JsQ hl;refine⟨by simp[h1],λj s' e hj=>?_⟩;cases j<;>grind
  ·cases h
theorem JFt{l:List Nat}(h:J4T l=true):l.Nodup:=JbY h
theorem Jy9{ids:List Nat}(h:J4T ids=true):J4T ((ids.map Ent.whole).map Ent.id)=true:=by rw[JnN,show Ent.id∘Ent.whole=id from rfl,List.map_id];exact h
theorem JtR{ids:List Nat}{new m:Nat}{L Lp:Nat->Nat}(hL: ∀k b,J5u ids new m k=some b->Lp b=L k){ws0:List (Nat×Blk)}{st:St}: ∀{j:Nat} {es:List Nat} {out:List (Bool×TB)} {ws:List (Nat×Bool×TB)},
  (∀(i:Nat) b,es[i]?=some b->ids[j+i]?=some b)->j+es.length=ids.length->es.length<=out.length->Jag ids new m j out=some ws->
  (J3x ws0 (ids.map .whole) new (es.map .whole) (out.map λx=>J0E L x.2)).run st=some ((ws.take es.length).map λx=>(x.1,J0E Lp x.2.2))
 |j,[],out,ws,_,_,_,h=>by simp[J3x]
 |j,b::es,[],ws,_,_,hl,h=>by simp at hl
 |j,b::es,(s,x)::out,ws,he,hj,hl,h=>by
  simp only[Jag]at h;split at h
  ·rename_i e y l hb hy n;injection h with h;subst h;have ih:=JtR hL (ws0:=ws0) (st:=st) (j:=j+1) (es:=es) (out:=out) (ws:=l) (λi c hc=>by
    have:=he (i+1) c (by simpa using hc)
    grind) (by grind) (by simpa using hl) n
   have g:e=b:=by
    have q:=he 0 b (by simp)
    grind [J5u]
   subst g;simp only[J1n,J3x,run_bind];have o:(Ja1 ws0 (ids.map .whole) new (.whole e) (J0E L x)).run st=some (e,J0E Lp y):=by cases x<;>grind [Jf7,Ja1,Jhv,J8m,JZ,JjZ,Jfc,Jiv,JvH]
   simp_all
  ·cases h
theorem Jv2{ids:List Nat}{new m:Nat}{L Lp:Nat->Nat}(hL: ∀k b,J5u ids new m k=some b->Lp b=L k): ∀{j:Nat} {out:List (Bool×TB)} {ws:List (Nat×Bool×TB)},
  Jag ids new m (ids.length+j) out=some ws->J34 (ids.map .whole) new (new+j) (out.map λx=>J0E L x.2)=some (ws.map λx=>(x.1,J0E Lp x.2.2))
 |j,[],ws,h=>by injection h with h;subst h;rfl
 |j,(s,x)::out,ws,h=>by
  simp only[Jag]at h;split at h
  ·rename_i n y l hb hy g;injection h with h;subst h;have ih:=Jv2 hL (j:=j+1) g;have e:n=new+j:=by
    grind [J5u]
   subst e;cases x with
   |dead=>cases hy
   |box t x=>injection hy with hy;grind [Jf7,J34,Jhv,J8m]
   |mbox t cs=>
    grind [JjZ,Jfc,J34,Jiv]
   |arr w t rows=>injection hy with hy;grind [JvH,J34]
  ·cases h
theorem JkN{ids:List Nat}{new m:Nat}: ∀{n k:Nat} {out:List (Bool×TB)} {ws:List (Nat×Bool×TB)},Jag ids new m k out=some ws->Jag ids new m (k+n) (out.drop n)=some (ws.drop n)
 |0,k,out,ws,h=>h
 |n+1,k,[],ws,h=>by injection h with h;subst h;rfl
 |n+1,k,(s,x)::out,ws,h=>by
  simp only[Jag]at h;split at h
  ·rename_i b y l hb hy hl;injection h with h;subst h;have:=JkN (n:=n) hl
   grind
  ·cases h
theorem JbS{F:Orc}{G:TG}(hG:GOk F G){f:FuncId}{args:List (TV×Bool)}{A:Bool}{n:Nat}{d:Option Nat}{new:Nat}{s:TSt}{kk:TSt->Option R}{r:R}
  (hd:J9l s new n=true) (h:JiP G f args A n d new s kk=some r):
  ∃xs ws B es z blks v res E fresh,(J3K (args.map (·.2)) (args.map λx=>J04 (lns s.sto) x.1)).run (Jy s)=some (xs,ws)/\
   (J47 ws (J0Z.entsOfL xs []) (J0Z.entsOfL xs [])).run (Jy s)=some B/\(J47 ws B B).run (Jy s)=some es/\J4T (es.map Ent.id)=true/\
   ren.renL (λe=>J2h e es 0) xs=some z/\(J5j ws (λe=>J2h e es 0) es).run (Jy s)=some blks/\F f z blks=some res/\
   (if A=true then es.length<=res.2.length/\res.2.length<=es.length+n else res.2.length=es.length+n)/\bk es new res.1=some v/\J34 es new new (res.2.drop es.length)=some fresh/\
   (J3x ws es new es res.2).run (Jy s)=some E/\ ∃s',put d ⟨v,ws++E++fresh⟩ (Jy s)=Jy s'/\kk s'=some r:=by
 unfold JiP at h;obtain⟨xs,s1,ws,h1,q,h⟩:=Jkg (Fzd.refl s) h;rw[Jhp]at q;split at h
 ·cases h
 ·rename_i i0 T;split at h
  ·cases h
  ·rename_i i1 P;split at h
   ·cases h
   ·rename_i ids L;split at h
    ·rename_i V;split at h
     ·rename_i ys bl S K;obtain⟨v,out,hF,Z,h⟩:=hG.ok h;split at h
      ·rename_i hlen;split at h
       ·rename_i N g U o;split at h
        ·rename_i M;have e0:J0Z.entsOfL (xs.map (J1r (lns s.sto))) []=i0.map .whole:=Jdv (lns s.sto) (l:=[]) T;have e1:=J9p q P;have e2:=J9p q L;obtain⟨ae,W⟩:=Jjf K;have hL: ∀b k,J4N b ids 0=some k->lns bl k=lns s.sto b:=by intro b k hk;obtain⟨_,hk⟩:=Jdk hk;rw[W k b (by simpa using hk),q.2.1]
         have e3:=JpA hL S;have e4:=Jln hL q rfl K;obtain⟨b1,b2⟩:=JsQ o
         have a4: ∀(j:Nat),Jez out j=match out[j]? with
           |some x=>lnB x.2
           |none=>0:=by
          intro j;unfold Jez lns;rw[J6X];cases out[j]?<;>rfl
         have O: ∀(k b:Nat),ids[k]?=some b->b<s1.sto.length:=by
          have af: ∀(C:List Nat) (bl:List TB),J9A ids s1 C=some bl-> ∀(k b:Nat),C[k]?=some b->b<s1.sto.length:=by
           intro C
           induction C with
           |nil=>simp_all
           |cons c C ih=>
            grind [J9A]
          grind
         have a2:s1.sto.length=s.sto.length:=by
          have:=congrArg (λst=>st.sto.length) q.2.2.1
          grind [Jy,JaT]
         obtain⟨a1,J,a0⟩:=JCp hlen;have Y:=J7Z hd;have a9: ∀x∈g,∃(j:Nat) (Q:Bool) (y:TB),out[j]?=some (Q,y)/\J5u ids new out.length j=some x.1/\JjZ ids new out.length y=some x.2.2/\x.2.1=(Q&&decide (j<ids.length)):=by
          intro x hx;obtain⟨j,hj⟩:=J8D hx;have w:j<out.length:=by grind
          obtain⟨b,y,q1,q2,q3⟩:=b2 j (out[j]'w).1 (out[j]'w).2 (zQ9 w);rw[hj]at q3;injection q3 with q3;rw[Jeo]at q1 q3;exact⟨j,_,_,zQ9 w,by simp_all,by simp_all,by rw[q3];rfl⟩
         have H: ∀x∈g,x.1<s1.sto.length:=by
          grind [J5u,Jw]
         have I: ∀x∈g,x.2.1=true->lnB x.2.2=lns s1.sto x.1:=by
          grind [JwR,J5u]
         obtain⟨w1,w2⟩:=JHf (JFt M) H I;have D: ∀k b,J5u ids new out.length k=some b->lns (Jbq g s1).sto b=Jez out k:=by
          grind [J5u,JwR]
         have e5:=JGc D U;have e6:=JtR D (ws0:=ws) (st:=Jy s) (j:=0) (es:=ids) (out:=out) (ws:=g) (λi b hb=>by grind) (by omega) J o;have e7:=Jv2 D (j:=0) (out:=out.drop ids.length) (ws:=g.drop ids.length) (by have:=JkN (n:=ids.length) o;grind);rw[JjJ]at e7;refine⟨xs.map (J1r (lns s.sto)),ws,i1.map .whole,ids.map .whole,_,_,J04 (lns (Jbq g s1).sto) N,_,_,(g.drop ids.length).map (λx=>(x.1,J0E (lns (Jbq g s1).sto) x.2.2)),h1,?_,e2,Jy9 V,e3,e4,hF,?_,e5,?_,e6,J0J d N (Jbq g s1),?_,h⟩
         ·grind
         ·grind
         ·grind [List.map_drop]
         ·refine J8V ?_ d N;rw[w1,q.2.2.1];simp[J20]
        ·cases h
       ·cases h
      ·cases h
     ·cases h
    ·cases h
end
end Go.Am
end
section
namespace Go.Am
inductive TOp where
 |mv (x:TO)
 |mkarr (t:Ty) (x:TO)
 |pick (c a b:TO)
 |newbox (t:Ty)
 |box (t:Ty) (x:TO)
 |build (t:Ty) (parts:List (Nat×Ty×TO))
 |lits (own:Bool) (t:Ty) (n:Nat) (parts:List (Nat×TO))
 |load (agg:Bool) (t:Ty) (x:TO)
 |store (t:Ty) (x v:TO)
 |nilchk (x:TO)
 |bin (op:BinOp) (bt:TBT) (x y:TO)
 |un (op:UnOp) (x:TO)
 |conv (k:CK) (x:TO)
 |mkslice (own:Bool) (t:Ty) (bytes:Nat) (l c:TO)
 |slice (k:TSK) (x:TO) (lo hi mx:Option TO)
 |faddr (off:Nat) (x:TO)
 |field (agg:Bool) (off:Nat) (t:Ty) (x:TO)
 |iaddr (t:Ty) (x i:TO)
 |aaddr (len esz:Nat) (x i:TO)
 |sidx (x i:TO)
 |aidx (agg:Bool) (len:Nat) (t:Ty) (x i:TO)
 |extr (x:TO) (i:Nat)
 |call (f:FuncId) (args:List TO) (k:Nat)
 |callo (f:FuncId) (args:List (TO×Bool)) (k:Nat)
 |callv (g:TO) (args:List TO) (k:Nat)
 |len (str:Bool) (x:TO)
 |alen (n:Nat)
 |app (t:Ty) (bytes:Nat) (x y:TO)
 |appn (t:Ty) (bytes:Nat) (y:TO)
 |appz (t:Ty) (bytes:Nat) (x y:TO)
 |appc (t:Ty) (bytes:Nat) (x y:TO)
 |mm (mx:Bool) (x y:TO)
 |mkfn (f:FuncId) (first caps:List TO)
 |newboxo (t:Ty) (os:List (Nat×Ty))
 |buildo (t:Ty) (parts:List (Nat×Ty×TO)) (os:List (Nat×Ty))
 |storen (t:Ty) (x:TO)
def zer(t:Ty):List PV:=cel t t.zero
def erp:TOp->AOp
 | .mv x=>.mv (erO x)
 | .mkarr t x=>.mkarr t.sz (erO x)
 | .pick c a b=>.pick (erO c) (erO a) (erO b)
 | .newbox t=>.newbox (zer t)
 | .box t x=>.box t.sz (erO x)
 | .build t parts=>.build (zer t) (erP parts)
 | .lits own t n parts=>.lits own t.sz n (zer t) (parts.map λx=>(x.1,erO x.2))
 | .load agg t x=>.load agg t.sz (erO x)
 | .store t x v=>.store t.sz (erO x) (erO v)
 | .nilchk x=>.nilchk (erO x)
 | .bin op bt x y=>.bin op (erT bt) (erO x) (erO y)
 | .un op x=>.un op (erO x)
 | .conv k x=>.conv k (erO x)
 | .mkslice own t bytes l c=>.mkslice own t.sz bytes (zer t) (erO l) (erO c)
 | .slice k x lo hi mx=>.slice (erK k) (erO x) (lo.map erO) (hi.map erO) (mx.map erO)
 | .faddr off x=>.faddr off (erO x)
 | .field agg off t x=>.field agg off t.sz (erO x)
 | .iaddr t x i=>.iaddr t.sz (erO x) (erO i)
 | .aaddr len esz x i=>.aaddr len esz (erO x) (erO i)
 | .sidx x i=>.sidx (erO x) (erO i)
 | .aidx agg len t x i=>.aidx agg len t.sz (erO x) (erO i)
 | .extr x i=>.extr (erO x) i
 | .call f args k=>.call f (args.map erO) k
 | .callo f args k=>.callo f (args.map (·.2)) (args.map λx=>erO x.1) k
 | .callv g args k=>.callv (erO g) (args.map erO) k
 | .len str x=>.len str (erO x)
 | .alen n=>.alen n
 | .app t bytes x y=>.app t.sz bytes (zer t) (erO x) (erO y)
 | .appn t bytes y=>.appn t.sz bytes (zer t) (erO y)
 | .appz t bytes x y=>.appz t.sz bytes (zer t) (erO x) (erO y)
 | .appc t bytes x y=>.appc t.sz bytes (zer t) (erO x) (erO y)
 | .mm mx x y=>.mm mx (erO x) (erO y)
 | .mkfn f first caps=>.mkfn f (first.map erO) (caps.map erO)
 | .newboxo t os=>.newboxo (zer t) (Ja0 os)
 | .buildo t parts os=>.buildo (zer t) (erP parts) (Ja0 os)
 | .storen t x=>.storen t.sz (erO x)
def J1H:TOp->Nat
 | .newbox _| .box _ _| .mkarr _ _| .appn _ _ _| .appc _ _ _ _=>1
 | .lits own _ _ _=>if own=true then 1 else 0
 | .mkslice own _ _ _ _=>if own=true then 1 else 0
 | .conv (.toBytes own) _=>if own=true then 1 else 0
 | .call _ _ k| .callv _ _ k| .callo _ _ k=>k
 | .newboxo _ os=>os.length+1
 | .buildo _ _ os=>os.length
 | .storen _ _=>1
 |_=>0
theorem Jfy(op:TOp):J7J (erp op)=J1H op:=by
 cases op<;>try rfl
 ·rename_i k x;cases k<;>rfl
 all_goals simp[erp,J1H,Ja0]
def Jhx:List (TO×Bool)->TSt->Option (List (TV×Bool))
 |[],_=>some []
 |(o,x)::r,s=>match tev o s,Jhx r s with
  |some v,some l=>some ((v,x)::l)
  |_,_=>none
theorem JaJ{s:TSt}: ∀{xs:List (TO×Bool)} {l:List (TV×Bool)},Jhx xs s=some l->
  (evs (xs.map λx=>erO x.1)).run (Jy s)=some (l.map λx=>J04 (lns s.sto) x.1)/\l.map (·.2)=xs.map (·.2)
 |[],l,h=>by injection h with h;simp_all
 |(o,x)::q,l,h=>by
  simp only[Jhx]at h;split at h
  ·rename_i v l' hv hl;injection h with h;subst h;obtain⟨h1,h2⟩:=JaJ hl;exact⟨by simp only[J1n,evs,run_bind,J0t hv,J06,h1,JZ],by simp[h2]⟩
  ·cases h
section
variable {R:Type}
def top(G:TG)(op:TOp)(d:Option Nat)(new:Nat)(s:TSt)(k:TSt->Option R):Option R:=
 match op with
 | .mv x=>match tev x s with
  |some v=>k (J0J d v s)
  |none=>none
 | .mkarr t _=>JD2 t d new s k
 | .pick c a b=>match tev c s with
  |some (.a (.c (.d .b x)))=>JAS x (tev a s) (tev b s) λv=>k (J0J d v s)
  |_=>none
 | .newbox t=>JyH t d new s k
 | .box t x=>match tev x s with
  |some v=>JF1 t v d new s k
  |none=>none
 | .build t parts=>JuM t parts d s k
 | .lits own t n parts=>JAC own t n parts d new s k
 | .load agg t x=>match tev x s with
  |some v=>JA7 agg t v d s k
  |none=>none
 | .store t x y=>match tev x s,tev y s with
  |some v,some u=>JuS t v u d s k
  |_,_=>none
 | .nilchk x=>match tev x s with
  |some v=>JEj v λv=>k (J0J d v s)
  |none=>none
 | .bin op bt x y=>match tev x s,tev y s with
  |some v,some u=>JEf op bt v u λv=>k (J0J d v s)
  |_,_=>none
 | .un op x=>match tev x s with
  |some v=>tUn op v λv=>k (J0J d v s)
  |none=>none
 | .conv c x=>match tev x s with
  |some v=>JAN c v d new s k
  |none=>none
 | .mkslice own t bytes l c=>match tev l s,tev c s with
  |some v,some u=>Jky own t bytes v u d new s k
  |_,_=>none
 | .slice e x lo hi mx=>match tev x s,tbn lo s,tbn hi s,tbn mx s with
  |some v,some a,some b,some c=>JwE e v a b c d s k
  |_,_,_,_=>none
 | .faddr off x=>match tev x s with
  |some v=>Ju5 off v λv=>k (J0J d v s)
  |none=>none
 | .field agg off t x=>match tev x s with
  |some v=>JuI agg off t v d s k
  |none=>none
 | .iaddr t x i=>match tev x s,tev i s with
  |some v,some u=>JuQ t v u s λv=>k (J0J d v s)
  |_,_=>none
 | .aaddr len esz x i=>match tev x s,tev i s with
  |some v,some u=>JtS len esz v u λv=>k (J0J d v s)
  |_,_=>none
 | .sidx x i=>match tev x s,tev i s with
  |some v,some u=>JzN v u λv=>k (J0J d v s)
  |_,_=>none
 | .aidx agg len t x i=>match tev x s,tev i s with
  |some v,some u=>JBj agg len t v u d s k
  |_,_=>none
 | .extr x i=>match tev x s with
  |some v=>JAI v i λv=>k (J0J d v s)
  |none=>none
 | .call f args n=>match Jhx (args.map λx=>(x,false)) s with
  |some l=>JiP G f l false n d new s k
  |none=>none
 | .callo f args n=>match Jhx args s with
  |some l=>JiP G f l true n d new s k
  |none=>none
 | .callv g args n=>match tev g s,Jhx (args.map λx=>(x,false)) s with
  |some (.a (.fn f a c)),some l=>JiP G f (a.map (λx=>(.a (.c x),false))++l++c.map (λx=>(.a (.c x),false))) false n d new s k
  |some (.a (.c (.fn f))),some l=>JiP G f l false n d new s k
  |_,_=>none
 | .len str x=>match tev x s with
  |some v=>JDO str v s λv=>k (J0J d v s)
  |none=>none
 | .alen n=>k (J0J d (vi .i64 n) s)
 | .app t bytes x y=>match tev x s,tev y s with
  |some v,some u=>JBr t bytes v u d s k
  |_,_=>none
 | .appn t bytes y=>match tev y s with
  |some u=>JBc t bytes u d new s k
  |none=>none
 | .appz t bytes x y=>match tev x s,tev y s with
  |some v,some u=>JBe t bytes v u d s k
  |_,_=>none
 | .appc t bytes x y=>match tev x s,tev y s with
  |some v,some u=>JAz t bytes v u d new s k
  |_,_=>none
 | .mm mx x y=>match tev x s,tev y s with
  |some v,some u=>tMm mx v u λv=>k (J0J d v s)
  |_,_=>none
 | .mkfn f first caps=>match tcl first s,tcl caps s with
  |some a,some c=>k (J0J d (.a (.fn f a c)) s)
  |_,_=>none
 | .newboxo t os=>Jjy t os d new s k
 | .buildo t parts os=>JmI t parts os d new s k
 | .storen t x=>match tev x s with
  |some v=>Jny t v d new s k
  |none=>none
theorem Jk2{F:Orc}{f:FuncId}{vs xs g:List AV}{ws:List (Nat×Blk)}{h es:List Ent}{blks:List Blk}{v:AV}{res:Res}{j fresh:List (Nat×Blk)}{n new:Nat}{st:St}
  (h1:(J78 vs).run st=some (xs,ws)) (h2:(J47 ws (J0Z.entsOfL xs []) (J0Z.entsOfL xs [])).run st=some h) (h3:(J47 ws h h).run st=some es) (h4:J4T (es.map Ent.id)=true)
  (h5:ren.renL (λe=>J2h e es 0) xs=some g) (r:(J5j ws (λe=>J2h e es 0) es).run st=some blks) (o:F f g blks=some res) (q:res.2.length=es.length+n)
  (w:bk es new res.1=some v) (h10:J34 es new new (res.2.drop es.length)=some fresh) (k:(J3x ws es new es res.2).run st=some j):
  (J5I F f vs n new).run st=some ⟨v,ws++j++fresh⟩:=by
 simp_all [J5I]
theorem JDt{F:Orc}{f:FuncId}{xs g:List AV}{ws:List (Nat×Blk)}{h es:List Ent}{blks:List Blk}{v:AV}{res:Res}{j fresh:List (Nat×Blk)}{n new:Nat}{st:St}
  (h2:(J47 ws (J0Z.entsOfL xs []) (J0Z.entsOfL xs [])).run st=some h) (h3:(J47 ws h h).run st=some es) (h4:J4T (es.map Ent.id)=true)
  (h5:ren.renL (λe=>J2h e es 0) xs=some g) (r:(J5j ws (λe=>J2h e es 0) es).run st=some blks) (o:F f g blks=some res) (q:es.length<=res.2.length/\res.2.length<=es.length+n)
  (w:bk es new res.1=some v) (h10:J34 es new new (res.2.drop es.length)=some fresh) (k:(J3x ws es new es res.2).run st=some j):
  (J3a F f (xs,ws) n new).run st=some ⟨v,ws++j++fresh⟩:=by
 simp_all [J3a]
theorem JfY(args:List TO):(args.map λx=>(x,false)).map (λx:TO×Bool=>erO x.1)=args.map erO:=by simp_all
theorem JIu{F:Orc}{G:TG}(D:GOk F G){op:TOp}{d:Option Nat}{new:Nat}{s:TSt}{k:TSt->Option R}{r:R}(hd:J9l s new (J1H op)=true)(h:top G op d new s k=some r):Ok (opR F (erp op) new) d s k r:=by
 have O: ∀j,j<J1H op->new+j<s.sto.length:=λj hj=>Jw (J7Z hd j hj);unfold top at h;split at h
 ·split at h
  ·rename_i x _ v hv;refine J28 (v:=v) ?_ h;simp only[erp,opR,run_bind,J0t hv,J06,JZ]
  ·cases h
 ·exact JC1 F (by simp_all [J1H]) h
 ·split at h
  ·rename_i hc;exact JFu F hc h
  ·cases h
 ·exact JA0 F (by have:=J7Z hd 0 (by simp[J1H]);simp_all) h
 ·split at h
  ·rename_i hv;exact JGg F (by have:=J7Z hd 0 (by simp[J1H]);simp_all) hv h
  ·cases h
 ·exact JCH F new h
 ·rename_i own t n parts;exact JEd F (λho=>by simp_all [J1H]) h
 ·split at h
  ·rename_i hv;obtain⟨e,s',h1,h2,h3⟩:=JFs h;exact⟨e,s',by grind [erp,opR,run_bind,J0t],h2,h3⟩
  ·cases h
 ·split at h
  ·rename_i hv hu;obtain⟨e,s',h1,h2,h3⟩:=JC4 h;exact⟨e,s',by grind [erp,opR,run_bind,J0t],h2,h3⟩
  ·cases h
 ·split at h
  ·rename_i hv;exact JGj F hv h
  ·cases h
 ·split at h
  ·rename_i hv hu;obtain⟨e,s',h1,h2,h3⟩:=(JGT h).ok;exact⟨e,s',by grind [erp,opR,run_bind,J0t],h2,h3⟩
  ·cases h
 ·split at h
  ·rename_i hv;obtain⟨e,s',h1,h2,h3⟩:=(JIU h).ok;exact⟨e,s',by grind [erp,opR,run_bind,J0t],h2,h3⟩
  ·cases h
 ·split at h
  ·rename_i hv;exact JEo F hv (λho=>by simp_all [J1H]) h
  ·cases h
 ·split at h
  ·rename_i hv hu;exact JxW F hv hu (λho=>by simp_all [J1H]) h
  ·cases h
 ·split at h
  ·rename_i h1 h2 h3 h4;exact JCA F h1 h2 h3 h4 h
  ·cases h
 ·split at h
  ·rename_i hv;obtain⟨e,s',h1,h2,h3⟩:=(JCy h).ok;exact⟨e,s',by grind [erp,opR,run_bind,J0t],h2,h3⟩
  ·cases h
 ·split at h
  ·rename_i hv;obtain⟨e,s',h1,h2,h3⟩:=JCk h;exact⟨e,s',by grind [erp,opR,run_bind,J0t],h2,h3⟩
  ·cases h
 ·split at h
  ·rename_i hv hu;obtain⟨e,s',h1,h2,h3⟩:=JCh h;exact⟨e,s',by grind [erp,opR,run_bind,J0t],h2,h3⟩
  ·cases h
 ·split at h
  ·rename_i hv hu;obtain⟨e,s',h1,h2,h3⟩:=(JCL h).ok;exact⟨e,s',by grind [erp,opR,run_bind,J0t],h2,h3⟩
  ·cases h
 ·split at h
  ·rename_i hv hu;exact JFM F hv hu h
  ·cases h
 ·split at h
  ·rename_i hv hu;exact JEM F hv hu h
  ·cases h
 ·split at h
  ·rename_i hv;obtain⟨e,s',h1,h2,h3⟩:=(JFw h).ok;exact⟨e,s',by grind [erp,opR,run_bind,J0t],h2,h3⟩
  ·cases h
 ·rename_i f args n;split at h
  ·rename_i l hl;obtain⟨e1,e2⟩:=JaJ hl;rw[JfY]at e1;obtain⟨xs,ws,A,es,w,blks,v,res,y,fresh,q1,q2,q3,L,K,J,H,M,E,C,B,s',q,o⟩:=JbS D hd h;rw[J8R _ _ (λx hx=>by simp_all)]at q1
   refine⟨_,s',?_,q,o⟩
   grind [erp,opR,run_bind,Jk2,J1H]
  ·cases h
 ·rename_i f args n;split at h
  ·rename_i l hl;obtain⟨e1,e2⟩:=JaJ hl;obtain⟨xs,ws,A,es,w,blks,v,res,y,fresh,q1,q2,q3,L,K,J,H,M,E,C,B,s',q,o⟩:=JbS D hd h;rw[e2]at q1;refine⟨_,s',?_,q,o⟩;simp_all [erp,JDt,J1H]
  ·cases h
 ·rename_i g args n;split at h
  ·rename_i f a c l I hl;obtain⟨e1,e2⟩:=JaJ hl;rw[JfY]at e1;obtain⟨xs,ws,A,es,w,blks,v,res,y,fresh,q1,q2,q3,L,K,J,H,M,E,C,B,s',q,o⟩:=JbS D hd h;have N: ∀z:List TC,(z.map (λx=>((TV.a (.c x),false):TV×Bool))).map (λx=>J04 (lns s.sto) x.1)=z.map (J0r (lns s.sto)):=λz=>by rw[JnN];rfl
   rw[J8R _ _ (λx hx=>by
    grind),JnB,JnB,N,N]at q1
   refine⟨_,s',?_,q,o⟩;simp only[erp,opR,run_bind,J0t I,J06,JEb,e1]
   grind [Jk2,J1H]
  ·rename_i f l I hl;obtain⟨e1,e2⟩:=JaJ hl;rw[JfY]at e1;obtain⟨xs,ws,A,es,w,blks,v,res,y,fresh,q1,q2,q3,L,K,J,H,M,E,C,B,s',q,o⟩:=JbS D hd h;rw[J8R _ _ (λx hx=>by simp_all)]at q1
   refine⟨_,s',?_,q,o⟩;simp only[erp,opR,run_bind,J0t I,J06,JHy,e1,Jhp,JbA]
   grind [Jk2,J1H]
  ·cases h
 ·split at h
  ·rename_i hv;obtain⟨e,s',h1,h2,h3⟩:=(JGe h).ok;exact⟨e,s',by grind [erp,opR,run_bind,J0t],h2,h3⟩
  ·cases h
 ·rename_i n;exact J28 (v:=vi .i64 n) rfl h
 ·split at h
  ·rename_i hv hu;obtain⟨e,s',h1,h2,h3⟩:=Jzs h;exact⟨e,s',by grind [erp,opR,run_bind,J0t],h2,h3⟩
  ·cases h
 ·split at h
  ·rename_i hu;exact JDY F hu (by simp_all [J1H]) h
  ·cases h
 ·split at h
  ·rename_i hv hu;exact JEK F hv hu h
  ·cases h
 ·split at h
  ·rename_i hv hu;exact JEC F hv hu (by simp_all [J1H]) h
  ·cases h
 ·split at h
  ·rename_i hv hu;obtain⟨e,s',h1,h2,h3⟩:=(JJe h).ok;exact⟨e,s',by grind [erp,opR,run_bind,J0t],h2,h3⟩
  ·cases h
 ·rename_i f first caps
  split at h
  ·rename_i a c ha hc;refine J28 (v:=.a (.fn f a c)) ?_ h;simp_all [erp,JCi,JEb]
  ·cases h
 ·exact JxU F hd h
 ·exact JzW F hd h
 ·split at h
  ·rename_i hv;exact JzV F (by have:=J7Z hd 0 (by simp[J1H]);simp_all) hv h
  ·cases h
structure J8J where
 op:TOp
 dst:Option Nat
 g:Option (Nat×Bool)
def eri(i:J8J):J1u:=⟨erp i.op,i.dst,i.g⟩
def rbE(g:Nat)(v:TV):List (Nat×TV)->List (Nat×TV)
 |[]=>[]
 |(m,u)::r=>if m=g then(m,v)::r else(m,u)::rbE g v r
def rb(g:Nat)(v:TV)(s:TSt):TSt:=⟨rbE g v s.env,s.sto⟩
theorem Jve{g:Nat}{v:TV}{s:TSt}(h:tlk g s.env=some v):rb g v s=s:=by
 have e: ∀env:List (Nat×TV),tlk g env=some v->rbE g v env=env:=by
  intro env
  induction env with
  |nil=>intro h;cases h
  |cons x r ih=>
   grind [tlk,rbE]
 simp_all [rb]
def JAQ(G:TG)(i:J8J)(new:Nat)(s:TSt)(k:TSt->Option R):Option R:=
 match i.g with
 |none=>if J9l s new (J1H i.op)=true then top G i.op i.dst new s k else none
 |some (g,e)=>match tlk g s.env with
  |some (.a (.c (.d .b x)))=>if x=e then
   (if J9l s new (J1H i.op)=true then top G i.op i.dst new (rb g (vb e) s) k else none)
   else k (J0J i.dst uv (rb g (vb !e) s))
  |some (.tup [])=>k (J0J i.dst uv s)
  |_=>none
theorem JyA{F:Orc}{G:TG}(w:GOk F G){i:J8J}{new:Nat}{s:TSt}{k:TSt->Option R}{r:R}(h:JAQ G i new s k=some r):Ok (J1A F (eri i) new) i.dst s k r:=by
 have q: ∀{s:TSt},J9l s new (J1H i.op)=true->top G i.op i.dst new s k=some r->Ok (opD F (erp i.op) new) i.dst s k r:=by
  intro s hd h;obtain⟨e,s',h1,h2,h3⟩:=JIu w hd h;refine⟨e,s',?_,h2,h3⟩
  grind [opD,run_bind,Jfy,Jvc]
 unfold JAQ at h;split at h
 ·grind [J1A,eri]
 ·rename_i g j o;split at h
  ·rename_i x hx;have hl:lk g (Jy s).env=some (.p (.b x)):=by show lk g (J5J _ s.env)=_;rw[Jcv,hx];rfl
   split at h
   ·rename_i hw;subst hw;rw[Jve hx]at h;split at h
    ·rename_i hd;obtain⟨e,s',h1,h2,h3⟩:=q hd h;refine⟨e,s',?_,h2,h3⟩
     grind [J1A,eri,J7V]
    ·cases h
   ·rename_i hw;have n:x= !j:=by clear hl hx h;cases x<;>cases j<;>first|rfl|grind
    subst n;rw[Jve hx]at h;refine J28 (v:=uv) ?_ h;simp only[J1A,eri,o,J7V,hl,J06];rw[if_neg hw];rfl
  ·rename_i hx;have hl:lk g (Jy s).env=some (.tup []):=by show lk g (J5J _ s.env)=_;rw[Jcv,hx];rfl
   refine J28 (v:=uv) ?_ h;simp only[J1A,eri,o,J7V,hl,J06,JZ];rfl
  ·cases h
def Jzy(G:TG):List J8J->Nat->TSt->(TSt->Option R)->Option R
 |[],_,s,k=>k s
 |i::r,new,s,k=>JAQ G i new s λs=>Jzy G r (new+J1H i.op) s k
theorem JyT{F:Orc}{G:TG}(g:GOk F G): ∀{ins:List J8J} {new:Nat} {s:TSt} {k:TSt->Option R} {r:R},Jzy G ins new s k=some r-> ∃s',J3j F (ins.map eri) new (Jy s)=some (Jy s')/\k s'=some r
 |[],new,s,k,r,h=>⟨s,rfl,h⟩
 |i::q,new,s,k,r,h=>by
  simp only[Jzy]at h;obtain⟨e,s1,h1,h2,h⟩:=JyA g h;obtain⟨j,h3,h4⟩:=JyT g h
  grind [J3j,eri,Jfy]
def Jl9:List J8J->Nat
 |[]=>0
 |i::r=>J1H i.op+Jl9 r
theorem Jjv: ∀ins:List J8J,news (ins.map eri)=Jl9 ins
 |[]=>rfl
 |i::r=>by
  simp only[J1n,news,Jl9,Jjv r]
  grind [eri,Jfy]
def Jsv(n:Nat)(s:TSt):TSt:=if n=0 then s else⟨s.env,s.sto++List.replicate n .dead⟩
theorem JvF(sto:List TB)(n:Nat):lns (sto++List.replicate n .dead)=lns sto:=by
 funext c
 unfold lns;rcases zQ3 c sto.length with h|h
 ·grind
 ·rw[Jd3 h,Jck h,List.getElem?_replicate];split<;>rfl
theorem Juh(n:Nat)(s:TSt):Jy (Jsv n s)=⟨(Jy s).env,room n (Jy s).sto⟩:=by
 unfold Jsv room;split
 ·rfl
 ·unfold Jy;rw[JvF];simp only[JnB,JBw];rfl
end
end Go.Am
end
section
namespace Go.Am
def Rb{α:Type}(S:Nat->Prop)(m:RM α)(st:St):Prop:= ∀b,Loc.blk b∈m.reads st->S b
section
variable {α β:Type} {S:Nat->Prop} {st:St}
theorem J0m(a:α):Rb S (.ret a) st:=λb h=>by simp[RM.reads]at h
theorem JY:Rb S (.fail:RM α) st:=λb h=>by simp[RM.reads]at h
theorem J0d{m:RM α}{f:α->RM β}(h:Rb S m st)(hf: ∀a,m.run st=some a->Rb S (f a) st):Rb S (m.bind f) st:=by
 intro b hb;rw[J5Y]at hb;rcases J1U.1 hb with hb|hb
 ·exact h b hb
 ·cases hm:m.run st with
  |none=>rw[hm]at hb;simp at hb
  |some a=>rw[hm]at hb;exact hf a hm b (by simpa using hb)
theorem J89{b:Nat}{k:Blk->RM α}(hb:S b)(h: ∀v,st.sto[b]?=some v->Rb S (k v) st):Rb S (.blk b k) st:=by
 intro c hc;simp only[RM.reads,J2U]at hc;rcases hc with hc|hc
 ·injection hc with hc;subst hc;exact hb
 ·cases hv:st.sto[b]? with
  |none=>rw[hv]at hc;simp at hc
  |some v=>rw[hv]at hc;exact h v hv c hc
theorem Jyu{n:Nat}{k:AV->RM α}(h: ∀v,lk n st.env=some v->Rb S (k v) st):Rb S (.slot n k) st:=by
 intro c hc;simp only[RM.reads,J2U]at hc;rcases hc with hc|hc
 ·cases hc
 ·cases hv:lk n st.env with
  |none=>rw[hv]at hc;simp at hc
  |some v=>rw[hv]at hc;exact h v hv c hc
theorem JkC(x:Option AV):Rb S (val x) st:=by cases x<;>first|exact JY|exact J0m _
theorem J71(x:Opd):Rb S (ev x) st:=by cases x<;>first|exact J0m _|exact Jyu λv _=>J0m v
theorem JsU: ∀xs:List Opd,Rb S (evs xs) st
 |[]=>J0m _
 |x::r=>J0d (J71 x) λv _=>J0d (JsU r) λvs _=>J0m _
theorem Jwc(x:Option Opd):Rb S (evo x) st:=by
 cases x with
 |none=>exact J0m _
 |some x=>exact J0d (J71 x) λv _=>J0m _
end
def J5L:AV->List Nat
 | .ptr b _=>[b]
 | .slr b _ _=>[b]
 | .ep b _ _ _=>[b]
 |_=>[]
def avR:AV->List Nat
 | .agg cs=>cs.flatMap J5L
 |x=>J5L x
section
variable {S:Nat->Prop} {st:St}
theorem JHu{x:AV}(h: ∀b∈J5L x,S b):Rb S (fz.fz1 x) st:=by
 cases x with
 |slr b i n=>
  refine J89 (h b (by simp[J5L])) λv _=>?_;cases v with
  |arr w esz rows=>dsimp only;split<;>first|exact J0m _|exact JY
  |_=>exact JY
 |p c=>exact J0m _
 |_=>exact JY
theorem JDs: ∀{xs:List AV},(∀b∈xs.flatMap J5L,S b)->Rb S (fz.fzL xs) st
 |[],_=>J0m _
 |x::r,h=>J0d (JHu λb hb=>h b (by simp[hb])) λa _=>J0d (JDs λb hb=>h b (by simp only[List.flatMap_cons,J1U];exact .inr hb)) λc _=>J0m _
theorem JlW{x:AV}(h: ∀b∈avR x,S b):Rb S (fz x) st:=by
 cases x with
 |slr b i n=>
  refine J89 (h b (by simp[avR,J5L])) λv _=>?_;cases v with
  |arr w esz rows=>dsimp only;split<;>first|exact J0m _|exact JY
  |_=>exact JY
 |p c=>exact J0m _
 |data cs=>exact J0m _
 |agg cs=>exact JDs h
 |_=>exact JY
theorem JJ0{x:AV}{a:List PV×List (Nat×Blk)}(h:(fz.fz1 x).run st=some a): ∀y∈a.2,y.1∈J5L x:=by
 cases x with
 |slr b i n=>
  simp only[fz.fz1,J1F]at h;obtain⟨v,_,h⟩:=J2H.1 h;cases v with
  |arr w esz rows=>
   dsimp only at h;split at h
   ·injection h with h;subst h;simp[J5L]
   ·cases h
  |_=>cases h
 |p c=>injection h with h;subst h;simp
 |_=>cases h
theorem JBR: ∀{xs:List AV} {a:List PV×List (Nat×Blk)},(fz.fzL xs).run st=some a-> ∀y∈a.2,y.1∈xs.flatMap J5L
 |[],a,h,y,hy=>by injection h with h;subst h;simp at hy
 |x::r,a,h,y,hy=>by
  simp only[fz.fzL]at h;obtain⟨c,h1,h⟩:=bind_some h;obtain⟨e,h2,h⟩:=bind_some h;injection h with h;subst h;simp only[J1U]at hy;simp only[List.flatMap_cons,J1U];rcases hy with hy|hy
  ·exact .inl (JJ0 h1 y hy)
  ·exact .inr (JBR h2 y hy)
theorem Jmd{x:AV}{a:List PV×List (Nat×Blk)}(h:(fz x).run st=some a): ∀y∈a.2,y.1∈avR x:=by
 cases x with
 |slr b i n=>
  simp only[fz,J1F]at h;obtain⟨v,_,h⟩:=J2H.1 h;cases v with
  |arr w esz rows=>
   dsimp only at h;split at h
   ·injection h with h;subst h;simp[avR,J5L]
   ·cases h
  |_=>cases h
 |p c=>injection h with h;subst h;simp
 |data cs=>injection h with h;subst h;simp
 |agg cs=>exact JBR h
 |_=>cases h
theorem Jn7{esz:Nat}{x:AV}(h: ∀b∈avR x,S b):Rb S (J2Q esz x) st:=by
 unfold J2Q;split
 ·split<;>first|exact J0m _|exact JY
 ·split<;>first|exact J0m _|exact JY
 ·refine J89 (h _ (by simp[avR,J5L])) λv _=>?_;split
  ·split<;>first|exact J0m _|exact JY
  ·exact JY
 ·exact JY
theorem JGJ{agg:Bool}{size:Nat}{x:AV}(h: ∀b∈avR x,S b):Rb S (J4p agg size x) st:=by
 unfold J4p;split
 ·split<;>first|exact JkC _|exact JY
 ·refine J89 (h _ (by simp[avR,J5L])) λv _=>?_;split
  ·split<;>first|exact JkC _|exact JY
  ·exact JY
 ·refine J89 (h _ (by simp[avR,J5L])) λv _=>?_;split
  ·split
   ·split
    ·split<;>first|exact JkC _|exact JY
    ·exact JY
   ·exact JY
  ·exact JY
 ·exact JY
theorem JkP{x:Option AV}{e:Eff}(h:(val x).run st=some e):e.ws=[]:=by
 cases x with
 |none=>cases h
 |some v=>injection h with h;subst h;rfl
theorem JGB{agg:Bool}{size:Nat}{x:AV}{e:Eff}(h:(J4p agg size x).run st=some e):e.ws=[]:=by
 unfold J4p at h;split at h
 ·split at h<;>first|exact JkP h|cases h
 ·simp only[J1F]at h;obtain⟨v,_,h⟩:=J2H.1 h;split at h
  ·split at h<;>first|exact JkP h|cases h
  ·cases h
 ·simp only[J1F]at h;obtain⟨v,_,h⟩:=J2H.1 h;split at h
  ·split at h
   ·split at h
    ·split at h<;>first|exact JkP h|cases h
    ·cases h
   ·cases h
  ·cases h
 ·cases h
theorem JF7{size:Nat}{x v:AV}(h: ∀b∈avR x,S b)(hv: ∀b∈avR v,S b):Rb S (J3X size x v) st:=by
 unfold J3X;split
 ·refine J89 (h _ (by simp[avR,J5L])) λy _=>?_;split
  ·split
   ·split
    ·split<;>first|exact J0m _|exact JY
    ·exact JY
   ·exact JY
  ·exact JY
 ·refine J89 (h _ (by simp[avR,J5L])) λy _=>?_;split
  ·split
   ·split
    ·refine J0d (JlW hv) λa _=>?_;split
     ·split<;>first|exact J0m _|exact JY
     ·exact JY
    ·exact JY
   ·exact JY
  ·exact JY
 ·exact JY
theorem JFJ{size:Nat}{x v:AV}{e:Eff}(h:(J3X size x v).run st=some e): ∀y∈e.ws,y.1∈avR x++avR v:=by
 unfold J3X at h;split at h
 ·simp only[J1F]at h;obtain⟨w,_,h⟩:=J2H.1 h;split at h
  ·split at h
   ·split at h
    ·split at h
     ·injection h with h;subst h;simp[avR,J5L]
     ·cases h
    ·cases h
   ·cases h
  ·cases h
 ·simp only[J1F]at h;obtain⟨w,_,h⟩:=J2H.1 h;split at h
  ·split at h
   ·split at h
    ·obtain⟨a,h1,h⟩:=bind_some h;split at h
     ·split at h
      ·injection h with h;subst h;intro y hy;simp only[J1U,J9K]at hy⊢;rcases hy with hy|rfl
       ·exact .inr (Jmd h1 y hy)
       ·exact .inl (by simp[avR,J5L])
      ·cases h
     ·cases h
    ·cases h
   ·cases h
  ·cases h
 ·cases h
theorem JDw{esz:Nat}{x i:AV}(h: ∀b∈avR x,S b):Rb S (J6J esz x i) st:=by
 unfold J6J;split
 ·split
  ·split<;>first|exact J0m _|exact JY
  ·exact JY
 ·refine J89 (h _ (by simp[avR,J5L])) λv _=>?_;split
  ·split<;>first|exact J0m _|exact JY
  ·exact JY
 ·exact JY
theorem JFA{esz:Nat}{x i:AV}{e:Eff}(h:(J6J esz x i).run st=some e):e.ws=[]:=by
 unfold J6J at h;split at h
 ·split at h
  ·split at h
   ·injection h with h;subst h;rfl
   ·cases h
  ·cases h
 ·simp only[J1F]at h;obtain⟨v,_,h⟩:=J2H.1 h;split at h
  ·split at h
   ·injection h with h;subst h;rfl
   ·cases h
  ·cases h
 ·cases h
theorem JJ2{esz bytes:Nat}{x y:AV}(h: ∀b∈avR x,S b)(hy: ∀b∈avR y,S b):Rb S (J81 esz bytes x y) st:=by
 unfold J81;split
 ·refine J89 (h _ (by simp[avR,J5L])) λv _=>?_;split
  ·refine J0d (Jn7 hy) λnew _=>?_;split<;>first|exact J0m _|exact JY
  ·exact JY
 ·exact JY
theorem JIb{esz bytes:Nat}{x y:AV}{e:Eff}(h:(J81 esz bytes x y).run st=some e): ∀z∈e.ws,z.1∈avR x:=by
 unfold J81 at h;split at h
 ·simp only[J1F]at h;obtain⟨v,_,h⟩:=J2H.1 h;split at h
  ·obtain⟨new,_,h⟩:=bind_some h;split at h
   ·injection h with h;subst h;simp[avR,J5L]
   ·cases h
  ·cases h
 ·cases h
theorem Jyx: ∀{k new:Nat},(∀j,j<k->S (new+j))->Rb S (Jc2 new k) st
 |0,_,_=>J0m _
 |k+1,new,h=>J89 (h 0 (by omega)) λv _=>by
  cases v with
  |dead=>exact Jyx λj hj=>by have:=h (j+1) (by omega);rwa[Nat.add_comm j 1,<-JwJ]at this
  |_=>exact JY
theorem JCa: ∀{xs:List Opd},(∀x∈xs,∀v,(ev x).run st=some v-> ∀b∈avR v,S b)->Rb S (fzs xs) st
 |[],_=>J0m _
 |x::r,h=>J0d (J71 x) λv hv=>J0d (JlW (h x (by simp) v hv)) λa _=>J0d (JCa λy hy=>h y (by simp[hy])) λc _=>J0m _
theorem Jtz: ∀{xs:List Opd} {a:List (List PV)×List (Nat×Blk)},(∀x∈xs,∀v,(ev x).run st=some v-> ∀b∈avR v,S b)->(fzs xs).run st=some a-> ∀y∈a.2,S y.1
 |[],a,_,h,y,hy=>by injection h with h;subst h;simp at hy
 |x::r,a,g,h,y,hy=>by
  simp only[fzs]at h;obtain⟨v,j,h⟩:=bind_some h;obtain⟨c,h1,h⟩:=bind_some h;obtain⟨e,h2,h⟩:=bind_some h;injection h with h;subst h;simp only[J1U]at hy;rcases hy with hy|hy
  ·exact g x (by simp) v j _ (Jmd h1 y hy)
  ·exact Jtz (λz hz=>g z (by simp[hz])) h2 y hy
theorem Jze{x:AV}(h: ∀b∈avR x,S b):Rb S (J8P x) st:=by
 cases x with
 |slr b i n=>refine J0d (JlW h) λa _=>?_;split<;>first|exact J0m _|exact JY
 |agg cs=>exact J0d (JlW h) λa _=>J0m _
 |tup cs=>exact JY
 |_=>exact J0m _
theorem JyR{x:AV}{a:AV×List (Nat×Blk)}(h:(J8P x).run st=some a): ∀y∈a.2,y.1∈avR x:=by
 cases x with
 |slr b i n=>
  simp only[J8P]at h;obtain⟨c,h1,h⟩:=bind_some h;split at h
  ·injection h with h;subst h;exact Jmd h1
  ·cases h
 |agg cs=>simp only[J8P]at h;obtain⟨c,h1,h⟩:=bind_some h;injection h with h;subst h;exact Jmd h1
 |tup cs=>cases h
 |_=>injection h with h;subst h;simp
theorem JcU: ∀{m:List Bool} {xs:List AV},(∀x∈xs,∀b∈avR x,S b)->Rb S (J3K m xs) st
 |_,[],_=>by unfold J3K;exact J0m _
 |[],x::r,h=>J0d (Jze (h x (by simp))) λa _=>J0d (JcU λy hy=>h y (by simp[hy])) λc _=>J0m _
 |true::m,x::r,h=>J0d (JcU λy hy=>h y (by simp[hy])) λc _=>J0m _
 |false::m,x::r,h=>J0d (Jze (h x (by simp))) λa _=>J0d (JcU λy hy=>h y (by simp[hy])) λc _=>J0m _
theorem JcM: ∀{m:List Bool} {xs:List AV} {a:List AV×List (Nat×Blk)},(∀x∈xs,∀b∈avR x,S b)->(J3K m xs).run st=some a-> ∀y∈a.2,S y.1
 |m,[],a,_,h,y,hy=>by unfold J3K at h;injection h with h;subst h;simp at hy
 |[],x::r,a,g,h,y,hy=>by
  simp only[J3K]at h;obtain⟨c,h1,h⟩:=bind_some h;obtain⟨e,h2,h⟩:=bind_some h;injection h with h;subst h;simp only[J1U]at hy;rcases hy with hy|hy
  ·exact g x (by simp) _ (JyR h1 y hy)
  ·exact JcM (λz hz=>g z (by simp[hz])) h2 y hy
 |true::m,x::r,a,g,h,y,hy=>by simp only[J3K]at h;obtain⟨e,h2,h⟩:=bind_some h;injection h with h;subst h;exact JcM (λz hz=>g z (by simp[hz])) h2 y hy
 |false::m,x::r,a,g,h,y,hy=>by
  simp only[J3K]at h;obtain⟨c,h1,h⟩:=bind_some h;obtain⟨e,h2,h⟩:=bind_some h;injection h with h;subst h;simp only[J1U]at hy;rcases hy with hy|hy
  ·exact g x (by simp) _ (JyR h1 y hy)
  ·exact JcM (λz hz=>g z (by simp[hz])) h2 y hy
theorem Jzi{ws:List (Nat×Blk)}{b:Nat}(h:S b):Rb S (Jek ws b) st:=J89 h λv _=>by split<;>exact J0m _
theorem JmK{ws:List (Nat×Blk)}: ∀{r:List Nat} {acc:List Ent},(∀b∈r,S b)->Rb S (J47 ws (r.map .whole) acc) st
 |[],acc,_=>J0m _
 |b::r,acc,h=>by simp only[J1n,J47];refine J0d (Jzi (h b (by simp))) λx _=>?_;cases x<;>exact JmK λc hc=>h c (by simp[hc])
theorem Jpl{ws:List (Nat×Blk)}{ρ:Ent->Option Nat}: ∀{r:List Nat},(∀b∈r,S b)->Rb S (J5j ws ρ (r.map .whole)) st
 |[],_=>J0m _
 |b::r,h=>by
  simp only[J1n,J5j,Jga];refine J0d (J0d (Jzi (h b (by simp))) λx _=>?_) λx _=>J0d (Jpl λc hc=>h c (by simp[hc])) λl _=>J0m _;cases x with
  |box cs=>dsimp only;split<;>first|exact J0m _|exact JY
  |arr w e rows=>exact J0m _
  |dead=>exact JY
theorem JlM{ws:List (Nat×Blk)}{es:List Ent}{new:Nat}: ∀{r:List Nat} {l:List Blk},Rb S (J3x ws es new (r.map .whole) l) st
 |[],l=>by cases l<;>exact J0m _
 |b::r,[]=>JY
 |b::r,x::l=>by
  simp only[J1n,J3x];refine J0d ?_ λy _=>J0d JlM λg _=>J0m _;cases x with
  |box cs=>simp only[Ja1];split<;>first|exact J0m _|exact JY
  |arr w e rows=>exact J0m _
  |dead=>exact JY
theorem JlH{ws:List (Nat×Blk)}{es:List Ent}{new:Nat}: ∀{r:List Nat} {l:List Blk} {g:List (Nat×Blk)},(J3x ws es new (r.map .whole) l).run st=some g-> ∀y∈g,y.1∈r
 |[],l,g,h,y,hy=>by
  have:g=[]:=by cases l<;>(injection h with h;exact h.symm)
  subst this;simp at hy
 |b::r,[],g,h,_,_=>by cases h
 |b::r,x::l,g,h,y,hy=>by
  simp only[J1n,J3x]at h;obtain⟨z,h1,h⟩:=bind_some h;obtain⟨j,h2,h⟩:=bind_some h;injection h with h;subst h;rcases J2U.1 hy with rfl|hy
  ·cases x with
   |box cs=>
    simp only[Ja1]at h1;split at h1
    ·injection h1 with h1;subst h1;simp
    ·cases h1
   |arr w e rows=>injection h1 with h1;subst h1;simp
   |dead=>cases h1
  ·exact JcV _ (JlH h2 y hy)
theorem Jg7{es:List Ent}{new:Nat}: ∀{l:List Blk} {k:Nat} {g:List (Nat×Blk)},J34 es new k l=some g-> ∀y∈g,∃j,j<l.length/\y.1=k+j
 |[],k,g,h,y,hy=>by injection h with h;subst h;simp at hy
 | .dead::l,k,g,h,_,_=>by cases h
 | .box cs::l,k,g,h,y,hy=>by
  simp only[J34]at h;split at h
  ·rename_i c n _ hz;injection h with h;subst h;rcases J2U.1 hy with rfl|hy
   ·exact⟨0,by simp,rfl⟩
   ·obtain⟨j,hj,e⟩:=Jg7 hz y hy;exact⟨j+1,by simp;omega,by omega⟩
  ·cases h
 | .arr w e rows::l,k,g,h,y,hy=>by
  simp only[J34]at h;split at h
  ·rename_i n hz;injection h with h;subst h;rcases J2U.1 hy with rfl|hy
   ·exact⟨0,by simp,rfl⟩
   ·obtain⟨j,hj,e⟩:=Jg7 hz y hy;exact⟨j+1,by simp;omega,by omega⟩
  ·cases h
theorem Jjp(e x:Ent)(l:List Ent)(h:e∈l):e∈Jbg x l:=by unfold Jbg;split<;>simp[h]
mutual
theorem JFn: ∀(x:AV) (l:List Ent) (e:Ent),e∈l->e∈J0Z x l
 | .ptr b off,l,e,h=>Jjp e _ l h
 | .slr b i n,l,e,h=>Jjp e _ l h
 | .ep b g i off,l,e,h=>Jjp e _ l h
 | .fn f a c,l,e,h=>entsL_sub c _ e (entsL_sub a l e h)
 | .agg cs,l,e,h=>entsL_sub cs l e h
 | .tup cs,l,e,h=>entsL_sub cs l e h
 | .p _,l,e,h=>h
 | .data _,l,e,h=>h
 | .cp _ _,l,e,h=>h
 | .unk,l,e,h=>h
theorem entsL_sub: ∀(xs:List AV) (l:List Ent) (e:Ent),e∈l->e∈J0Z.entsOfL xs l
 |[],l,e,h=>h
 |x::r,l,e,h=>entsL_sub r _ e (JFn x l e h)
end
theorem Juy{ws:List (Nat×Blk)}: ∀{r acc l:List Ent},(J47 ws r acc).run st=some l-> ∀e∈acc,e∈l:=by
 intro r
 induction r with
 |nil=>intro acc l h e he;injection h with h;subst h;exact he
 |cons x r ih=>
  intro acc l h e he;cases x with
  |whole b=>
   simp only[J47]at h;obtain⟨y,_,h⟩:=bind_some h;cases y with
   |box cs=>exact ih h e (entsL_sub cs acc e he)
   |_=>exact ih h e he
  |elem b g i=>exact ih h e he
theorem Jps{F:Orc}{f:FuncId}{xs:List AV}{ws:List (Nat×Blk)}{e0 g ids:List Nat}{n new:Nat}(k: ∀b∈ids,S b)(hw: ∀y∈ws,S y.1)(hn: ∀j,j<n->S (new+j))
  (o:J0Z.entsOfL xs []=e0.map .whole) (h1:(J47 ws (e0.map .whole) (e0.map .whole)).run st=some (g.map .whole)) (h2:(J47 ws (g.map .whole) (g.map .whole)).run st=some (ids.map .whole)):
  Rb S (J3a F f (xs,ws) n new) st/\(∀e,(J3a F f (xs,ws) n new).run st=some e-> ∀y∈e.ws,S y.1):=by
 have s1: ∀b∈g,S b:=λb hb=>by have:=Juy h2 (.whole b) (J9s.2 ⟨b,hb,rfl⟩);obtain⟨c,hc,e⟩:=J9s.1 this;injection e with e;subst e;exact k c hc
 have s0: ∀b∈e0,S b:=λb hb=>by have:=Juy h1 (.whole b) (J9s.2 ⟨b,hb,rfl⟩);obtain⟨c,hc,e⟩:=J9s.1 this;injection e with e;subst e;exact s1 c hc
 constructor
 ·unfold J3a;simp only[o];refine J0d (JmK s0) λa ha=>?_;rw[h1]at ha;injection ha with ha;subst ha
  refine J0d (JmK s1) λa ha=>?_;rw[h2]at ha;injection ha with ha;subst ha
  split
  ·split
   ·exact JY
   ·refine J0d (Jpl k) λbl _=>?_;split
    ·exact JY
    ·split
     ·split
      ·exact J0d JlM λ_ _=>J0m _
      ·exact JY
     ·exact JY
  ·exact JY
 ·intro e h y hy;unfold J3a at h;simp only[o]at h;obtain⟨a,ha,h⟩:=bind_some h;rw[h1]at ha;injection ha with ha;subst ha
  obtain⟨a,ha,h⟩:=bind_some h;rw[h2]at ha;injection ha with ha;subst ha
  split at h
  ·split at h
   ·cases h
   ·obtain⟨bl,_,h⟩:=bind_some h;split at h
    ·cases h
    ·split at h
     ·rename_i hlen;split at h
      ·rename_i v fresh _ hf;obtain⟨q,hb,h⟩:=bind_some h;injection h with h;subst h;simp only[J1U]at hy;rcases hy with(hy|hy)|hy
       ·exact hw y hy
       ·exact k _ (JlH hb y hy)
       ·obtain⟨j,hj,e⟩:=Jg7 hf y hy;rw[e];exact hn j (by simp only[Ji7,J6s]at hj hlen;omega)
      ·cases h
     ·cases h
  ·cases h
end
def tcR:TC->List Nat
 | .ptr b _=>[b]
 | .slr b=>[b]
 | .slo b _=>[b]
 | .ep b _ _=>[b]
 | .epo b _ _ _=>[b]
 |_=>[]
def tvR:TV->List Nat
 | .a (.c x)=>tcR x
 | .a (.m _ cs)=>cs.flatMap tcR
 |_=>[]
theorem JIC(L:Nat->Nat)(x:TC):J5L (J0r L x)=tcR x:=by cases x<;>rfl
theorem J4S(L:Nat->Nat)(v:TV):avR (J04 L v)=tvR v:=by
 cases v with
 |a x=>
  cases x with
  |c x=>cases x<;>rfl
  |dt t x=>rfl
  |m t cs=>
   show(cs.map (J0r L)).flatMap J5L=cs.flatMap tcR;rw[List.flatMap_map]
   congr 1
   funext x;exact JIC L x
  |fn f a c=>rfl
 |tup vs=>rfl
def rng(new:Nat):Nat->List Nat
 |0=>[]
 |k+1=>new::rng (new+1) k
theorem J7s: ∀{k new j:Nat},j<k->new+j∈rng new k
 |0,_,_,h=>by omega
 |k+1,new,j,h=>by
  cases j with
  |zero=>simp[rng]
  |succ j=>simp only[rng,J2U];right;rw[show new+(j+1)=new+1+j by omega];exact J7s (by omega)
def J7v{α β:Type}(m:Option α)(f:α->Option β):Option β:=match m with
 |some x=>f x
 |none=>none
theorem J22{α β:Type}{m:Option α}{f:α->Option β}{b:β}(h:J7v m f=some b): ∃a,m=some a/\f a=some b:=by
 cases m with
 |none=>cases h
 |some a=>exact⟨a,rfl,h⟩
def JDX(l:List (TV×Bool))(s:TSt):Option (List Nat):=Jmj l s λxs s1=>J7v (Jf2 xs []) λe=>J7v (JdC s1 e e) λg=>JdC s1 g g
def tcU(l:List (TV×Bool))(n new:Nat)(s:TSt):Option (List Nat×List Nat):=J7v (JDX l s) λids=>some (rng new n++(l.flatMap λx=>tvR x.1)++ids,rng new n++(l.flatMap λx=>tvR x.1)++ids)
def tpR(s:TSt):List (Nat×TO)->Option (List Nat)
 |[]=>some []
 |(_,o)::r=>J7v (tev o s) λv=>J7v (tpR s r) λl=>some (tvR v++l)
def uw(op:TOp)(new:Nat)(s:TSt):Option (List Nat×List Nat):=
 match op with
 | .load _ _ x=>J7v (tev x s) λv=>some (tvR v,[])
 | .newbox _=>some ([new],[new])
 | .store _ x y=>J7v (tev x s) λv=>J7v (tev y s) λu=>some (tvR v++tvR u,tvR v++tvR u)
 | .iaddr _ x _=>J7v (tev x s) λv=>some (tvR v,[])
 | .lits own t n ps=>J7v (tpR s ps) λl=>some (rng new (J1H (.lits own t n ps))++l,rng new (J1H (.lits own t n ps))++l)
 | .appn _ _ y=>J7v (tev y s) λv=>some (new::tvR v,[new])
 | .app _ _ x y=>J7v (tev x s) λv=>J7v (tev y s) λu=>some (tvR v++tvR u,tvR v)
 | .slice _ x _ _ _=>J7v (tev x s) λv=>some (tvR v,tvR v)
 | .call _ args n=>J7v (Jhx (args.map λx=>(x,false)) s) λl=>tcU l n new s
 | .callo _ args n=>J7v (Jhx args s) λl=>tcU l n new s
 | .mkslice own t bytes l c=>some (rng new (J1H (.mkslice own t bytes l c)),rng new (J1H (.mkslice own t bytes l c)))
 | .conv k x=>J7v (tev x s) λv=>some (rng new (J1H (.conv k x))++tvR v,rng new (J1H (.conv k x)))
 |_=>none
theorem J7g{F:Orc}{op:TOp}{new:Nat}{st:St}{S:Nat->Prop}(hd: ∀j,j<J1H op->S (new+j))(h:Rb S (opR F (erp op) new) st):Rb S (opD F (erp op) new) st:=by unfold opD;rw[Jfy];exact J0d (Jyx hd) λ_ _=>h
theorem J5U{F:Orc}{op:AOp}{new:Nat}{st:St}{e:Eff}(h:(opD F op new).run st=some e):(opR F op new).run st=some e:=by unfold opD at h;obtain⟨_,_,h⟩:=bind_some h;exact h
def UW(F:Orc)(op:AOp)(new:Nat)(st:St)(U W:List Nat):Prop:=Rb (· ∈U) (opD F op new) st/\ ∀e,(opD F op new).run st=some e-> ∀y∈e.ws,y.1∈W
theorem J64{x:TO}{s:TSt}{v:TV}(h:tev x s=some v){a:AV}(ha:(ev (erO x)).run (Jy s)=some a):a=J04 (lns s.sto) v:=by rw[J0t h]at ha;injection ha with ha;exact ha.symm
theorem Jzl{l:List (TV×Bool)}{s:TSt}{ids:List Nat}(h:JDX l s=some ids): ∃(xs:List AV) (ws:List (Nat×Blk)) (e g:List Nat),(J3K (l.map (·.2)) (l.map λx=>J04 (lns s.sto) x.1)).run (Jy s)=some (xs,ws)/\
  J0Z.entsOfL xs []=e.map .whole/\(J47 ws (e.map .whole) (e.map .whole)).run (Jy s)=some (g.map .whole)/\(J47 ws (g.map .whole) (g.map .whole)).run (Jy s)=some (ids.map .whole):=by
 unfold JDX at h;obtain⟨xs,s1,ws,h1,j,h⟩:=Jkg (Fzd.refl s) h;rw[Jhp]at j;obtain⟨e,h2,h⟩:=J22 h;obtain⟨g,h3,h4⟩:=J22 h;exact⟨_,ws,e,g,h1,Jdv (lns s.sto) (l:=[]) h2,J9p j h3,J9p j h4⟩
theorem JF9{F:Orc}{f:FuncId}{vs:List AV}{n new:Nat}{st:St}{S:Nat->Prop}{a:List AV×List (Nat×Blk)}(ha:(J78 vs).run st=some a)(hr:Rb S (J78 vs) st)
  (h: ∀(_:Unit),Rb S (J3a F f a n new) st):Rb S (J5I F f vs n new) st:=by
 unfold J5I;refine J0d hr λk g=>?_;rw[ha]at g;injection g with g;subst g
 have h:=h ();unfold J3a at h;intro b hb;refine h b ?_
 revert hb
 simp only[J5Y];intro hb;rcases J1U.1 hb with hb|hb
 ·exact J1U.2 (.inl hb)
 ·refine J1U.2 (.inr ?_)
  revert hb
  cases(J47 a.2 (J0Z.entsOfL a.1 []) (J0Z.entsOfL a.1 [])).run st with
  |none=>intro hb;exact hb
  |some j=>
   simp only[J3l,Option.getD_some,J5Y];intro hb;rcases J1U.1 hb with hb|hb
   ·exact J1U.2 (.inl hb)
   ·refine J1U.2 (.inr ?_)
    revert hb
    cases(J47 a.2 j j).run st with
    |none=>intro hb;exact hb
    |some es=>
     simp only[J3l,Option.getD_some];split
     ·split
      ·intro hb;exact hb
      ·simp only[J5Y];intro hb;rcases J1U.1 hb with hb|hb
       ·exact J1U.2 (.inl hb)
       ·refine J1U.2 (.inr ?_)
        revert hb
        cases(J5j a.2 (λe=>J2h e es 0) es).run st with
        |none=>intro hb;exact hb
        |some bl=>
         simp only[J3l,Option.getD_some];split
         ·intro hb;exact hb
         ·split
          ·rename_i hlen;rw[if_pos (by omega)];intro hb;exact hb
          ·intro hb;simp[RM.reads]at hb
     ·intro hb;exact hb
theorem JJJ(F:Orc){op:TOp}{new:Nat}{s:TSt}{U W:List Nat}(h:uw op new s=some (U,W)):UW F (erp op) new (Jy s) U W:=by
 unfold uw at h;split at h
 ·rename_i agg t x;obtain⟨v,hv,h⟩:=J22 h;injection h with h;injection h with h1 h2;subst h1 h2;refine⟨J7g (op:=.load agg t x) (λj hj=>by simp[J1H]at hj) (J0d (J71 _) λa ha=>?_),λe he y hy=>?_⟩
  ·rw[J64 hv ha];exact JGJ λb hb=>by rw[J4S]at hb;exact hb
  ·have he:=J5U he;simp only[erp,opR]at he;obtain⟨a,ha,he⟩:=bind_some he;rw[JGB he]at hy;simp at hy
 ·rename_i t;injection h with h;injection h with h1 h2;subst h1 h2;refine⟨J7g (op:=.newbox t) (λj hj=>by simp[J1H]at hj;subst hj;simp) (J0m _),λe he y hy=>?_⟩;have he:=J5U he;injection he with he;subst he;simp only[J9K]at hy;subst hy;simp
 ·rename_i t x y;obtain⟨v,hv,h⟩:=J22 h;obtain⟨u,hu,h⟩:=J22 h;injection h with h;injection h with h1 h2;subst h1 h2;refine⟨J7g (op:=.store t x y) (λj hj=>by simp[J1H]at hj) (J0d (J71 _) λa ha=>J0d (J71 _) λc hc=>?_),λe he z hz=>?_⟩
  ·rw[J64 hv ha,J64 hu hc];exact JF7 (λb hb=>by rw[J4S]at hb;simp[hb]) (λb hb=>by rw[J4S]at hb;simp[hb])
  ·have he:=J5U he;simp only[erp,opR]at he;obtain⟨a,ha,he⟩:=bind_some he;obtain⟨c,hc,he⟩:=bind_some he;have:=JFJ he z hz;rwa[J64 hv ha,J64 hu hc,J4S,J4S]at this
 ·rename_i t x i;obtain⟨v,hv,h⟩:=J22 h;injection h with h;injection h with h1 h2;subst h1 h2;refine⟨J7g (op:=.iaddr t x i) (λj hj=>by simp[J1H]at hj) (J0d (J71 _) λa ha=>J0d (J71 _) λc hc=>?_),λe he y hy=>?_⟩
  ·rw[J64 hv ha];exact JDw λb hb=>by rw[J4S]at hb;exact hb
  ·have he:=J5U he;simp only[erp,opR]at he;obtain⟨a,ha,he⟩:=bind_some he;obtain⟨c,hc,he⟩:=bind_some he;rw[JFA he]at hy;simp at hy
 ·rename_i own t n ps;obtain⟨l,hl,h⟩:=J22 h;injection h with h;injection h with h1 h2;subst h1 h2;have C: ∀x∈ps.map (λx=>erO x.2),∀v,(ev x).run (Jy s)=some v-> ∀b∈avR v,b∈rng new (J1H (.lits own t n ps))++l:=by
   have D: ∀(ps:List (Nat×TO)) (l:List Nat),tpR s ps=some l-> ∀x∈ps.map (λx=>erO x.2),∀v,(ev x).run (Jy s)=some v-> ∀b∈avR v,b∈l:=by
    intro ps
    induction ps with
    |nil=>intro l _ x hx;simp at hx
    |cons p ps ih=>
     intro l hl x hx v hv b hb;obtain⟨i,o⟩:=p;simp only[tpR]at hl;obtain⟨u,hu,hl⟩:=J22 hl;obtain⟨q,hq,hl⟩:=J22 hl;injection hl with hl;subst hl;simp only[J1n,J2U]at hx;rcases hx with rfl|hx
     ·rw[J64 hu hv,J4S]at hb;simp[hb]
     ·simp[ih q hq x hx v hv b hb]
   intro x hx v hv b hb;exact J1U.2 (.inr (D ps l hl x hx v hv b hb))
  have e1:(ps.map λx=>(x.1,erO x.2)).map (·.2)=ps.map λx=>erO x.2:=by simp
  refine⟨J7g (op:=.lits own t n ps) (λj hj=>J1U.2 (.inl (J7s hj))) ?_,λe he y hy=>?_⟩
  ·simp only[erp,opR,e1];refine J0d (JCa C) λa _=>?_;split
   ·split<;>exact J0m _
   ·exact JY
  ·have he:=J5U he;simp only[erp,opR,e1]at he;obtain⟨a,ha,he⟩:=bind_some he;split at he
   ·split at he
    ·rename_i ho;injection he with he;subst he;simp only[J1U,J9K]at hy;rcases hy with hy|rfl
     ·exact Jtz C ha y hy
     ·exact J1U.2 (.inl (by have:=J7s (k:=J1H (.lits own t n ps)) (new:=new) (j:=0) (by simp[J1H,ho]);simpa using this))
    ·injection he with he;subst he;exact Jtz C ha y hy
   ·cases he
 ·rename_i t bytes y;obtain⟨v,hv,h⟩:=J22 h;injection h with h;injection h with h1 h2;subst h1 h2;refine⟨J7g (op:=.appn t bytes y) (λj hj=>by simp[J1H]at hj;subst hj;simp) (J0d (J71 _) λa ha=>?_),λe he z hz=>?_⟩
  ·rw[J64 hv ha];refine J0d (Jn7 λb hb=>by rw[J4S]at hb;simp[hb]) λrows _=>?_;split<;>first|exact J0m _|exact JY
  ·have he:=J5U he;simp only[erp,opR]at he;obtain⟨a,ha,he⟩:=bind_some he;obtain⟨rows,_,he⟩:=bind_some he;split at he
   ·injection he with he;subst he;simp only[J9K]at hz;subst hz;simp
   ·cases he
 ·rename_i t bytes x y;obtain⟨v,hv,h⟩:=J22 h;obtain⟨u,hu,h⟩:=J22 h;injection h with h;injection h with h1 h2;subst h1 h2;refine⟨J7g (op:=.app t bytes x y) (λj hj=>by simp[J1H]at hj) (J0d (J71 _) λa ha=>J0d (J71 _) λc hc=>?_),λe he z hz=>?_⟩
  ·rw[J64 hv ha,J64 hu hc];exact JJ2 (λb hb=>by rw[J4S]at hb;simp[hb]) (λb hb=>by rw[J4S]at hb;simp[hb])
  ·have he:=J5U he;simp only[erp,opR]at he;obtain⟨a,ha,he⟩:=bind_some he;obtain⟨c,hc,he⟩:=bind_some he;have:=JIb he z hz;rwa[J64 hv ha,J4S]at this
 ·rename_i G x lo hi mx;obtain⟨v,hv,h⟩:=J22 h;injection h with h;injection h with h1 h2;subst h1 h2;refine⟨J7g (op:=.slice G x lo hi mx) (λj hj=>by simp[J1H]at hj) (J0d (J71 _) λa ha=>J0d (Jwc _) λ_ _=>J0d (Jwc _) λ_ _=>J0d (Jwc _) λ_ _=>?_),λe he z hz=>?_⟩
  ·have e:=J64 hv ha;split
   ·refine J0d (JlW λb hb=>?_) λy _=>?_
    ·rw[e,J4S]at hb;exact hb
    ·split
     ·split<;>first|exact J0m _|exact JY
     ·exact JY
   ·exact JkC _
  ·have he:=J5U he;simp only[erp,opR]at he;obtain⟨a,ha,he⟩:=bind_some he;obtain⟨_,_,he⟩:=bind_some he;obtain⟨_,_,he⟩:=bind_some he;obtain⟨_,_,he⟩:=bind_some he;have e0:=J64 hv ha;split at he
   ·obtain⟨y,hy,he⟩:=bind_some he;split at he
    ·split at he
     ·injection he with he;subst he;have:=Jmd hy z hz;rwa[e0,J4S]at this
     ·cases he
    ·cases he
   ·rw[JkP he]at hz;simp at hz
 ·rename_i f args n;obtain⟨l,hl,h⟩:=J22 h;unfold tcU at h;obtain⟨ids,hi,h⟩:=J22 h;injection h with h;injection h with h1 h2;subst h1 h2;obtain⟨xs,ws,H,I,q1,q2,q3,B⟩:=Jzl hi;obtain⟨e1,e2⟩:=JaJ hl;rw[JfY]at e1;rw[J8R _ _ (λx hx=>by rw[e2,JnN]at hx;obtain⟨y,_,rfl⟩:=J9s.1 hx;rfl)]at q1
  have g: ∀x∈l.map (λx=>J04 (lns s.sto) x.1),∀b∈avR x,b∈rng new n++(l.flatMap λx=>tvR x.1)++ids:=by intro x hx b hb;obtain⟨y,hy,rfl⟩:=J9s.1 hx;rw[J4S]at hb;simp only[J1U];exact .inl (.inr (List.mem_flatMap.2 ⟨y,hy,hb⟩))
  have E:Rb (· ∈rng new n++(l.flatMap λx=>tvR x.1)++ids) (J78 (l.map λx=>J04 (lns s.sto) x.1)) (Jy s):=by rw[<-JbU];exact JcU g
  have r: ∀y∈ws,y.1∈rng new n++(l.flatMap λx=>tvR x.1)++ids:=by rw[<-JbU]at q1;exact JcM (S:=(· ∈rng new n++(l.flatMap λx=>tvR x.1)++ids)) g q1
  obtain⟨w,A⟩:=Jps (F:=F) (f:=f) (S:=(· ∈rng new n++(l.flatMap λx=>tvR x.1)++ids)) (n:=n) (new:=new) (λb hb=>by simp[hb]) r
   (λj hj=>by simp only[J1U];exact .inl (.inl (J7s hj))) q2 q3 B
  refine⟨J7g (op:=.call f args n) (λj hj=>by simp only[J1U];exact .inl (.inl (J7s hj))) (J0d (JsU _) λa ha=>?_),λe he y hy=>?_⟩
  ·rw[e1]at ha;injection ha with ha;subst ha
   exact JF9 q1 E λ_=>w
  ·have he:=J5U he;simp only[erp,opR]at he;obtain⟨a,ha,he⟩:=bind_some he;rw[e1]at ha;injection ha with ha;subst ha
   obtain⟨ar,h1,h2⟩:=JyW he;rw[q1]at h1;injection h1 with h1;subst h1
   exact A e h2 y hy
 ·rename_i f args n;obtain⟨l,hl,h⟩:=J22 h;unfold tcU at h;obtain⟨ids,hi,h⟩:=J22 h;injection h with h;injection h with h1 h2;subst h1 h2;obtain⟨xs,ws,H,I,q1,q2,q3,B⟩:=Jzl hi;obtain⟨e1,e2⟩:=JaJ hl;have g: ∀x∈l.map (λx=>J04 (lns s.sto) x.1),∀b∈avR x,b∈rng new n++(l.flatMap λx=>tvR x.1)++ids:=by intro x hx b hb;obtain⟨y,hy,rfl⟩:=J9s.1 hx;rw[J4S]at hb;simp only[J1U];exact .inl (.inr (List.mem_flatMap.2 ⟨y,hy,hb⟩))
  rw[e2]at q1;have r: ∀y∈ws,y.1∈rng new n++(l.flatMap λx=>tvR x.1)++ids:=JcM (S:=(· ∈rng new n++(l.flatMap λx=>tvR x.1)++ids)) g q1;obtain⟨w,A⟩:=Jps (F:=F) (f:=f) (S:=(· ∈rng new n++(l.flatMap λx=>tvR x.1)++ids)) (n:=n) (new:=new) (λb hb=>by simp[hb]) r
   (λj hj=>by simp only[J1U];exact .inl (.inl (J7s hj))) q2 q3 B
  refine⟨J7g (op:=.callo f args n) (λj hj=>by simp only[J1U];exact .inl (.inl (J7s hj))) (J0d (JsU _) λa ha=>?_),λe he y hy=>?_⟩
  ·rw[e1]at ha;injection ha with ha;subst ha
   refine J0d (JcU g) λa ha=>?_;rw[q1]at ha;injection ha with ha;subst ha
   exact w
  ·have he:=J5U he;simp only[erp,opR]at he;obtain⟨a,ha,he⟩:=bind_some he;rw[e1]at ha;injection ha with ha;subst ha
   obtain⟨a,ha,he⟩:=bind_some he;rw[q1]at ha;injection ha with ha;subst ha
   exact A e he y hy
 ·rename_i own t bytes l c;injection h with h;injection h with h1 h2;subst h1 h2;refine⟨J7g (op:=.mkslice own t bytes l c) (λj hj=>J7s hj) (J0d (J71 _) λa ha=>J0d (J71 _) λd hd=>?_),λe he y hy=>?_⟩
  ·split
   ·split
    ·split<;>exact J0m _
    ·exact JY
   ·exact JY
  ·have he:=J5U he;simp only[erp,opR]at he;obtain⟨a,ha,he⟩:=bind_some he;obtain⟨d,hd,he⟩:=bind_some he;split at he
   ·split at he
    ·split at he
     ·rename_i ho;injection he with he;subst he;simp only[J9K]at hy;subst hy;have:=J7s (k:=J1H (.mkslice own t bytes l c)) (new:=new) (j:=0) (by simp[J1H,ho]);simpa using this
     ·injection he with he;subst he;simp at hy
    ·cases he
   ·cases he
 ·rename_i k x;obtain⟨v,hv,h⟩:=J22 h;injection h with h;injection h with h1 h2;subst h1 h2;refine⟨J7g (op:=.conv k x) (λj hj=>J1U.2 (.inl (J7s hj))) (J0d (J71 _) λa ha=>?_),λe he y hy=>?_⟩
  ·have hr: ∀b∈avR a,b∈rng new (J1H (.conv k x))++tvR v:=λb hb=>by rw[J64 hv ha,J4S]at hb;simp[hb]
   split
   ·exact J0m _
   ·exact J0m _
   ·refine J0d (Jn7 hr) λrows _=>?_;split<;>first|exact J0m _|exact JY
   ·split<;>exact J0m _
   ·exact JY
  ·have he:=J5U he;simp only[erp,opR]at he;obtain⟨a,ha,he⟩:=bind_some he;split at he
   ·injection he with he;subst he;simp at hy
   ·injection he with he;subst he;simp at hy
   ·obtain⟨rows,_,he⟩:=bind_some he;split at he
    ·injection he with he;subst he;simp at hy
    ·cases he
   ·split at he
    ·rename_i ho;injection he with he;subst he;simp only[J9K]at hy;subst hy;simp[J1H,ho,rng]
    ·injection he with he;subst he;simp at hy
   ·cases he
 ·cases h
abbrev JcW:=Option (List Nat×List Nat)
section
variable {R:Type}
def JII(i:J8J)(s:TSt):Bool:=match i.g with
 |none=>false
 |some (g,e)=>if i.dst=some g then false else match tlk g s.env with
  |some (.a (.c (.d .b x)))=>if x=e then false else true
  |some (.tup [])=>true
  |_=>false
def uwI(i:J8J)(new:Nat)(s s':TSt):JcW:=if JII i s'=true then some ([],[])else uw i.op new s
def Jsm(G:TG):List J8J->Nat->TSt->List JcW->(TSt->List JcW->Option R)->Option R
 |[],_,s,l,k=>k s l
 |i::r,new,s,l,k=>JAQ G i new s λs'=>Jsm G r (new+J1H i.op) s' (l++[uwI i new s s']) k
def Jc3:JcW->(List Nat×List Nat)->Prop
 |none,_=>True
 |some (U,W),x=>(∀b∈x.1,b∈U)/\ ∀b∈x.2,b∈W
def JsB(l:List JcW):List (Nat×Nat)->Bool
 |[]=>true
 |(i,j)::r=>(match l[i]?,l[j]? with
  |some (some a),some (some b)=>J6I a.2 b.1&&J6I a.2 b.2&&J6I a.1 b.2
  |_,_=>false)&&JsB l r
theorem J9O{b:Nat}: ∀{l:List Loc},b∈J4P l->Loc.blk b∈l
 | .blk c::r,h=>by
  simp only[J4P,J2U]at h;rcases h with rfl|h
  ·simp
  ·simp[J9O h]
 | .slot n::r,h=>by simp only[J4P]at h;simp[J9O h]
theorem Jc3.snoc{l:List JcW}{l0:Log}{x:JcW}{y:List Nat×List Nat}(hl:l.length=l0.length)(ho: ∀(j:Nat) a b,l[j]?=some a->l0[j]?=some b->Jc3 a b)(hx:Jc3 x y)(j:Nat)(a:JcW)(b:List Nat×List Nat)(ha:(l++[x])[j]?=some a)(hb:(l0++[y])[j]?=some b):Jc3 a b:=by
 rcases zQ3 j l.length with hj|hj
 ·rw[Jkf hj]at ha;rw[Jkf (by omega)]at hb;exact ho j a b ha hb
 ·rw[Jd3 hj]at ha;rw[Jd3 (by omega)]at hb;have e:j-l.length=0:=by have:=Jw ha;simp at this;omega
  rw[e]at ha;rw[<-hl,e]at hb;simp at ha hb;subst ha hb;exact hx
theorem JH7{F:Orc}{i:J8J}{new:Nat}{s s':TSt}{e:Eff}(h:(J1A F (eri i) new).run (Jy s)=some e)(hp:put i.dst e (Jy s)=Jy s'):Jc3 (uwI i new s s') (J4P ((J1A F (eri i) new).reads (Jy s)),e.ws.map (·.1)):=by
 unfold uwI;split
 ·rename_i hn;unfold JII at hn;split at hn
  ·cases hn
  ·rename_i g j q;split at hn
   ·cases hn
   ·rename_i hd;have r:lk g (Jy s').env=lk g (Jy s).env:=by
     rw[<-hp];unfold put;split
     ·rename_i d o;show lk g ((d,e.val)::(Jy s).env)=_;simp only[lk];rw[if_neg (λe0=>hd (by rw[o,e0]))]
     ·rfl
    have k: ∀v,tlk g s'.env=some v->lk g (Jy s).env=some (J04 (lns s'.sto) v):=λv hv=>by rw[<-r];show lk g (J5J _ s'.env)=_;rw[Jcv,hv];rfl
    split at hn
    ·rename_i x hx;split at hn
     ·cases hn
     ·rename_i hw;have hl:=k _ hx;rw[e_b]at hl;have hi:J1A F (eri i) new=.slot g fun
       | .p (.b x)=>if x=j then opD F (eri i).op new else .ret ⟨J3s,[]⟩
       | .tup []=>.ret ⟨J3s,[]⟩
       |_=>.fail:=by unfold J1A;rw[show(eri i).g=i.g from rfl,q];rfl
      rw[hi]at h⊢;refine⟨λb hb=>?_,λb hb=>?_⟩
      ·have:=J9O hb;simp only[RM.reads,hl,J2U,if_neg hw]at this;rcases this with this|this
       ·cases this
       ·simp at this
      ·simp only[J7V,hl,J06,if_neg hw,JZ]at h;injection h with h;subst h;exact hb
    ·rename_i hx;have hl:=k _ hx;have hl:lk g (Jy s).env=some (.tup []):=hl;have hi:J1A F (eri i) new=.slot g fun
      | .p (.b x)=>if x=j then opD F (eri i).op new else .ret ⟨J3s,[]⟩
      | .tup []=>.ret ⟨J3s,[]⟩
      |_=>.fail:=by unfold J1A;rw[show(eri i).g=i.g from rfl,q];rfl
     rw[hi]at h⊢;refine⟨λb hb=>?_,λb hb=>?_⟩
     ·have:=J9O hb;simp only[RM.reads,hl,J2U]at this;rcases this with this|this
      ·cases this
      ·simp at this
     ·simp only[J7V,hl,J06,JZ]at h;injection h with h;subst h;exact hb
    ·cases hn
 ·cases hu:uw i.op new s with
  |none=>trivial
  |some n=>
   obtain⟨U,W⟩:=n;obtain⟨h1,h2⟩:=JJJ F hu;have hr:Rb (· ∈U) (J1A F (eri i) new) (Jy s):=by
    unfold J1A;split
    ·exact h1
    ·refine Jyu λv hv=>?_;split
     ·split
      ·exact h1
      ·exact J0m _
     ·exact J0m _
     ·exact JY
   refine⟨λb hb=>hr b (J9O hb),λb hb=>?_⟩;obtain⟨y,hy,rfl⟩:=J9s.1 hb;unfold J1A at h;split at h
   ·exact h2 e h y hy
   ·simp only[J7V]at h;obtain⟨v,hv,h⟩:=J2H.1 h;split at h
    ·split at h
     ·exact h2 e h y hy
     ·injection h with h;subst h;simp at hy
    ·injection h with h;subst h;simp at hy
    ·cases h
theorem Jvb{F:Orc}{G:TG}(n:GOk F G): ∀{ins:List J8J} {new:Nat} {s:TSt} {l:List JcW} {l0:Log} {k:TSt->List JcW->Option R} {r:R},l.length=l0.length->(∀(j:Nat) a b,l[j]?=some a->l0[j]?=some b->Jc3 a b)->
  Jsm G ins new s l k=some r-> ∃s' l' g,J4Q F (ins.map eri) new (Jy s) l0=some (Jy s',l')/\k s' g=some r/\g.length=l'.length/\ ∀(j:Nat) a b,g[j]?=some a->l'[j]?=some b->Jc3 a b
 |[],new,s,l,l0,k,r,hl,ho,h=>⟨s,l0,l,rfl,h,hl,ho⟩
 |i::q,new,s,l,l0,k,r,hl,ho,h=>by simp only[Jsm]at h;obtain⟨e,s1,h1,h2,h⟩:=JyA n h;obtain⟨o,l',g,h3,h4,h5,v⟩:=Jvb n (l0:=l0++[(J4P ((J1A F (eri i) new).reads (Jy s)),e.ws.map (·.1))]) (by rw[J4G,J4G,hl];rfl) (Jc3.snoc hl ho (JH7 h1 h2)) h;refine⟨o,l',g,?_,h4,h5,v⟩;simp only[J1n,J4Q,h1];rw[show put (eri i).dst e (Jy s)=Jy s1 from h2,show J7J (eri i).op=J1H i.op from Jfy _,h3]
theorem Jjx{a b e g:List Nat}(h:J6I e g=true)(ha: ∀x∈a,x∈e)(hb: ∀x∈b,x∈g):J6I a b=true:=by unfold J6I at h⊢;rw[JBF]at h⊢;intro x hx;have:=h x (ha x hx);simp only[Jud,List.contains_eq_mem,decide_eq_false_iff_not]at this⊢;exact λhm=>this (hb x hm)
theorem Jvp{l:List JcW}{l':Log}(hl:l.length=l'.length)(ho: ∀(j:Nat) a b,l[j]?=some a->l'[j]?=some b->Jc3 a b): ∀{ps:List (Nat×Nat)},JsB l ps=true->Jc9 l' ps=true
 |[],_=>rfl
 |(i,j)::r,h=>by
  simp only[JsB,J03]at h;obtain⟨h1,h2⟩:=h;simp only[Jc9,J03];refine⟨?_,Jvp hl ho h2⟩;split at h1
  ·rename_i a b ha hb;have hi:i<l'.length:=by have:=Jw ha;omega
   have hj:j<l'.length:=by have:=Jw hb;omega
   have e:=ho i _ _ ha (zQ9 hi);have g:=ho j _ _ hb (zQ9 hj);rw[zQ9 hi,zQ9 hj];simp only[J03]at h1⊢;exact⟨⟨Jjx h1.1.1 e.2 g.1,Jjx h1.1.2 e.2 g.2⟩,Jjx h1.2 e.1 g.2⟩
  ·cases h1
def JEv(G:TG)(pairs:List (Nat×Nat))(ins:List J8J)(s:TSt)(k:TSt->Option R):Option R:=
 match pairs with
 |[]=>Jzy G ins s.sto.length (Jsv (Jl9 ins) s) k
 |p::ps=>Jsm G ins s.sto.length (Jsv (Jl9 ins) s) [] λs' l=>if JsB l (p::ps)=true then k s' else none
theorem JHe{F:Orc}{G:TG}(e:GOk F G){pairs:List (Nat×Nat)}{ins:List J8J}{s:TSt}{k:TSt->Option R}{r:R}(h:JEv G pairs ins s k=some r): ∃s',region F pairs (ins.map eri) (Jy s)=some (Jy s')/\k s'=some r:=by
 have hlen:(Jy s).sto.length=s.sto.length:=by simp[Jy]
 unfold JEv at h;split at h
 ·obtain⟨s',h1,h2⟩:=JyT e h;refine⟨s',?_,h2⟩;simp only[region,Jjv];rw[Juh]at h1;rw[hlen];exact h1
 ·obtain⟨s',l',g,h1,h2,h3,h4⟩:=Jvb e (l0:=[]) rfl (λj a b ha hb=>by simp at ha) h;split at h2
  ·rename_i hp;refine⟨s',?_,h2⟩;simp only[region,Jjv];rw[Juh]at h1;rw[hlen,h1];simp only[Jvp h3 h4 hp,if_true]
  ·cases h2
end
end Go.Am
end
section
namespace Go.Am
def Je8(m:Nat)(ids:List Nat)(s:TSt):TC->Option TC
 | .ptr b p=>if b<m then some (.ptr b p)else match J4N b ids m with
  |some k=>some (.ptr k p)
  |none=>none
 | .slr b=>if b<m then some (.slr b)else match J4N b ids m with
  |some k=>some (.slr k)
  |none=>match s.sto[b]? with
   |some (.arr _ t rows)=>some (.d (.l t) rows)
   |_=>none
 | .slo b n=>if b<m then some (.slo b n)else match J4N b ids m with
  |some k=>some (.slo k n)
  |none=>none
 | .ep b i p=>if b<m then some (.ep b i p)else match J4N b ids m with
  |some k=>some (.ep k i p)
  |none=>none
 | .epo b e i p=>if b<m then some (.epo b e i p)else match J4N b ids m with
  |some k=>some (.epo k e i p)
  |none=>none
 |x=>some x
def Jgk(m:Nat)(ids:List Nat)(s:TSt):List TC->Option (List TC)
 |[]=>some []
 |x::r=>match Je8 m ids s x,Jgk m ids s r with
  |some y,some l=>some (y::l)
  |_,_=>none
def JiK(m:Nat)(ids:List Nat)(s:TSt):TA->Option TA
 | .c x=>match Je8 m ids s x with
  |some y=>some (.c y)
  |none=>none
 | .dt t x=>some (.dt t x)
 | .m t cs=>match Jgk m ids s cs with
  |some l=>match asm t l with
   |some x=>some (.dt t x)
   |none=>if l.any JAR=true then some (.m t l)else none
  |none=>none
 | .fn f a c=>match Jgk m ids s a,Jgk m ids s c with
  |some a,some c=>some (.fn f a c)
  |_,_=>none
def Jif(m:Nat)(ids:List Nat)(s:TSt):List TA->Option (List TA)
 |[]=>some []
 |x::r=>match JiK m ids s x,Jif m ids s r with
  |some y,some l=>some (y::l)
  |_,_=>none
def JB9(m:Nat)(ids:List Nat)(s:TSt):TV->Option TV
 | .a x=>match JiK m ids s x with
  |some y=>some (.a y)
  |none=>none
 | .tup vs=>match Jif m ids s vs with
  |some l=>some (.tup l)
  |none=>none
def JlE(m:Nat)(ids:List Nat)(s:TSt):TB->Option TB
 | .mbox t cs=>match Jgk m ids s cs with
  |some l=>some (mkb t l)
  |none=>none
 |x=>some x
def Jbl(m:Nat)(ids:List Nat)(s:TSt):List TB->Option (List TB)
 |[]=>some []
 |x::r=>match JlE m ids s x,Jbl m ids s r with
  |some y,some l=>some (y::l)
  |_,_=>none
def Jss(m:Nat)(s:TSt):List (Nat×TV)->Option (List (Nat×TV))
 |[]=>some []
 |(k,x)::r=>match JB9 m [] s x,Jss m s r with
  |some y,some l=>some ((k,y)::l)
  |_,_=>none
def J85:List Nat->List (Nat×TV)->List (Nat×TV)
 |[],_=>[]
 |k::r,env=>match tlk k env with
  |some v=>(k,v)::J85 r env
  |none=>J85 r env
theorem Jbf(L:Nat->Nat)(env:List (Nat×TV)): ∀live:List Nat,restr live (J5J L env)=J5J L (J85 live env)
 |[]=>rfl
 |k::r=>by
  simp only[restr,J85,Jcv];cases tlk k env with
  |none=>exact Jbf L env r
  |some v=>
   have ih:=Jbf L env r
   grind [J5J]
section
variable {m:Nat} {ids:List Nat} {s:TSt} {L':Nat->Nat} (h1: ∀b,b<m->L' b=lns s.sto b) (h2: ∀b k,J4N b ids m=some k->L' k=lns s.sto b)
include h1 h2
theorem Jtv{x y:TC}(h:Je8 m ids s x=some y):fin m ids (Jy s).sto (J0r (lns s.sto) x)=some (J0r L' y):=by
 cases x with
 |ptr b p=>
  grind [Je8,J0r,fin]
 |slr b=>
  simp only[Je8]at h;simp only[J0r,fin];split at h
  ·grind
  ·rename_i hb;rw[if_neg hb];split at h
   all_goals grind [J1P,JvH,J5Q,cel,hdP]
 |slo b n=>
  grind [Je8,J0r,fin]
 |ep b i p=>
  grind [Je8,J0r,fin]
 |epo b e i p=>
  grind [Je8,J0r,fin]
 |_=>injection h with h;subst h;rfl
theorem Jg2: ∀{xs e:List TC},Jgk m ids s xs=some e->fin.finL m ids (Jy s).sto (xs.map (J0r (lns s.sto)))=some (e.map (J0r L'))
 |[],e,h=>by injection h with h;subst h;rfl
 |x::r,e,h=>by
  simp only[Jgk]at h;split at h
  ·rename_i y l hy hl;injection h with h;subst h;simp only[J1n,fin.finL,Jtv h1 h2 hy,Jg2 hl]
  ·cases h
theorem Jvt{x y:TA}(h:JiK m ids s x=some y):fin m ids (Jy s).sto (J1r (lns s.sto) x)=some (J1r L' y):=by
 cases x with
 |c x=>
  simp only[JiK]at h;split at h
  ·rename_i y hy;injection h with h;subst h;exact Jtv h1 h2 hy
  ·cases h
 |dt t x=>injection h with h;subst h;rfl
 |m t cs=>
  simp only[JiK]at h;split at h
  ·rename_i l hl;have e:=Jg2 h1 h2 hl
   grind [J1r,fin,JhF,JcY,JoB]
  ·cases h
 |fn f a c=>
  grind [JiK,J1r,fin,Jg2]
theorem Jhm: ∀{xs e:List TA},Jif m ids s xs=some e->fin.finL m ids (Jy s).sto (xs.map (J1r (lns s.sto)))=some (e.map (J1r L'))
 |[],e,h=>by injection h with h;subst h;rfl
 |x::r,e,h=>by
  simp only[Jif]at h;split at h
  ·rename_i y l hy hl;injection h with h;subst h;simp only[J1n,fin.finL,Jvt h1 h2 hy,Jhm hl]
  ·cases h
theorem JEQ{x y:TV}(h:JB9 m ids s x=some y):fin m ids (Jy s).sto (J04 (lns s.sto) x)=some (J04 L' y):=by cases x<;>grind [JB9,Jvt,J04,fin,Jhm]
theorem JDM{x y:TB}(h:JlE m ids s x=some y):J6j m ids (Jy s).sto (J0E (lns s.sto) x)=some (J0E L' y):=by
 cases x with
 |mbox t cs=>
  grind [JlE,Jfc,J6j,Jg2,Jil]
 |box t x=>injection h with h;grind [Jf7,J6j,Jpg]
 |_=>injection h with h;subst h;rfl
theorem Jdo: ∀{xs e:List TB},Jbl m ids s xs=some e->Jbb m ids (Jy s).sto (xs.map (J0E (lns s.sto)))=some (e.map (J0E L'))
 |[],e,h=>by injection h with h;subst h;rfl
 |x::r,e,h=>by
  simp only[Jbl]at h;split at h
  ·rename_i y l hy hl;injection h with h;subst h;simp only[J1n,Jbb,JDM h1 h2 hy,Jdo hl]
  ·cases h
end
theorem JCP{m:Nat}{ids:List Nat}{s:TSt}{x y:TB}(h:JlE m ids s x=some y):lnB y=lnB x:=by
 cases x with
 |mbox t cs=>
  simp only[JlE]at h;split at h
  ·injection h with h;subst h;exact Jiy _ _
  ·cases h
 |_=>injection h with h;subst h;rfl
theorem JbW{m:Nat}{ids:List Nat}{s:TSt}: ∀{xs e:List TB},Jbl m ids s xs=some e->e.length=xs.length/\ ∀(k:Nat),lns e k=lns xs k
 |[],e,h=>by injection h with h;simp_all
 |x::r,e,h=>by
  simp only[Jbl]at h;split at h
  ·rename_i y l hy hl;injection h with h;subst h;obtain⟨q1,q2⟩:=JbW hl;refine⟨by simp[q1],λk=>?_⟩;cases k with
   |zero=>exact JCP hy
   |succ k=>exact q2 k
  ·cases h
theorem JwV{m:Nat}{s:TSt}{L':Nat->Nat}(h1: ∀b,b<m->L' b=lns s.sto b): ∀{env e:List (Nat×TV)},Jss m s env=some e->JhQ m (Jy s).sto (J5J (lns s.sto) env)=some (J5J L' e)
 |[],e,h=>by injection h with h;subst h;rfl
 |(k,x)::r,e,h=>by
  simp only[Jss]at h;split at h
  ·rename_i y l hy hl;injection h with h;subst h;simp only[J5J,J1n,JhQ];rw[JEQ (ids:=[]) h1 (λb k hk=>by cases hk) hy];have ih:=JwV h1 hl
   grind [J5J]
  ·cases h
def J8U(n:Nat)(live:List Nat)(s:TSt):Option TSt:=
 if s.sto.length=n then some ⟨J85 live s.env,s.sto⟩
 else match Jss n s (J85 live s.env),Jbl n [] s (s.sto.take n)with
  |some e,some l=>some ⟨e,l⟩
  |_,_=>none
theorem J9G{n:Nat}{live:List Nat}{s s':TSt}(h:J8U n live s=some s'):clean n live (Jy s)=some (Jy s'):=by
 unfold J8U at h;have hlen:(Jy s).sto.length=s.sto.length:=by simp[Jy]
 split at h
 ·grind [clean,Jy,Jbf]
 ·rename_i hn;split at h
  ·rename_i e l he hl;injection h with h;subst h;obtain⟨q1,q2⟩:=JbW hl;have hL: ∀b,b<n->lns l b=lns s.sto b:=λb hb=>by
    grind [lns]
   unfold clean;rw[hlen,if_neg hn];have e1:=JwV hL he;have e2:=Jdo (ids:=[]) hL (λb k hk=>by cases hk) hl
   grind [Jy,Jbf,List.map_take]
  ·cases h
inductive Jjo where
 |tmp (t:Nat)
 |cell (t:Nat) (agg:Bool) (ty:Ty)
def erR:Jjo->JhP
 | .tmp t=>.tmp t
 | .cell t agg ty=>.cell t agg ty.sz
def JAg(agg:Bool)(ty:Ty)(v:TV)(s:TSt):Option TA:=
 if agg=true\/ty.sz=1 then
  match v with
  | .a (.c (.ptr b []))=>match s.sto[b]? with
   |some (.box t0 x)=>if h:t0=ty then(if agg=true then some (.dt ty (h▸x))else some (.c (.d ty (h▸x))))else none
   |some (.mbox _ cs)=>if cs.length=ty.sz then
    match mka agg ty cs with
    |some (.a x)=>some x
    |_=>none
    else none
   |_=>none
  |_=>none
 else none
theorem JDL{agg:Bool}{ty:Ty}{v:TV}{s:TSt}{x:TA}(h:JAg agg ty v s=some x): ∃e,(J4p agg ty.sz (J04 (lns s.sto) v)).run (Jy s)=some e/\e.val=J1r (lns s.sto) x:=by
 unfold JAg at h;split at h
 ·rename_i ha;split at h
  ·rename_i b;split at h
   ·rename_i t0 y hb;split at h
    ·rename_i g;subst g;refine⟨⟨J1r (lns s.sto) x,[]⟩,?_,rfl⟩;have hc:J41 agg ((cel t0 y).map .p)=J4D agg (cel t0 y):=by
      unfold J41 J4D;split
      ·rw[JcY]
      ·cases hcel:cel t0 y with
       |nil=>rfl
       |cons a l=>cases l<;>rfl
     have he:sub (cel t0 y) 0 t0.sz=some (cel t0 y):=JoK (J21 _ _);have hm:=Jfg (lns s.sto) ha y;simp only[J6P,spo,J4p,J1F,J1P,hb,J3l,J06,Jf7,JaI,he,hc,hm,val,JZ];unfold mkv;split at h
     ·rename_i h1;injection h with h;subst h;rw[if_pos h1];rfl
     ·rename_i h1;injection h with h;subst h;rw[if_neg h1];rfl
    ·cases h
   ·rename_i cs hb;split at h
    ·rename_i hn;split at h
     ·rename_i y hy;injection h with h;subst h;have he:sub cs 0 ty.sz=some cs:=JoK hn;refine⟨⟨J1r (lns s.sto) y,[]⟩,?_,rfl⟩;simp only[J6P,spo,J4p,J1F,J1P,hb,J3l,J06,Jfc,JaI,he,JeX (lns s.sto) hy,val,JZ];rfl
     ·cases h
    ·cases h
   ·cases h
  ·cases h
 ·cases h
def Jo7:List Jjo->TSt->Option (List TA)
 |[],_=>some []
 | .tmp t::r,s=>match tlk t s.env,Jo7 r s with
  |some (.a x),some l=>some (x::l)
  |_,_=>none
 | .cell t agg ty::r,s=>match tlk t s.env with
  |some v=>match JAg agg ty v s,Jo7 r s with
   |some x,some l=>some (x::l)
   |_,_=>none
  |none=>none
theorem JyZ(s:TSt)(t:Nat):(RM.slot t RM.ret).run (Jy s)=(tlk t s.env).map (J04 (lns s.sto)):=by rw[J7V];show(lk t (J5J _ s.env)).bind _=_;simp[Jcv]
theorem JnH{s:TSt}: ∀{g:List Jjo} {l:List TA},Jo7 g s=some l->(Jby (g.map erR)).run (Jy s)=some (l.map (J1r (lns s.sto)))
 |[],l,h=>by injection h with h;subst h;rfl
 | .tmp t::r,l,h=>by
  simp only[Jo7]at h;split at h
  ·rename_i x l' hx hl;injection h with h;subst h;simp only[J1n,erR,Jby,run_bind,JyZ,hx,J3l,J06,JnH hl,JZ];rfl
  ·cases h
 | .cell t agg ty::r,l,h=>by
  simp only[Jo7]at h;split at h
  ·rename_i v hv;split at h
   ·rename_i x l' hx hl;injection h with h;subst h;obtain⟨e,q1,q2⟩:=JDL hx;simp only[J1n,erR,Jby,run_bind,JyZ,hv,J3l,J06,q1,JnH hl,JZ,q2]
   ·cases h
  ·cases h
def Jlp(s:TSt):List Nat->List Nat->Option (List Nat)
 |[],acc=>some acc
 |b::r,acc=>match s.sto[b]? with
  |some (.mbox _ cs)=>match Jef cs acc with
   |some acc=>Jlp s r acc
   |none=>none
  |some _=>Jlp s r acc
  |none=>none
theorem JfO{s:TSt}: ∀{r acc l:List Nat},Jlp s r acc=some l->Jb9 (Jy s).sto (r.map .whole) (acc.map .whole)=l.map .whole
 |[],acc,l,h=>by injection h with h;subst h;rfl
 |b::r,acc,l,h=>by
  simp only[Jlp]at h;split at h
  ·rename_i cs hb;split at h
   ·rename_i e ha;simp only[J1n,Jb9,J1P,hb,J3l,Jfc,JcJ (lns s.sto) ha];exact JfO h
   ·cases h
  ·rename_i x hn hb;simp only[J1n,Jb9,J1P,hb,J3l];cases x with
   |mbox t cs=>simp_all
   |box t x=>simp only[Jf7];rw[Jpm];exact JfO h
   |_=>exact JfO h
  ·cases h
def J4r(m:Nat)(fresh:Bool)(s:TSt):List Nat->List Nat
 |[]=>[]
 |b::r=>if b<m then J4r m fresh s r else
  match s.sto[b]? with
  |some (.box _ _)=>b::J4r m fresh s r
  |some (.mbox _ _)=>b::J4r m fresh s r
  |some (.arr _ _ _)=>if fresh=true then b::J4r m fresh s r else J4r m fresh s r
  |_=>J4r m fresh s r
theorem JkA{m:Nat}{fresh:Bool}{s:TSt}: ∀r:List Nat,J4O m fresh (Jy s).sto (r.map .whole)=J4r m fresh s r
 |[]=>rfl
 |b::r=>by
  simp only[J1n,J4O,J4r,J1P];rw[JkA r];split
  ·rfl
  ·cases s.sto[b]? with
   |none=>rfl
   |some x=>cases x<;>rfl
def Jsl(s:TSt):List Nat->Option (List TB)
 |[]=>some []
 |b::r=>match s.sto[b]?,Jsl s r with
  |some x,some l=>some (x::l)
  |_,_=>none
theorem JwL{s:TSt}: ∀{ids:List Nat} {l:List TB},Jsl s ids=some l->Jdr (Jy s).sto ids=some (l.map (J0E (lns s.sto)))/\l.length=ids.length/\ ∀(j b:Nat),ids[j]?=some b->lns l j=lns s.sto b
 |[],l,h=>by injection h with h;simp_all
 |b::r,l,h=>by
  simp only[Jsl]at h;split at h
  ·rename_i x l' hx hl;injection h with h;subst h;obtain⟨q1,q2,q3⟩:=JwL hl
   grind [Jdr,J1P,lns]
  ·cases h
def Jwh:List TA->TV
 |[x]=>.a x
 |l=>.tup l
theorem Jyz(L:Nat->Nat)(l:List TA):one (l.map (J1r L))=J04 L (Jwh l):=by
 match l with
 |[]=>rfl
 |[x]=>rfl
 |x::y::r=>rfl
section
variable {R:Type}
def Jf9(res:List Jjo)(fresh:Bool)(m:Nat)(s:TSt)(E:TV->List TB->Option R):Option R:=
 match Jo7 res s with
 |none=>none
 |some vs=>
  if s.sto.length=m then E (Jwh vs) s.sto
  else match Jf2 vs []with
   |none=>none
   |some g=>match Jlp s g g with
    |none=>none
    |some e=>if J4T (J4r m fresh s e)=true/\m<=s.sto.length then
     match Jif m (J4r m fresh s e) s vs,Jbl m (J4r m fresh s e) s (s.sto.take m),Jsl s (J4r m fresh s e)with
     |some ws,some l,some q=>match Jbl m (J4r m fresh s e) s q with
      |some q'=>E (Jwh ws) (l++q')
      |none=>none
     |_,_,_=>none
     else none
theorem JBC{f:AFn}{res:List Jjo}{fresh:Bool}{m:Nat}{s:TSt}{E:TV->List TB->Option R}{r:R}(n:f.res=res.map erR)(D:f.fresh=fresh)(h:Jf9 res fresh m s E=some r):
  ∃v out,J3F f m (Jy s)=some (J04 (lns out) v,out.map (J0E (lns out)))/\E v out=some r:=by
 unfold Jf9 at h;have hlen:(Jy s).sto.length=s.sto.length:=by simp[Jy]
 split at h
 ·cases h
 ·rename_i vs hvs;have e0:=JnH hvs;split at h
  ·rename_i hn;refine⟨Jwh vs,s.sto,?_,h⟩;unfold J3F;rw[n,e0];dsimp only;rw[hlen,if_pos hn,Jyz];rfl
  ·rename_i hn;split at h
   ·cases h
   ·rename_i A y;split at h
    ·cases h
    ·rename_i x o;split at h
     ·rename_i j;obtain⟨G,hm⟩:=j;generalize g:J4r m fresh s x=ids at*;split at h
      ·rename_i ws l q w hl hq;split at h
       ·rename_i q' e;refine⟨Jwh ws,l++q',?_,h⟩;obtain⟨P,l2⟩:=JbW hl;obtain⟨M,J,H⟩:=JwL hq;obtain⟨K,N⟩:=JbW e;have C:l.length=m:=by simp_all
        have h1: ∀b,b<m->lns (l++q') b=lns s.sto b:=λb hb=>by
         have:=l2 b
         grind [lns]
        have h2: ∀b k,J4N b ids m=some k->lns (l++q') k=lns s.sto b:=λb k hk=>by
         obtain⟨F,B⟩:=Jdk hk
         grind [lns]
        have e1:=Jhm h1 h2 w;have e2:=Jdo h1 h2 hl;have O:=Jdo h1 h2 e;have Q:J0Z.entsOfL (vs.map (J1r (lns s.sto))) []=A.map .whole:=Jdv (lns s.sto) (l:=[]) y;have I:=JfO o;have z:=JkA (m:=m) (fresh:=fresh) (s:=s) x;rw[g]at z;have L:(Jy s).sto.take m=(s.sto.take m).map (J0E (lns s.sto)):=by simp[Jy]
        grind [J3F,Jyz]
       ·cases h
      ·cases h
     ·cases h
end
end Go.Am
end
section
namespace Go.Am
inductive ShC where
 |d (t:Ty)
 |sc (t:Ty)
 |np
 |nf
 |un
 |ptr (b:Nat) (p:List Sp)
 |cp (t:Ty) (p:List Sp)
 |slr (b:Nat)
 |fn (f:FuncId)
 deriving DecidableEq
inductive ShA where
 |c (x:ShC)
 |dt (t:Ty)
 |m (t:Ty) (cs:List ShC)
 |fn (f:FuncId) (a c:List ShC)
 deriving DecidableEq
inductive ShV where
 |a (x:ShA)
 |tup (vs:List ShA)
 deriving DecidableEq
inductive ShB where
 |dead
 |box (t:Ty)
 |mbox (t:Ty) (cs:List ShC)
 |arr (w:Bool) (t:Ty)
 deriving DecidableEq
structure ShS where
 env:List (Nat×ShV)
 sto:List ShB
 deriving DecidableEq
abbrev Lf:=(t:Ty)×t.D
def shC:TC->Option (ShC×List Lf)
 | .d t x=>some (.d t,[⟨t,x⟩])
 | .sc t rows=>some (.sc t,[⟨.l t,rows⟩])
 | .np=>some (.np,[])
 | .nf=>some (.nf,[])
 | .un=>some (.un,[])
 | .ptr b p=>if(Jg4 p).isSome=true then some (.ptr b p,[])else none
 | .cp t x p=>if(Jg4 p).isSome=true then some (.cp t p,[⟨t,x⟩])else none
 | .slr b=>some (.slr b,[])
 | .fn f=>some (.fn f,[])
 |_=>none
def lf1(t:Ty)(l:List Lf):Option (t.D×List Lf):=
 match l with
 |⟨t',x⟩::r=>if h:t'=t then some (h▸x,r)else none
 |[]=>none
def mkC:ShC->List Lf->Option (TC×List Lf)
 | .d t,l=>match lf1 t l with
  |some (x,r)=>some (.d t x,r)
  |none=>none
 | .sc t,l=>match lf1 (.l t) l with
  |some (x,r)=>some (.sc t x,r)
  |none=>none
 | .np,l=>some (.np,l)
 | .nf,l=>some (.nf,l)
 | .un,l=>some (.un,l)
 | .ptr b p,l=>some (.ptr b p,l)
 | .cp t p,l=>match lf1 t l with
  |some (x,r)=>some (.cp t x p,r)
  |none=>none
 | .slr b,l=>some (.slr b,l)
 | .fn f,l=>some (.fn f,l)
theorem Jic(t:Ty)(x:t.D)(r:List Lf):lf1 t (⟨t,x⟩::r)=some (x,r):=by simp[lf1]
theorem JhH{x:TC}{sh:ShC}{e:List Lf}(h:shC x=some (sh,e))(rest:List Lf):mkC sh (e++rest)=some (x,rest):=by
 cases x<;>simp only[shC]at h<;>first
  |(split at h
    ·simp only[Option.some.injEq,Prod.mk.injEq]at h;obtain⟨rfl,rfl⟩:=h;simp only[Jk1,Jhp,mkC,Jic]
    ·cases h)
  |(simp only[Option.some.injEq,Prod.mk.injEq]at h
    obtain⟨rfl,rfl⟩:=h;simp only[Jk1,Jhp,mkC,Jic])
  |cases h
def shL{α σ:Type}(f:α->Option (σ×List Lf)):List α->Option (List σ×List Lf)
 |[]=>some ([],[])
 |x::r=>match f x,shL f r with
  |some (s,l),some (q,k)=>some (s::q,l++k)
  |_,_=>none
def mkL{α σ:Type}(g:σ->List Lf->Option (α×List Lf)):List σ->List Lf->Option (List α×List Lf)
 |[],l=>some ([],l)
 |s::r,l=>match g s l with
  |some (x,l)=>match mkL g r l with
   |some (q,l)=>some (x::q,l)
   |none=>none
  |none=>none
theorem J8a{α σ:Type}{f:α->Option (σ×List Lf)}{g:σ->List Lf->Option (α×List Lf)}(n: ∀{x:α} {s:σ} {e:List Lf},f x=some (s,e)-> ∀rest,g s (e++rest)=some (x,rest)):
  ∀{xs:List α} {j:List σ} {e:List Lf},shL f xs=some (j,e)-> ∀rest,mkL g j (e++rest)=some (xs,rest)
 |[],j,e,h,rest=>by injection h with h;injection h with h1 h2;subst h1 h2;rfl
 |x::r,j,e,h,rest=>by
  simp only[shL]at h;split at h
  ·rename_i s l q k h1 h2;injection h with h;injection h with h3 h4;subst h3 h4;simp only[mkL,J8H,n h1,J8a n h2]
  ·cases h
def shA:TA->Option (ShA×List Lf)
 | .c x=>match shC x with
  |some (s,l)=>some (.c s,l)
  |none=>none
 | .dt t x=>some (.dt t,[⟨t,x⟩])
 | .m t cs=>match shL shC cs with
  |some (s,l)=>some (.m t s,l)
  |none=>none
 | .fn f a c=>match shL shC a,shL shC c with
  |some (s,l),some (q,k)=>some (.fn f s q,l++k)
  |_,_=>none
def mkA:ShA->List Lf->Option (TA×List Lf)
 | .c s,l=>match mkC s l with
  |some (x,l)=>some (.c x,l)
  |none=>none
 | .dt t,l=>match lf1 t l with
  |some (x,l)=>some (.dt t x,l)
  |none=>none
 | .m t s,l=>match mkL mkC s l with
  |some (x,l)=>some (.m t x,l)
  |none=>none
 | .fn f a c,l=>match mkL mkC a l with
  |some (x,l)=>match mkL mkC c l with
   |some (y,l)=>some (.fn f x y,l)
   |none=>none
  |none=>none
theorem Jtg{x:TA}{sh:ShA}{e:List Lf}(h:shA x=some (sh,e))(rest:List Lf):mkA sh (e++rest)=some (x,rest):=by
 cases x with
 |c x=>
  simp only[shA]at h;split at h
  ·rename_i s l h1;injection h with h;injection h with h2 h3;subst h2 h3;simp only[mkA,JhH h1]
  ·cases h
 |dt t x=>injection h with h;grind [mkA,Jic]
 |m t cs=>
  simp only[shA]at h;split at h
  ·rename_i s l h1;injection h with h;injection h with h2 h3;subst h2 h3;simp only[mkA,J8a JhH h1]
  ·cases h
 |fn f a c=>
  simp only[shA]at h;split at h
  ·rename_i s l q k h1 h2;injection h with h;injection h with h3 h4;subst h3 h4;simp only[mkA,J8H,J8a JhH h1,J8a JhH h2]
  ·cases h
def shV:TV->Option (ShV×List Lf)
 | .a x=>match shA x with
  |some (s,l)=>some (.a s,l)
  |none=>none
 | .tup vs=>match shL shA vs with
  |some (s,l)=>some (.tup s,l)
  |none=>none
def mkV:ShV->List Lf->Option (TV×List Lf)
 | .a s,l=>match mkA s l with
  |some (x,l)=>some (.a x,l)
  |none=>none
 | .tup s,l=>match mkL mkA s l with
  |some (x,l)=>some (.tup x,l)
  |none=>none
theorem JCC{x:TV}{sh:ShV}{e:List Lf}(h:shV x=some (sh,e))(rest:List Lf):mkV sh (e++rest)=some (x,rest):=by
 cases x with
 |a x=>
  simp only[shV]at h;split at h
  ·rename_i s l h1;injection h with h;injection h with h2 h3;subst h2 h3;simp only[mkV,Jtg h1]
  ·cases h
 |tup vs=>
  simp only[shV]at h;split at h
  ·rename_i s l h1;injection h with h;injection h with h2 h3;subst h2 h3;simp only[mkV,J8a Jtg h1]
  ·cases h
def shB:TB->Option (ShB×List Lf)
 | .dead=>some (.dead,[])
 | .box t x=>some (.box t,[⟨t,x⟩])
 | .mbox t cs=>match shL shC cs with
  |some (s,l)=>some (.mbox t s,l)
  |none=>none
 | .arr w t rows=>some (.arr w t,[⟨.l t,rows⟩])
def mkB:ShB->List Lf->Option (TB×List Lf)
 | .dead,l=>some (.dead,l)
 | .box t,l=>match lf1 t l with
  |some (x,l)=>some (.box t x,l)
  |none=>none
 | .mbox t s,l=>match mkL mkC s l with
  |some (x,l)=>some (.mbox t x,l)
  |none=>none
 | .arr w t,l=>match lf1 (.l t) l with
  |some (x,l)=>some (.arr w t x,l)
  |none=>none
theorem JuE{x:TB}{sh:ShB}{e:List Lf}(h:shB x=some (sh,e))(rest:List Lf):mkB sh (e++rest)=some (x,rest):=by
 cases x with
 |dead=>injection h with h;injection h with h2 h3;subst h2 h3;rfl
 |box t x=>injection h with h;grind [mkB,Jic]
 |mbox t cs=>
  simp only[shB]at h;split at h
  ·rename_i s l h1;injection h with h;injection h with h2 h3;subst h2 h3;simp only[mkB,J8a JhH h1]
  ·cases h
 |arr w t rows=>injection h with h;grind [mkB,Jic]
def shE(x:Nat×TV):Option ((Nat×ShV)×List Lf):=match shV x.2 with
 |some (s,l)=>some ((x.1,s),l)
 |none=>none
def mkE(x:Nat×ShV)(l:List Lf):Option ((Nat×TV)×List Lf):=match mkV x.2 l with
 |some (v,l)=>some ((x.1,v),l)
 |none=>none
theorem JHL{x:Nat×TV}{sh:Nat×ShV}{e:List Lf}(h:shE x=some (sh,e))(rest:List Lf):mkE sh (e++rest)=some (x,rest):=by
 unfold shE at h;split at h
 ·rename_i s l h1;injection h with h;injection h with h2 h3;subst h2 h3;simp only[mkE,JCC h1]
 ·cases h
def shS(s:TSt):Option (ShS×List Lf):=match shL shE s.env,shL shB s.sto with
 |some (a,l),some (c,k)=>some (⟨a,c⟩,l++k)
 |_,_=>none
def Jhj(s:ShS)(l:List Lf):Option TSt:=match mkL mkE s.env l with
 |some (a,l)=>match mkL mkB s.sto l with
  |some (c,[])=>some ⟨a,c⟩
  |_=>none
 |none=>none
theorem JyQ{x:TSt}{sh:ShS}{g:List Lf}(h:shS x=some (sh,g)):Jhj sh g=some x:=by
 unfold shS at h;split at h
 ·rename_i a l c k h1 h2;injection h with h;injection h with h3 h4;subst h3 h4;have e:=J8a JuE h2 [];rw[JbA]at e;simp only[Jhj,J8a JHL h1,e]
 ·cases h
def tyL:List Ty->Ty
 |[]=>.u
 |[t]=>t
 |t::t'::r=>.pr t (tyL (t'::r))
def Jui:(e:List Lf)->(tyL (e.map (·.1))).D
 |[]=>()
 |[x]=>x.2
 |x::y::r=>(x.2,Jui (y::r))
def J9d:(ts:List Ty)->(tyL ts).D->List Lf
 |[],_=>[]
 |[t],x=>[⟨t,x⟩]
 |t::t'::r,x=>⟨t,x.1⟩::J9d (t'::r) x.2
theorem JhD: ∀e:List Lf,J9d (e.map (·.1)) (Jui e)=e
 |[]=>rfl
 |[x]=>rfl
 |x::y::r=>by
  have:=JhD (y::r)
  grind [J9d,Jui]
def asL(ts:List Ty)(e:List Lf):Option (tyL ts).D:=if h:e.map (·.1)=ts then some (h▸Jui e)else none
theorem Jvk{ts:List Ty}{e:List Lf}{x:(tyL ts).D}(h:asL ts e=some x):J9d ts x=e:=by
 grind [asL,JhD]
def JoS(sh:ShS)(ts:List Ty)(s:TSt):Option (tyL ts).D:=match shS s with
 |some (e,g)=>if e=sh then asL ts g else none
 |none=>none
theorem Jzu{sh:ShS}{ts:List Ty}{s:TSt}{x:(tyL ts).D}(h:JoS sh ts s=some x):Jhj sh (J9d ts x)=some s:=by
 grind [JoS,Jvk,JyQ]
inductive TCo where
 |skip
 |bad
 |reg (draw:Bool) (pairs:List (Nat×Nat)) (ins:List J8J)
 |seq (a b:TCo)
 |cond (c:TO) (a b:TCo)
 |block (id:Nat) (c:TCo)
 |loop (live:List Nat) (c:TCo)
 |scope (c:TCo)
 |exit (id:Nat)
 |ret
 |keep (live:List Nat) (c:TCo)
 |tidy (live:List Nat) (c:TCo)
 |jn (sh:ShS) (ts:List Ty) (a b:TCo)
def erc:TCo->J17
 | .skip=>.skip
 | .bad=>.bad
 | .reg d p ins=>.reg d p (ins.map eri)
 | .seq a b=>.seq (erc a) (erc b)
 | .cond c a b=>.cond (erO c) (erc a) (erc b)
 | .block id c=>.block id (erc c)
 | .loop live c=>.loop live (erc c)
 | .scope c=>.scope (erc c)
 | .exit id=>.exit id
 | .ret=>.ret
 | .keep live c=>.keep live (erc c)
 | .tidy live c=>.tidy live (erc c)
 | .jn sh _ a b=>.seq (erc a) (.keep (sh.env.map (·.1)) (erc b))
structure TK(R:Type) where
 n:TSt->Option R
 x:Nat->TSt->Option R
 r:TSt->Option R
def TK.at'{R:Type}(K:TK R):AX->TSt->Option R
 | .normal=>K.n
 | .exit i=>K.x i
 | .ret=>K.r
def rbO(c:TO)(v:Bool)(s:TSt):TSt:=match c with
 | .t n=>rb n (vb v) s
 | .c _=>s
def jnO{σ R:Type}(m:Option (σ⊕R))(f:σ->Option R):Option R:=match m with
 |some (.inl x)=>f x
 |some (.inr r)=>some r
 |none=>none
def inl?{σ R:Type}(m:Option σ):Option (σ⊕R):=match m with
 |some x=>some (.inl x)
 |none=>none
def onO{α R:Type}(m:Option α)(k:α->Option R):Option R:=match m with
 |some x=>k x
 |none=>none
theorem J6m{α R:Type}{m:Option α}{k:α->Option R}{r:R}(h:onO m k=some r): ∃x,m=some x/\k x=some r:=by
 cases m with
 |none=>cases h
 |some x=>exact⟨x,rfl,h⟩
def JAr{R:Type}(clean:TSt->Option TSt)(body:(TSt->Option R)->TSt->Option R):Nat->TSt->Option R
 |0,_=>none
 |k+1,s=>body (λs'=>onO (clean s') (JAr clean body k)) s
def orO{σ R:Type}(m:Option σ)(f:Unit->Option R):Option (σ⊕R):=match m with
 |some x=>some (.inl x)
 |none=>(f ()).map .inr
noncomputable def trc(G:TG):TCo->(R:Type)->TK R->TSt->Option R
 | .skip,_,K,s=>K.n s
 | .bad,_,_,_=>none
 | .reg _ p ins,_,K,s=>JEv G p ins s K.n
 | .seq a b,R,K,s=>trc G a R ⟨λs=>trc G b R K s,K.x,K.r⟩ s
 | .cond c a b,R,K,s=>match tev c s with
  |some (.a (.c (.d .b x)))=>if x=true then trc G a R K (rbO c true s)else trc G b R K (rbO c false s)
  |_=>none
 | .block id c,R,K,s=>trc G c R ⟨K.n,λi s=>if i=id then K.n s else K.x i s,K.r⟩ s
 | .loop live c,R,K,s=>onO (shS ⟨J85 live s.env,s.sto⟩) fun(sh,e)=>
   Jg (λx:(tyL (e.map (·.1))).D=>onO (Jhj sh (J9d (e.map (·.1)) x)) λs1=>
    trc G c ((tyL (e.map (·.1))).D⊕R) ⟨λs'=>onO (J8U s.sto.length live s') λs'=>orO (JoS sh (e.map (·.1)) s') λ_=>JAr (J8U s.sto.length live) (λagain s=>trc G c R ⟨again,K.x,K.r⟩ s) 3 s',λi s'=>(K.x i s').map .inr,λs'=>(K.r s').map .inr⟩ s1) (Jui e)
 | .scope c,R,K,s=>trc G c R K s
 | .exit id,_,K,s=>K.x id s
 | .ret,_,K,s=>K.r s
 | .keep live c,R,K,s=>trc G c R K ⟨J85 live s.env,s.sto⟩
 | .tidy live c,R,K,s=>trc G c R ⟨λs'=>onO (J8U s.sto.length live s') K.n,λi s'=>onO (J8U s.sto.length live s') (K.x i),λs'=>onO (J8U s.sto.length live s') K.r⟩ s
 | .jn sh ts a b,R,K,s=>jnO (trc G a ((tyL ts).D⊕R) ⟨λs'=>inl? (JoS sh ts ⟨J85 (sh.env.map (·.1)) s'.env,s'.sto⟩),λi s'=>(K.x i s').map .inr,λs'=>(K.r s').map .inr⟩ s)
   λx=>onO (Jhj sh (J9d ts x)) λs1=>trc G b R K s1
theorem JjX(live:List Nat)(s:TSt):Jy ⟨J85 live s.env,s.sto⟩=⟨restr live (Jy s).env,(Jy s).sto⟩:=by simp[Jy,Jbf]
theorem JDn{c:TO}{x:Bool}{s:TSt}(h:tev c s=some (vb x)):rbO c x s=s:=by
 cases c with
 |t n=>exact Jve h
 |c v=>rfl
theorem JEG{σ R:Type}{m:Option σ}{o:σ⊕R}(h:inl? m=some o): ∃x,m=some x/\o=.inl x:=by
 cases m with
 |none=>cases h
 |some x=>injection h with h;simp_all
theorem J66{T:J5t}{G:TG}(j:GOk (AF T) G): ∀{c:TCo} {R:Type} {K:TK R} {s:TSt} {r:R},trc G c R K s=some r-> ∃o s',X T (erc c) (Jy s)=some (o,Jy s')/\K.at' o s'=some r
 | .skip,R,K,s,r,h=>⟨.normal,s,by simp[erc],h⟩
 | .bad,R,K,s,r,h=>by cases h
 | .reg d p ins,R,K,s,r,h=>by obtain⟨s',h1,h2⟩:=JHe j h;exact⟨.normal,s',by simp_all [erc,JFZ],h2⟩
 | .seq a b,R,K,s,r,h=>by
  obtain⟨o,s1,h1,h2⟩:=J66 j (c:=a) h;rw[erc,JFQ,h1];cases o with
  |normal=>obtain⟨o,g,h3,h4⟩:=J66 j (c:=b) h2;exact⟨o,g,h3,h4⟩
  |exit i=>exact⟨.exit i,s1,rfl,h2⟩
  |ret=>exact⟨.ret,s1,rfl,h2⟩
 | .cond c a b,R,K,s,r,h=>by
  unfold trc at h;split at h
  ·rename_i x hx;have e:evv (erO c) (Jy s).env=some (.p (.b x)):=by rw[<-JlT (erO c) (Jy s),J0t hx];rfl
   rw[erc,JHw,e,JG0];split at h
   ·rename_i v;subst v;rw[JDn hx]at h;simp only[if_true];exact J66 j (c:=a) h
   ·rename_i v;have:x=false:=by simpa using v
    subst this;rw[JDn hx]at h;simp only[J8E,if_false];exact J66 j (c:=b) h
  ·cases h
 | .block id c,R,K,s,r,h=>by
  obtain⟨o,s1,h1,h2⟩:=J66 j (c:=c) h;rw[erc,JGi,h1];cases o with
  |normal=>exact⟨.normal,s1,rfl,h2⟩
  |exit i=>
   simp only[JuB];simp only[TK.at']at h2;split at h2
   ·rename_i hi;rw[if_pos hi];exact⟨.normal,s1,rfl,h2⟩
   ·rename_i hi;rw[if_neg hi];exact⟨.exit i,s1,rfl,h2⟩
  |ret=>exact⟨.ret,s1,rfl,h2⟩
 | .loop live c,R,K,s,r,h=>by
  unfold trc at h;obtain⟨⟨sh,n⟩,hs,h⟩:=J6m h;dsimp only at h
  have A: ∀(k:Nat) {g:TSt} {r:R},JAr (J8U s.sto.length live) (λagain s=>trc G c R ⟨again,K.x,K.r⟩ s) k g=some r->
    ∃o s',X T (.lp s.sto.length live (erc c)) (Jy g)=some (o,Jy s')/\K.at' o s'=some r:=by
   intro k
   induction k with
   |zero=>intro g r h;cases h
   |succ k ih=>
    intro g r h;obtain⟨o,w,h1,h2⟩:=J66 j (c:=c) h;rw[JEr,h1];cases o with
    |normal=>
     obtain⟨F,hc,h2⟩:=J6m h2
     grind [J9T,J9G]
    |exit i=>exact⟨.exit i,w,rfl,h2⟩
    |ret=>exact⟨.ret,w,rfl,h2⟩
  have z: ∀{x:(tyL (n.map (·.1))).D} {r:R},Jg (λx:(tyL (n.map (·.1))).D=>onO (Jhj sh (J9d (n.map (·.1)) x)) λs1=>
    trc G c ((tyL (n.map (·.1))).D⊕R) ⟨λs'=>onO (J8U s.sto.length live s') λs'=>orO (JoS sh (n.map (·.1)) s') λ_=>JAr (J8U s.sto.length live) (λagain s=>trc G c R ⟨again,K.x,K.r⟩ s) 3 s',λi s'=>(K.x i s').map .inr,λs'=>(K.r s').map .inr⟩ s1) x=some r->
    ∃st,Jhj sh (J9d (n.map (·.1)) x)=some st/\ ∃o s',X T (.lp s.sto.length live (erc c)) (Jy st)=some (o,Jy s')/\K.at' o s'=some r:=by
   intro x r hw;refine Ji8 (P:=fun(x:(tyL (n.map (·.1))).D) (r:R)=> ∃st,Jhj sh (J9d (n.map (·.1)) x)=some st/\ ∃o s',X T (.lp s.sto.length live (erc c)) (Jy st)=some (o,Jy s')/\K.at' o s'=some r) ?_ ?_ hw
   ·intro x r hx;obtain⟨st,q,hx⟩:=J6m hx;obtain⟨o,s1,h1,h2⟩:=J66 j (c:=c) hx;refine⟨st,q,?_⟩;rw[JEr,h1];cases o with
    |normal=>
     obtain⟨g,hc,h2⟩:=J6m h2;unfold orO at h2
     grind [Option.map_eq_some_iff,J9T,J9G]
    |exit i=>obtain⟨r',h3,h4⟩:=J8M.1 h2;injection h4 with h4;subst h4;exact⟨.exit i,s1,rfl,h3⟩
    |ret=>obtain⟨r',h3,h4⟩:=J8M.1 h2;injection h4 with h4;subst h4;exact⟨.ret,s1,rfl,h3⟩
   ·rintro x y r hx ⟨st',E,o,w,h5,C⟩;obtain⟨st,q,hx⟩:=J6m hx;obtain⟨B,s1,h1,h2⟩:=J66 j (c:=c) hx;refine⟨st,q,?_⟩;rw[JEr,h1];cases B with
    |normal=>
     obtain⟨g,hc,h2⟩:=J6m h2;unfold orO at h2
     grind [Jzu,J9T,J9G,Option.map_eq_some_iff]
    |exit i=>obtain⟨r',_,h4⟩:=J8M.1 h2;cases h4
    |ret=>obtain⟨r',_,h4⟩:=J8M.1 h2;cases h4
  obtain⟨st,q,o,s',h1,h2⟩:=z h;rw[JhD,JyQ hs]at q
  grind [erc,Jy,JIy,JjX]
 | .scope c,R,K,s,r,h=>by
  obtain⟨o,s1,h1,h2⟩:=J66 j (c:=c) h
  grind [erc,JGE]
 | .exit id,R,K,s,r,h=>⟨.exit id,s,by simp[erc],h⟩
 | .ret,R,K,s,r,h=>⟨.ret,s,by rw[erc,JJV],h⟩
 | .keep live c,R,K,s,r,h=>by
  obtain⟨o,s1,h1,h2⟩:=J66 j (c:=c) h
  grind [erc,JDh,JjX]
 | .tidy live c,R,K,s,r,h=>by
  obtain⟨o,s1,h1,h2⟩:=J66 j (c:=c) h;rw[erc,JI1,h1,Jxh,show(Jy s).sto.length=s.sto.length by simp[Jy]];cases o with
  |normal=>obtain⟨g,h3,h4⟩:=J6m h2;rw[J9G h3];exact⟨.normal,g,rfl,h4⟩
  |exit i=>obtain⟨g,h3,h4⟩:=J6m h2;rw[J9G h3];exact⟨.exit i,g,rfl,h4⟩
  |ret=>obtain⟨g,h3,h4⟩:=J6m h2;rw[J9G h3];exact⟨.ret,g,rfl,h4⟩
 | .jn sh ts a b,R,K,s,r,h=>by
  unfold trc at h;rw[erc,JFQ];cases ho:trc G a ((tyL ts).D⊕R) ⟨λs'=>inl? (JoS sh ts ⟨J85 (sh.env.map (·.1)) s'.env,s'.sto⟩),λi s'=>(K.x i s').map .inr,λs'=>(K.r s').map .inr⟩ s with
  |none=>rw[ho]at h;cases h
  |some res=>
   rw[ho]at h;obtain⟨o,s1,h1,h2⟩:=J66 j (c:=a) ho;rw[h1];cases o with
   |normal=>
    obtain⟨x,hx,rfl⟩:=JEG h2;obtain⟨g,h3,h4⟩:=J6m h;rw[Jzu hx]at h3;injection h3 with h3;subst h3;obtain⟨o,w,h5,C⟩:=J66 j (c:=b) h4
    grind [J9T,JDh,JjX]
   |exit i=>obtain⟨r',h3,h4⟩:=J8M.1 h2;subst h4;injection h with h;subst h;exact⟨.exit i,s1,rfl,h3⟩
   |ret=>obtain⟨r',h3,h4⟩:=J8M.1 h2;subst h4;injection h with h;subst h;exact⟨.ret,s1,rfl,h3⟩
end Go.Am
end
section
namespace Go.Am
structure TFn where
 np:Nat
 nt:Nat
 body:TCo
 res:List Jjo
 fresh:Bool
def erF(f:TFn):AFn:=⟨f.np,f.nt,erc f.body,f.res.map erR,f.fresh⟩
def JkE:Nat->List TA->List (Nat×TV)
 |_,[]=>[]
 |k,x::r=>(k,.a x)::JkE (k+1) r
theorem Jv4(L:Nat->Nat): ∀(k:Nat) (xs:List TA),J8I k (xs.map (J1r L))=J5J L (JkE k xs)
 |_,[]=>rfl
 |k,x::r=>by have:=Jv4 L (k+1) r;simp only[J1n,J8I,JkE,J5J,this];rfl
noncomputable def Jkk(G:TG)(f:TFn){R:Type}(xs:List TA)(bl:List TB)(E:TV->List TB->Option R):Option R:=if xs.length=f.np then trc G f.body R ⟨λs=>Jf9 f.res f.fresh bl.length s E,λ_ _=>none,λs=>Jf9 f.res f.fresh bl.length s E⟩ ⟨JkE 0 xs,bl⟩else none
theorem JGV{T:J5t}{G:TG}(e:GOk (AF T) G){g:FuncId}{f:TFn}(hf:T g=some (.fn (erF f))){R:Type}{xs:List TA}{bl:List TB}{E:TV->List TB->Option R}{r:R}(h:Jkk G f xs bl E=some r):
  ∃v out,AF T g (xs.map (J1r (lns bl))) (bl.map (J0E (lns bl)))=some (J04 (lns out) v,out.map (J0E (lns out)))/\E v out=some r:=by
 unfold Jkk at h;split at h
 ·rename_i hn;obtain⟨o,s',h1,h2⟩:=J66 e h;have e0:Jy ⟨JkE 0 xs,bl⟩=⟨J8I 0 (xs.map (J1r (lns bl))),bl.map (J0E (lns bl))⟩:=by simp[Jy,Jv4]
  rw[e0]at h1;have fin:Jf9 f.res f.fresh bl.length s' E=some r-> ∃v out,J3F (erF f) bl.length (Jy s')=some (J04 (lns out) v,out.map (J0E (lns out)))/\E v out=some r:=
   λh=>JBC rfl rfl h
  have e1: ∀q,J3F (erF f) bl.length (Jy s')=some q->(o=.normal\/o=.ret)->AF T g (xs.map (J1r (lns bl))) (bl.map (J0E (lns bl)))=some q:=by intro q hq ho;rw[JKa T hf,if_pos (by rw[J6s];exact hn),show(erF f).body=erc f.body from rfl,h1,J6s];rcases ho with rfl|rfl<;>exact hq
  cases o with
  |normal=>
   obtain⟨v,out,h3,h4⟩:=fin h2
   grind
  |exit i=>cases h2
  |ret=>
   obtain⟨v,out,h3,h4⟩:=fin h2
   grind
 ·cases h
structure TE where
 f:FuncId
 go: ∀{R:Type},List TA->List TB->(TV->List (Bool×TB)->Option R)->Option R
 fit:List TA->List TB->Bool
structure EOk(F:Orc)(e:TE):Prop where
 ok: ∀{R:Type} {xs:List TA} {bl:List TB} {kk:TV->List (Bool×TB)->Option R} {r:R},e.go xs bl kk=some r->
  ∃v out,F e.f (xs.map (J1r (lns bl))) (bl.map (J0E (lns bl)))=some (J04 (Jez out) v,out.map λx=>J0E (Jez out) x.2)/\
   (∀(k:Nat) x,out[k]?=some (true,x)->k<bl.length->lnB x=lns bl k)/\kk v out=some r
def goE{R:Type}(f:FuncId)(xs:List TA)(bl:List TB)(kk:TV->List (Bool×TB)->Option R):List TE->Option R
 |[]=>none
 |e::r=>if f=e.f/\e.fit xs bl=true then e.go xs bl kk else goE f xs bl kk r
def TG.of(l:List TE):TG:=⟨λf xs bl kk=>goE f xs bl kk l⟩
def JmE(F:Orc):List TE->Prop
 |[]=>True
 |e::r=>EOk F e/\JmE F r
theorem JD7{F:Orc}{R:Type}{f:FuncId}{xs:List TA}{bl:List TB}{kk:TV->List (Bool×TB)->Option R}{r:R}: ∀{l:List TE},JmE F l->goE f xs bl kk l=some r->
  ∃v out,F f (xs.map (J1r (lns bl))) (bl.map (J0E (lns bl)))=some (J04 (Jez out) v,out.map λx=>J0E (Jez out) x.2)/\
   (∀(k:Nat) x,out[k]?=some (true,x)->k<bl.length->lnB x=lns bl k)/\kk v out=some r
 |[],_,h=>by cases h
 |e::l,ha,h=>by
  simp only[goE]at h;split at h
  ·rename_i he;obtain⟨rfl,_⟩:=he;exact ha.1.ok h
  ·exact JD7 ha.2 h
theorem JIV{F:Orc}{l:List TE}(h:JmE F l):GOk F (TG.of l):=⟨λe=>JD7 h e⟩
structure Sig where
 args:List ShA
 blks:List ShB
 ti:List Ty
 res:ShV
 out:List ShB
 same:List Bool
 to:List Ty
def JhW(g:Sig)(x:(tyL g.ti).D):Option (List TA×List TB):=match mkL mkA g.args (J9d g.ti x)with
 |some (xs,l)=>match mkL mkB g.blks l with
  |some (bl,[])=>some (xs,bl)
  |_=>none
 |none=>none
def Jnn(g:Sig)(xs:List TA)(bl:List TB):Option (tyL g.ti).D:=match shL shA xs,shL shB bl with
 |some (a,l),some (c,k)=>if a=g.args/\c=g.blks then asL g.ti (l++k)else none
 |_,_=>none
theorem JGM{g:Sig}{xs:List TA}{bl:List TB}{x:(tyL g.ti).D}(h:Jnn g xs bl=some x):JhW g x=some (xs,bl):=by
 unfold Jnn at h;split at h
 ·rename_i a l c k h1 h2;split at h
  ·rename_i j;obtain⟨rfl,rfl⟩:=j;have e:=J8a JuE h2 [];rw[JbA]at e;unfold JhW;rw[Jvk h,J8a Jtg h1 k];simp only[e]
  ·cases h
 ·cases h
def JsI(g:Sig)(y:(tyL g.to).D):Option (TV×List TB):=match mkV g.res (J9d g.to y)with
 |some (v,l)=>match mkL mkB g.out l with
  |some (out,[])=>some (v,out)
  |_=>none
 |none=>none
def Jc4(g:Sig)(v:TV)(out:List TB):Option (tyL g.to).D:=match shV v,shL shB out with
 |some (a,l),some (c,k)=>if a=g.res/\c=g.out then asL g.to (l++k)else none
 |_,_=>none
theorem JF6{g:Sig}{v:TV}{out:List TB}{y:(tyL g.to).D}(h:Jc4 g v out=some y):JsI g y=some (v,out):=by
 unfold Jc4 at h;split at h
 ·rename_i a l c k h1 h2;split at h
  ·rename_i j;obtain⟨rfl,rfl⟩:=j;have e:=J8a JuE h2 [];rw[JbA]at e;unfold JsI;rw[Jvk h,JCC h1 k];simp only[e]
  ·cases h
 ·cases h
def flg(same:List Bool)(out:List TB):List (Bool×TB):=match same,out with
 |b::r,x::l=>(b,x)::flg r l
 |[],x::l=>(false,x)::flg [] l
 |_,[]=>[]
theorem JeS: ∀(same:List Bool) (out:List TB),(flg same out).map (·.2)=out
 |[],[]=>rfl
 |[],x::l=>by simp only[flg,J1n,JeS [] l]
 |b::r,[]=>rfl
 |b::r,x::l=>by simp only[flg,J1n,JeS r l]
def sigE(f:FuncId)(g:Sig)(S:(tyL g.ti).D->Option (tyL g.to).D):TE:=
 ⟨f,λxs bl kk=>match Jnn g xs bl with
  |some x=>(S x).bind λy=>match JsI g y with
   |some (v,out)=>kk v (flg g.same out)
   |none=>none
  |none=>none,λxs bl=>(Jnn g xs bl).isSome⟩
def JE1:ShB->Bool
 | .arr _ _=>false
 |_=>true
def Jh9(g:Sig):Bool:=(List.range g.same.length).all λk=>match g.same[k]?,g.blks[k]?,g.out[k]? with
 |some true,some a,some c=>JE1 a&&JE1 c
 |some true,some _,none=>false
 |_,_,_=>true
theorem JuG{x:TB}{s:ShB}{e:List Lf}(h:shB x=some (s,e))(hb:JE1 s=true):lnB x=0:=by
 cases x with
 |arr w t rows=>injection h with h;injection h with h1;subst h1;cases hb
 |_=>rfl
theorem Jwp{α σ:Type}{f:α->Option (σ×List Lf)}: ∀{xs:List α} {e:List σ} {g:List Lf},shL f xs=some (e,g)-> ∀(k:Nat) x,xs[k]?=some x-> ∃s l,e[k]?=some s/\f x=some (s,l)
 |[],_,_,_,k,x,hk=>by simp at hk
 |y::r,e,g,h,k,x,hk=>by
  simp only[shL]at h;split at h
  ·rename_i s l q k' h1 h2;injection h with h;injection h with h3 h4;subst h3 h4;cases k with
   |zero=>simp_all
   |succ k=>exact Jwp h2 k x (by simpa using hk)
  ·cases h
theorem Jte: ∀{same:List Bool} {out:List TB} {k:Nat} {x:TB},(flg same out)[k]?=some (true,x)->same[k]?=some true/\out[k]?=some x
 |[],[],k,x,h=>by simp[flg]at h
 |[],y::l,k,x,h=>by
  cases k with
  |zero=>simp[flg]at h
  |succ k=>simp only[flg,List.getElem?_cons_succ]at h;have:=Jte (same:=[]) h;simp at this
 |b::r,[],k,x,h=>by simp[flg]at h
 |b::r,y::l,k,x,h=>by
  cases k with
  |zero=>grind [flg]
  |succ k=>simp only[flg,List.getElem?_cons_succ]at h;simpa using Jte h
theorem JBX{T:J5t}{f:FuncId}{g:Sig}{S:(tyL g.ti).D->Option (tyL g.to).D}(hs:Jh9 g=true)
  (h: ∀x xs bl y,JhW g x=some (xs,bl)->S x=some y-> ∃v out,AF T f (xs.map (J1r (lns bl))) (bl.map (J0E (lns bl)))=some (J04 (lns out) v,out.map (J0E (lns out)))/\Jc4 g v out=some y):EOk (AF T) (sigE f g S):=by
 refine⟨fun{R xs bl kk r} j=>?_⟩;simp only[sigE]at j;split at j
 ·rename_i x hx;obtain⟨y,hy,j⟩:=J2H.1 j;split at j
  ·rename_i v out hv;obtain⟨w,e,h1,h2⟩:=h x xs bl y (JGM hx) hy;rw[JF6 h2]at hv;injection hv with hv;injection hv with hv1 hv2;subst hv1 hv2;refine⟨w,flg g.same e,?_,λk z hz hk=>?_,j⟩
   ·unfold Jez;rw[JeS];have:(flg g.same e).map (λx=>J0E (lns e) x.2)=e.map (J0E (lns e)):=by
     conv=>rhs;rw[<-JeS g.same e,JnN]
     simp[JeS]
    rw[this];exact h1
   ·obtain⟨n,o⟩:=Jte hz;unfold Jh9 at hs;rw[JBF]at hs;have hs:=hs k (by grind);unfold Jnn at hx;split at hx
    ·rename_i a l c k' e1 e2;split at hx
     ·rename_i e0;obtain⟨I,G,q1,q2⟩:=Jwp e2 k _ (zQ9 hk);unfold Jc4 at h2;split at h2
      ·rename_i a2 l2 F k2 H C;split at h2
       ·rename_i q;obtain⟨sc,E,B,A⟩:=Jwp C k z o;rw[n,<-e0.2,q1,<-q.2,B]at hs;simp only[J03]at hs;rw[JuG A hs.2];unfold lns;rw[zQ9 hk];exact(JuG q2 hs.1).symm
       ·cases h2
      ·cases h2
     ·cases hx
    ·cases hx
  ·cases j
 ·cases j
theorem JFX{T:J5t}{f:FuncId}{g:Sig}{fn:TFn}{S:(tyL g.ti).D->Option (tyL g.to).D}{l:List TE}(hf:T f=some (.fn (erF fn)))(hl:JmE (AF T) l)(hs:Jh9 g=true)
  (h: ∀x,onO (JhW g x) (λy=>Jkk (TG.of l) fn y.1 y.2 (Jc4 g))=S x):EOk (AF T) (sigE f g S):=by
 refine JBX hs λx xs bl y hx hy=>?_;have e:=h x;rw[hx,hy]at e;exact JGV (JIV hl) hf e
def Jel{α β:Type}(S:(α->Option β)->α->Option β):Nat->α->Option β
 |0=>λ_=>none
 |n+1=>S (Jel S n)
theorem Jto{T:J5t}{f:FuncId}{g:Sig}{fn:TFn}{S:((tyL g.ti).D->Option (tyL g.to).D)->(tyL g.ti).D->Option (tyL g.to).D}{l:List TE}(hf:T f=some (.fn (erF fn)))(hl:JmE (AF T) l)(hs:Jh9 g=true)
  (h: ∀r x,onO (JhW g x) (λy=>Jkk (TG.of (sigE f g r::l)) fn y.1 y.2 (Jc4 g))=S r x): ∀n,EOk (AF T) (sigE f g (Jel S n))
 |0=>JBX hs λx xs bl y hx hy=>by cases hy
 |n+1=>JFX hf (l:=sigE f g (Jel S n)::l) (And.intro (Jto hf hl hs h n) hl) hs (h (Jel S n))
end Go.Am
end
section
namespace Go.Am
end Go.Am
end
section
namespace Go.Am
def JF0(e:Nat):Opd:=.c (.p (.sl e []))
def JIG(t:Ty)(bytes:Nat):JbD:=⟨1,8,.reg false [] [⟨.mkarr t.sz (JF0 t.sz),some 2,none⟩],[],.reg false [] [⟨.mv (.t 0),some 3,none⟩,⟨.bin .eql .nils (.t 3) (JF0 t.sz),some 4,none⟩],.t 4,.seq (.reg false [] [⟨.mkarr t.sz (JF0 t.sz),some 2,none⟩]) .ret,.skip,.seq (.reg false [] [⟨.lits true t.sz 0 (zer t) [],some 5,none⟩,⟨.mv (.t 0),some 6,none⟩,⟨.app t.sz bytes (zer t) (.t 5) (.t 6),some 7,none⟩,⟨.mv (.t 7),some 2,none⟩]) .ret,[.tmp 2],true⟩
end Go.Am
end
