/-
  Parts of a proof.
-/
import Derived.Orders
import Derived.LoopN
import Derived.Scope
import Derived.Below
import Derived.Test.YthnapahopkopbaaGreatM1
set_option linter.unusedSimpArgs false
set_option linter.unusedVariables false
section
namespace Go.Am
section
variable {P:Program} {F:Orc} {s:Sn} {a:Act} {env:List (Nat×AV)} {o:Oper} {new:Nat} {e:Eff}
theorem JvA{k:List Blk}(hi:Inv s)(o:Frz k s.σ){x:AV}{y:AV×List (Nat×Blk)}{v:Value}(h:(J93 x).run ⟨env,k⟩=some y)(hr:JK s x v):
  ∃g',Inv ⟨upd y.2 s.σ,g',s.w⟩/\J0l s ⟨upd y.2 s.σ,g',s.w⟩/\Frz s.σ (upd y.2 s.σ)/\JK ⟨upd y.2 s.σ,g',s.w⟩ y.1 v:=by
 have same: ∀{z:AV},(RM.ret (z,[]):RM (AV×List (Nat×Blk))).run ⟨env,k⟩=some y->JK s z v-> ∃g',Inv ⟨upd y.2 s.σ,g',s.w⟩/\J0l s ⟨upd y.2 s.σ,g',s.w⟩/\Frz s.σ (upd y.2 s.σ)/\JK ⟨upd y.2 s.σ,g',s.w⟩ y.1 v:=by
  intro z hz hr;simp only[RM.run]at hz;injection hz with hz;subst hz
  exact⟨s.g,hi,.refl s,.refl _,hr⟩
 cases x with
 |slr b i n=>
  simp only[J93]at h;obtain⟨q,h1,h⟩:=bind_some h;obtain⟨g',k1,k2,j,c,hc,A⟩:=Ja8 hi o h1 hr;rw[hc]at h;simp only[RM.run]at h;injection h with h;subst h
  exact⟨g',k1,k2,j,.p _ _ A⟩
 |agg cs=>
  simp only[J93]at h;obtain⟨q,h1,h⟩:=bind_some h;simp only[RM.run]at h;injection h with h;subst h
  obtain⟨g',k1,k2,j,B,r⟩:=Jue hi o h1 hr;cases hr with
  |agg _ vs h1 C h2=>exact⟨g',k1,k2,j,.data _ _ B λi x v hx hv=>r i x v hx hv⟩
 |tup=>grind [J93,RM.run]
 |p c=>exact same h hr
 |data cs=>exact same h hr
 |ptr b off=>exact same h hr
 |cp cs off=>exact same h hr
 |ep b e i off=>exact same h hr
 |fn f first caps=>exact same h hr
 |unk=>exact same h hr
theorem JpW{n:List Blk}: ∀{xs:List AV} {s:Sn} {y:List AV×List (Nat×Blk)} {vs:List Value},Inv s->Frz n s.σ->(J7l xs).run ⟨env,n⟩=some y->xs.length=vs.length->
  (∀(i:Nat) x v,xs[i]?=some x->vs[i]?=some v->JK s x v)->
  ∃g',Inv ⟨upd y.2 s.σ,g',s.w⟩/\J0l s ⟨upd y.2 s.σ,g',s.w⟩/\Frz s.σ (upd y.2 s.σ)/\y.1.length=vs.length/\
   ∀(i:Nat) x v,y.1[i]?=some x->vs[i]?=some v->JK ⟨upd y.2 s.σ,g',s.w⟩ x v
 |[],s,y,vs,hi,e,h,hl,hr=>by
  simp only[J7l,RM.run]at h;injection h with h;subst h
  exact⟨s.g,hi,.refl s,.refl _,by simpa using hl,λi c v hc=>by simp at hc⟩
 |x::xs,s,y,[],hi,e,h,hl,hr=>by simp at hl
 |x::xs,s,y,v::vs,hi,e,h,hl,hr=>by
  simp only[J7l]at h;obtain⟨q,h1,h⟩:=bind_some h;obtain⟨F,h2,h⟩:=bind_some h;simp only[RM.run]at h;injection h with h;subst h
  obtain⟨g1,r,k,j,C⟩:=JvA hi e h1 (hr 0 x v rfl rfl);obtain⟨g2,D,o,z,l2,E⟩:=JpW (s:=⟨upd q.2 s.σ,g1,s.w⟩) r (e.trans j) h2 (by simpa using hl) λi x v hx hv=>(hr (i+1) x v (by simpa using hx) (by simpa using hv)).mono hi k;refine⟨g2,by grind [J21],by rw[J21];exact k.trans o,by rw[J21];exact j.trans z,by simp[l2],λi c' B hc' A=>?_⟩
  grind [JK.mono,upd]
def JE4(s1:Sn)(es:List Ent)(new:Nat)(e:Ent)(x:Blk)(y:Nat×Blk):Prop:=
 y.1=e.id/\match e with
 | .whole _=>(∃cs l,x=.box cs/\bk.bkL es new cs=some l/\y.2=.box l)\/(∃w esz rows,x=.arr w esz rows/\y.2=.arr w esz rows)
 | .elem b _ i=> ∃w esz rows g,s1.σ[b]?=some (.arr w esz rows)/\x=.box (g.map .p)/\y.2=.arr w esz (rows.set i g)
theorem JBq{g:List Blk}{ws:List (Nat×Blk)}(j:s.σ=upd ws g){es:List Ent}{en:Ent}{x:Blk}{y:Nat×Blk}(h:(Jai ws es new en x).run ⟨env,g⟩=some y):JE4 s es new en x y:=by
 unfold Jai at h;split at h
 ·rename_i b cs;split at h
  ·rename_i l hl;simp only[RM.run]at h;injection h with h;subst h
   exact⟨rfl,.inl ⟨cs,l,rfl,hl,rfl⟩⟩
  ·cases h
 ·simp only[RM.run]at h;injection h with h;subst h
  exact⟨rfl,.inr ⟨_,_,_,rfl,rfl⟩⟩
 ·rename_i b ext i cs;obtain⟨z,h1,h⟩:=bind_some h;have hb:=Jkd h1;rw[<-j]at hb;cases z with
  |arr w esz rows=>
   dsimp only at h;split at h
   ·rename_i e k;simp only[RM.run]at h;injection h with h;subst h
    exact⟨rfl,w,esz,rows,e,hb,by grind [Jgm],rfl⟩
   ·cases h
  |_=>cases h
 ·cases h
theorem JjK{j:List Blk}{ws:List (Nat×Blk)}(n:s.σ=upd ws j){es:List Ent}: ∀{e:List Ent} {xs:List Blk} {g:List (Nat×Blk)},(J3A ws es new e xs).run ⟨env,j⟩=some g->
  e.length=g.length/\e.length<=xs.length/\ ∀(k:Nat) en x y,e[k]?=some en->xs[k]?=some x->g[k]?=some y->JE4 s es new en x y
 |[],xs,g,h=>by grind [J3A,RM.run]
 |_::_,[],g,h=>by cases h
 |en::e,x::xs,g,h=>by
  simp only[J3A]at h;obtain⟨y,h1,h⟩:=bind_some h;obtain⟨l,h2,h⟩:=bind_some h;simp only[RM.run]at h;injection h with h;subst h
  obtain⟨k1,k2,o⟩:=JjK n h2
  grind [JBq]
theorem JeH{es:List Ent}: ∀{xs:List Blk} {g:Nat} {e:List (Nat×Blk)},J36 es new g xs=some e->
  xs.length=e.length/\ ∀(j:Nat) x y,xs[j]?=some x->e[j]?=some y->y.1=g+j/\((∃cs l,x=.box cs/\bk.bkL es new cs=some l/\y.2=.box l)\/(∃w esz rows,x=.arr w esz rows/\y.2=.arr w esz rows))
 |[],g,e,h=>by grind [J36]
 | .dead::_,g,e,h=>by grind [J36]
 | .box cs::xs,g,e,h=>by
  simp only[J36]at h;split at h
  ·rename_i c l hc hl;injection h with h;subst h;obtain⟨k1,k2⟩:=JeH hl
   grind
  ·cases h
 | .arr w esz rows::xs,g,e,h=>by
  simp only[J36]at h;split at h
  ·rename_i l hl;injection h with h;subst h;obtain⟨k1,k2⟩:=JeH hl
   grind
  ·cases h
theorem Jq5(b:Nat)(p q:List (Nat×Blk)):J6E b (p++q)=match J6E b q with
  |some y=>some y
  |none=>J6E b p:=by
 induction p with
 |nil=>grind [J6E]
 |cons x p ih=>
  grind [J6E]
theorem Jk7{b:Nat}{x:Blk}: ∀{ws:List (Nat×Blk)},(ws.map (·.1)).Nodup-> ∀{k:Nat},ws[k]?=some (b,x)->J6E b ws=some x
 |[],_,k,h=>by simp at h
 |(c,z)::r,hn,k,h=>by
  obtain⟨h1,h2⟩:=List.nodup_cons.1 hn;simp only[J6E];cases k with
  |zero=>
   grind [J69]
  |succ k=>rw[Jk7 h2 (k:=k) (by simpa using h)]
theorem Jy2(n k:Nat):((List.range k).map (n+ ·)).Nodup:=by
 grind [List.nodup_range]
theorem Jq1(hF:J5O P F){f:FuncId}{ar:List AV×List (Nat×Blk)}{q:Nat}{vals:Array Value}(D: ∀j,j<q->s.σ[new+j]?=some .dead)
  {g1:Gh} (i1:Inv ⟨upd ar.2 s.σ,g1,s.w⟩) (t1:J0l s ⟨upd ar.2 s.σ,g1,s.w⟩) (f1:Frz s.σ (upd ar.2 s.σ)) (l1:ar.1.length=vals.toList.length)
  (r1: ∀(i:Nat) x v,ar.1[i]?=some x->vals.toList[i]?=some v->JK ⟨upd ar.2 s.σ,g1,s.w⟩ x v)
  (h:(J3d F f ar q new).run ⟨env,s.σ⟩=some e)
  (ad: ∀fn,P.funcs[f]?=some fn→fn.body.isSome=true→(fn.name== "runtime.NumGoroutine")=false→(execOp a.eval o).run P s.w=.ok (.enter f vals) s.w):J1g P o a s e:=by
 unfold J3d at h;obtain⟨aq,h2,h⟩:=bind_some h;obtain⟨es,h3,h⟩:=bind_some h;split at h
 ·rename_i ac;split at h
  ·cases h
  ·rename_i J a3;obtain⟨blks,h4,h⟩:=bind_some h;split at h
   ·cases h
   ·rename_i r a5;split at h
    ·rename_i R;obtain⟨k,hlen,hk⟩: ∃k,r.2.length=es.length+k/\k<=q:=⟨r.2.length-es.length,by omega,by omega⟩;have I: ∀j,j<k->s.σ[new+j]?=some .dead:=λj hj=>D j (by omega);clear R;split at h
     ·rename_i v fresh hv H;obtain⟨n,h5,h⟩:=bind_some h;simp only[RM.run]at h;injection h with h;subst h
      let s1:Sn:=⟨upd ar.2 s.σ,g1,s.w⟩
      obtain⟨bl,a2⟩:=JlT (s:=s1) rfl h4;have cin:Juy s1 es blks:=⟨i1,Jcm ac,bl,a2⟩;obtain⟨⟨fn,aa,K,M⟩,L⟩:=hF f J blks r a5;obtain⟨q1,q2⟩:=J64 a3;have ci:=JK7 cin;have hc:=L (J7I s1 es blks).g s.w vals ci (by grind) (λi x v hx hv=>by have z:=Jw hx;have T:ar.1[i]?=some (ar.1[i]'(by omega)):=zQ9 _;exact JDN cin (r1 i _ v T (by simpa using hv)) (q2 i _ x T hx))
      intro next Q N;simp only[Oper.wp,ad fn aa K M,Oper.upon];refine hc.mono ?_;rintro e w' ⟨rv,g',rfl,a4,E,Z⟩;simp only;obtain⟨b1,b2,W⟩:=JjK (s:=s1) rfl h5;obtain⟨n1,n2⟩:=JeH H;have A: ∀j,j<k->s1.σ[new+j]?=some .dead:=λj hj=>f1.2 _ _ (I j hj) (by simp);have aw:(r.2.drop es.length).length=k:=by simp;omega
      have a9:n.map (·.1)=es.map Ent.id:=by
       apply zQ6;intro i;rw[J79,J79];by_cases z:i<es.length
       ·have e1:es[i]?=some es[i]:=zQ9 z;have e2:n[i]?=some (n[i]'(by omega)):=zQ9 _;have C:r.2[i]?=some (r.2[i]'(by omega)):=zQ9 _;have:=(W i _ _ _ e1 C e2).1
        grind
       grind
      have a8: ∀j,j<k->fresh[j]?=some (new+j,(fresh[j]?.map (·.2)).getD .dead):=by
       grind
      have af:(fresh.map (·.1)).Nodup:=by
       have:fresh.map (·.1)=(List.range k).map (new+ ·):=by
        apply zQ6
        grind
       grind [Jy2]
      have ae: ∀b,b∈fresh.map (·.1)↔new<=b/\b<new+k:=by
       intro b;constructor
       ·grind [List.getElem?_of_mem]
       ·intro hm;have:=a8 (b-new) (by omega)
        grind
      have S:(upd (n++fresh) s1.σ).length=s1.σ.length:=Jbc _ _;have O: ∀{q:Nat} {en:Ent},es[q]?=some en->en.id<s1.σ.length/\ ¬(new<=en.id/\en.id<new+k):=by
       intro q en he;obtain⟨x,_,U⟩:=Jbk cin he;have hy: ∃y,s1.σ[en.id]?=some y/\y≠.dead:=by
        cases en with
        |whole b=>
         rcases U with⟨cs',l,h1,h2,rfl⟩|⟨w,Y,rows',h1,rfl⟩
         ·exact⟨_,h1,by simp⟩
         ·exact⟨_,h1,by simp⟩
        |elem b ext i=>obtain⟨Y,rows',row,h1,h2,h3,rfl⟩:=U;exact⟨_,h1,by simp⟩
       obtain⟨y,hy,hd⟩:=hy;refine⟨Jw hy,λhm=>?_⟩;have:=A (en.id-new) (by omega);rw[show new+(en.id-new)=en.id by omega,hy]at this
       grind
      have a7: ∀{q:Nat} {en:Ent} {y:Nat×Blk},es[q]?=some en->n[q]?=some y->(upd (n++fresh) s1.σ)[en.id]?=some y.2:=by intro q en y he hy;obtain⟨z,au⟩:=O he;have C:r.2[q]?=some (r.2[q]'(by grind)):=zQ9 _;have ab:=(W q en _ y he C hy).1;rw[J9W _ _ _ z,Jq5,J69 (by grind)];simp only;rw[Jk7 (x:=y.2) (by rw[a9];exact cin.nodup) (k:=q) (by grind)]
      have al: ∀{j:Nat} {y:Nat×Blk},j<k->fresh[j]?=some y->(upd (n++fresh) s1.σ)[new+j]?=some y.2:=by
       grind [J9W,Jq5,Jk7]
      have co:JzD s1 es blks new k ⟨r.2,g',w'⟩ (upd (n++fresh) s1.σ):=by
       refine⟨cin,a4,E,hlen,S,A,λq y hy=>?_,λb ay av=>?_⟩
       ·have hy:r.2[q]?=some y:=hy;unfold JaF;cases he:es[q]? with
        |some en=>
         have z:=Jw he;have e2:n[q]?=some (n[q]'(by omega)):=zQ9 _;obtain⟨ab,V⟩:=W q en y _ he hy e2;have hg:=a7 he e2;cases en with
         |whole b=>
          rcases V with⟨cs,l,e1,C,G⟩|⟨w,esz,rows,e1,G⟩
          ·exact .inl ⟨cs,l,e1,C,by rw[<-G];exact hg⟩
          ·exact .inr ⟨w,esz,rows,e1,by rw[<-G];exact hg⟩
         |elem b ext i=>obtain⟨w,esz,rows,a1,e1,C,G⟩:=V;exact⟨w,esz,rows,a1,e1,C,by rw[<-G];exact hg⟩
        |none=>
         have ax:es.length<=q:=by
          grind
         have z:=Jw hy;have e2:fresh[q-es.length]?=some (fresh[q-es.length]'(by omega)):=zQ9 _
         grind
       grind [J9W,J69]
      have oi:=JHr co;have ot:=Jqf co;have B:upd (ar.2++n++fresh) s.σ=upd (n++fresh) s1.σ:=by grind [J21]
      refine N rv w' (J3M s1 es new k ⟨r.2,g',w'⟩ (upd (n++fresh) s1.σ)).g ?_ ?_ ?_
      ·rw[B];exact oi
      ·rw[B];exact t1.trans ot
      ·rw[B];exact Jzh co Z hv
     ·cases h
    ·cases h
 ·cases h
theorem Jzy{f:FuncId}{args:List AV}{k:Nat}{s:St}(h:(J5Q F f args k new).run s=some e): ∃ar,(J7l args).run s=some ar/\(J3d F f ar k new).run s=some e:=by
 unfold J5Q at h;obtain⟨ar,h1,h⟩:=bind_some h;obtain⟨q,h2,h⟩:=bind_some h;obtain⟨es,h3,h⟩:=bind_some h;refine⟨ar,h1,?_⟩;unfold J3d;rw[run_bind,h2,J07,run_bind,h3,J07];split at h
 ·rename_i n;rw[if_pos n];split at h
  ·cases h
  ·rename_i o g;obtain⟨blks,h4,h⟩:=bind_some h
   try rw[g]
   try dsimp only
   rw[run_bind,h4,J07];split at h
   ·cases h
   ·rename_i r j
    try rw[j]
    try dsimp only
    split at h
    ·grind
    ·cases h
 ·cases h
theorem Jzw(y:J5O P F)(hi:Inv s){f:FuncId}{args:List AV}{k:Nat}{vals:Array Value}(g: ∀j,j<k->s.σ[new+j]?=some .dead)
  (h:(J5Q F f args k new).run ⟨env,s.σ⟩=some e) (hl:args.length=vals.size) (hr: ∀(i:Nat) x v,args[i]?=some x->vals[i]?=some v->JK s x v)
  (n: ∀fn,P.funcs[f]?=some fn→fn.body.isSome=true→(fn.name== "runtime.NumGoroutine")=false→(execOp a.eval o).run P s.w=.ok (.enter f vals) s.w):J1g P o a s e:=by
 obtain⟨ar,h1,h2⟩:=Jzy h;obtain⟨g1,A,z,r,B,q⟩:=JpW (vs:=vals.toList) hi (.refl _) h1 (by simpa using hl) (λi x v hx hv=>hr i x v hx (by simpa using hv))
 grind [Jq1]
theorem JCZ{o:List Blk}: ∀{m:List Bool} {xs:List AV} {s:Sn} {y:List AV×List (Nat×Blk)} {vs:List Value},Inv s->Frz o s.σ->(J3N m xs).run ⟨env,o⟩=some y->xs.length=vs.length->
  (∀(i:Nat) x v,xs[i]?=some x->vs[i]?=some v->JK s x v)->
  ∃g',Inv ⟨upd y.2 s.σ,g',s.w⟩/\J0l s ⟨upd y.2 s.σ,g',s.w⟩/\Frz s.σ (upd y.2 s.σ)/\y.1.length=vs.length/\
   ∀(i:Nat) x v,y.1[i]?=some x->vs[i]?=some v->JK ⟨upd y.2 s.σ,g',s.w⟩ x v:=by
 intro m xs
 induction xs generalizing m with
 |nil=>
  intro s y vs hi n h hl hr;have h:(RM.ret ([],[]):RM (List AV×List (Nat×Blk))).run ⟨env,o⟩=some y:=by cases m<;>exact h
  simp only[RM.run]at h;injection h with h;subst h
  exact⟨s.g,hi,.refl s,.refl _,by simpa using hl,λi c v hc=>by simp at hc⟩
 |cons x xs ih=>
  intro s y vs hi n h hl hr;cases vs with
  |nil=>simp at hl
  |cons v vs=>
   have q: ∀{r:List Bool},((J93 x).bind λa=>(J3N r xs).bind λc=>.ret (a.1::c.1,a.2++c.2)).run ⟨env,o⟩=some y->
     ∃g',Inv ⟨upd y.2 s.σ,g',s.w⟩/\J0l s ⟨upd y.2 s.σ,g',s.w⟩/\Frz s.σ (upd y.2 s.σ)/\y.1.length=(v::vs).length/\
      ∀(i:Nat) x k,y.1[i]?=some x->(v::vs)[i]?=some k->JK ⟨upd y.2 s.σ,g',s.w⟩ x k:=by
    intro r h;obtain⟨D,h1,h⟩:=bind_some h;obtain⟨G,h2,h⟩:=bind_some h;simp only[RM.run]at h;injection h with h;subst h
    obtain⟨g1,E,C,B,H⟩:=JvA hi n h1 (hr 0 x v rfl rfl);obtain⟨g2,A,j,z,l2,F⟩:=ih (m:=r) (s:=⟨upd D.2 s.σ,g1,s.w⟩) E (n.trans B) h2 (by simpa using hl) λi x v hx hv=>(hr (i+1) x v (by simpa using hx) (by simpa using hv)).mono hi C;refine⟨g2,by grind [J21],by rw[J21];exact C.trans j,by rw[J21];exact B.trans z,by simp[l2],λi c' k hc' e=>?_⟩
    grind [JK.mono,upd]
   cases m with
   |nil=>exact q h
   |cons b m=>
    cases b with
    |false=>exact q h
    |true=>
     simp only[J3N]at h;obtain⟨G,h2,h⟩:=bind_some h;simp only[RM.run]at h;injection h with h;subst h
     obtain⟨g2,A,j,z,l2,F⟩:=ih (m:=m) hi n h2 (by simpa using hl) λi x v hx hv=>hr (i+1) x v (by simpa using hx) (by simpa using hv);refine⟨g2,A,j,z,by simp[l2],λi c' k hc' e=>?_⟩;cases i with
     |zero=>simp at hc' e;subst hc' e;exact(hr 0 x v rfl rfl).mono hi j
     |succ i=>grind
theorem JcH{f:FuncId}{args:Array Value}{fn:Func}(h1:P.funcs[f]?=some fn)(h2:fn.body.isSome=true)(h3:(fn.name== "runtime.NumGoroutine")=false)(w:World):
  (callFunc f args).run P w=.ok (.enter f args) w:=by
 have e:fn.name≠ "runtime.NumGoroutine" :=by simpa using h3
 have h4:fn.body≠none:=by grind
 simp_all [callFunc]
theorem JHI(y:J5O P F)(hi:Inv s)(he:J0p s a.tmps env){f args k}(n: ∀j,j<k->s.σ[new+j]?=some .dead)(h:(opR F (.call f args k) new).run ⟨env,s.σ⟩=some e)
  (hc:JX P (.call f args k) o.op=true):J1g P o a s e:=by
 simp only[opR]at h;obtain⟨vs,h1,w⟩:=bind_some h;clear h;unfold JX at hc;simp only at hc;split at hc
 ·rename_i c A;split at hc
  ·rename_i g z;simp only[J04,beq_iff_eq]at hc;obtain⟨rfl,q⟩:=hc;obtain⟨l,r⟩:=JcD he h1 q;refine Jzw y hi n w (vals:=c.args.map a.eval) (by simpa using l) (λi x v hx hv=>r i x v hx (by simpa using hv)) λfn g1 g2 B=>?_;simp_all [execOp,resolve,Act.eval,Deferred.ofValue,invoke,JcH]
  ·cases hc
 ·cases hc
theorem JEn(A:J5O P F)(hi:Inv s)(he:J0p s a.tmps env){f keep args k}(n: ∀j,j<k->s.σ[new+j]?=some .dead)(h:(opR F (.callo f keep args k) new).run ⟨env,s.σ⟩=some e)
  (hc:JX P (.callo f keep args k) o.op=true):J1g P o a s e:=by
 simp only[opR]at h;obtain⟨vs,h1,w⟩:=bind_some h;obtain⟨ar,h2,h3⟩:=bind_some w;clear h w;unfold JX at hc;simp only at hc;split at hc
 ·rename_i c G;split at hc
  ·rename_i g B;simp only[J04,beq_iff_eq]at hc;obtain⟨rfl,q⟩:=hc;obtain⟨l,r⟩:=JcD he h1 q;obtain⟨g1,D,C,z,E,y⟩:=JCZ (vs:=(c.args.map a.eval).toList) hi (.refl _) h2 (by simpa using l) (λi x v hx hv=>r i x v hx (by simpa using hv));refine Jq1 A n (vals:=c.args.map a.eval) D C z E y h3 λfn g1 g2 H=>?_;simp_all [execOp,resolve,Act.eval,Deferred.ofValue,invoke,JcH]
  ·cases hc
 ·cases hc
theorem JEj(C:J5O P F)(hi:Inv s)(he:J0p s a.tmps env){x args k}(g: ∀j,j<k->s.σ[new+j]?=some .dead)(h:(opR F (.callv x args k) new).run ⟨env,s.σ⟩=some e)
  (hc:JX P (.callv x args k) o.op=true):J1g P o a s e:=by
 simp only[opR]at h;obtain⟨u,B,q⟩:=bind_some h;clear h;unfold JX at hc;simp only at hc;split at hc
 ·rename_i c E;split at hc
  ·rename_i y D;simp only[J04]at hc;obtain⟨hx,n⟩:=hc;have A:=J0h he B hx;cases u with
   |fn f first caps=>
    dsimp only at q;obtain⟨vs,h1,w⟩:=bind_some q;obtain⟨l,r⟩:=JcD he h1 n;generalize hz:a.eval y=z at A;cases A with
    |fn _ _ _ fs cs J I G H=>
     have l':vs.length=c.args.size:=by simpa using l
     refine Jzw C hi g w (vals:=fs++c.args.map a.eval++cs) (by simp;omega) (λi x v hx hv=>?_) λfn g1 g2 K=>?_
     ·grind
     grind [execOp,resolve,Deferred.ofValue,invoke,JcH]
   |_=>cases q
  ·cases hc
 ·cases hc
end
end Go.Am
end
section
namespace Go.Am
section
variable {P:Program} {F:Orc} {s:Sn} {a:Act} {env:List (Nat×AV)} {o:Oper} {new:Nat} {e:Eff}
theorem JkF: ∀(os:List (Nat×Nat)) (n:Nat) {s:Sn},Inv s->(∀j,j<os.length->s.σ[n+j]?=some .dead)->
  ∃g',Inv ⟨upd (J56 os n) s.σ,g',s.w⟩/\J0l s ⟨upd (J56 os n) s.σ,g',s.w⟩/\
   (∀j,j<os.length->(∃esz,(upd (J56 os n) s.σ)[n+j]?=some (.arr true esz []))/\g'.μ (n+j)=none)/\
   (∀b,b<n\/n+os.length<=b->(upd (J56 os n) s.σ)[b]?=s.σ[b]?/\g'.μ b=s.g.μ b)
 |[],n,s,hi,_=>⟨s.g,hi,.refl s,λj hj=>by simp at hj,λb _=>⟨rfl,rfl⟩⟩
 |(off,esz)::r,n,s,hi,hd=>by
  obtain⟨q,o⟩:=JiS hi (hd 0 (by simp)) esz;obtain⟨g',k,h,h1,h2⟩:=JkF r (n+1) (s:=⟨s.σ.set n (.arr true esz []),J5v s.g n none,s.w⟩) q (λj hj=>by
   show(s.σ.set n _)[n+1+j]?=_;rw[J4l (by omega)];have:=hd (j+1) (by simp;omega)
   grind)
  refine⟨g',k,o.trans h,λj hj=>?_,λb hb=>?_⟩
  ·cases j with
   |zero=>
    obtain⟨e1,e2⟩:=h2 n (.inl (by omega));refine⟨⟨esz,?_⟩,?_⟩
    ·grind [upd,J56]
    ·rw[JhT,e2];exact if_pos rfl
   |succ j=>have:=h1 j (by simpa using hj);rw[show n+(j+1)=n+1+j by omega];exact this
  ·obtain⟨e1,e2⟩:=h2 b (by grind);have e:n≠b:=by grind
   exact⟨e1.trans (J4l e),e2.trans (if_neg (Ne.symm e))⟩
theorem Jlf{t:TypeId}{os:List (Nat×Nat)}{v:Value}(hv:zeT P t=some v)(h:Jtc P t os=true): ∀x∈os,v.cells[x.1]?=some (.slice none 0 0):=by
 grind [Jtc]
theorem JkI{cells:Array Value}: ∀(os:List (Nat×Nat)) (n:Nat) {cs:List AV},(∀x∈os,cells[x.1]?=some (.slice none 0 0))->
  (∀j,j<os.length->(∃esz,s.σ[n+j]?=some (.arr true esz []))/\s.g.μ (n+j)=none)->
  (∀(i:Nat) x,cs[i]?=some x-> ∃u,cells[i]?=some u/\JK s x u/\u.oneCell'=true)->
  ∀(i:Nat) x,(Jb6 os n cs)[i]?=some x-> ∃u,cells[i]?=some u/\JK s x u/\u.oneCell'=true
 |[],_,_,_,_,h=>h
 |(off,esz)::r,n,cs,hz,ha,h=>by
  refine JkI r (n+1) (λx hx=>hz x (by simp[hx])) (λj hj=>by
   have:=ha (j+1) (by simpa using hj)
   grind) λi x hx=>?_
  by_cases hi:off=i
  ·subst hi;have e:=Jw hx;rw[List.length_set]at e;rw[Jox e]at hx;injection hx with hx;subst hx;obtain⟨⟨k,h1⟩,h2⟩:=ha 0 (by simp);rw[JhT]at h1 h2;exact⟨.slice none 0 0,hz (off,esz) (by simp),.slr n 0 0 _ true k [] ⟨none,0,rfl,.inl rfl⟩ h1 (zQ0 _) λ_=>.inl ⟨h2,rfl,rfl,rfl⟩,rfl⟩
  simp_all
theorem Jkc: ∀(os:List (Nat×Nat)) (n:Nat) (cs:List AV),(Jb6 os n cs).length=cs.length
 |[],_,_=>rfl
 |_::r,n,cs=>(Jkc r (n+1) _).trans (by simp)
theorem JAd(hi:Inv s){zero os}(n: ∀j,j<os.length+1->s.σ[new+j]?=some .dead)(h:(opR F (.newboxo zero os) new).run ⟨env,s.σ⟩=some e)(hc:JX P (.newboxo zero os) o.op=true):J1g P o a s e:=by
 simp only[opR,RM.run]at h;injection h with h;subst h;unfold JX at hc;simp only at hc;split at hc
 ·rename_i t D;simp only[J04]at hc;obtain⟨hz,hn⟩:=hc;obtain⟨v,hv,hl,hr⟩:=J54 hz;obtain⟨g1,y,r,h1,h2⟩:=JkF os new hi λj hj=>n j (by omega);have hd:(upd (J56 os new) s.σ)[new+os.length]?=some .dead:=((h2 _ (.inr (zQ0 _))).1).trans (n _ (by omega))
  let s1:Sn:=⟨upd (J56 os new) s.σ,g1,s.w⟩
  obtain⟨z,t'⟩:=Jj1 (s0:=s1) y hd (blk:=.box (Jb6 os new (zero.map .p))) (c:=v.cells) (e:=t) (fz:=(0,0)) (w':={s.w with heap:=s.w.heap.push (.cells v.cells t)}) rfl rfl rfl
   (λo _ _ h=>by simp at h) (λ_ _ _ h=>by cases h) ⟨by grind [Jkc],λi x hx=>by
    obtain⟨u,hu,E,B⟩:=JkI (s:=s1) (cells:=v.cells) os new (Jlf hv hn) h1 (λi x hx=>by
     rw[J79]at hx;cases hzi:zero[i]? with
     |none=>simp_all
     |some c=>
      simp[hzi]at hx;subst hx;have A:=Jw hzi;have q:i<v.cells.size:=by omega
      have:=hr (w:=s1.w) (C:=s1.g.C) i c v.cells[i] hzi (by simp);exact⟨v.cells[i],by simp,.p _ _ this,this.one⟩) i x hx
    simp_all⟩
  have k:upd (J56 os new++[(new+os.length,Blk.box (Jb6 os new (zero.map .p)))]) s.σ=(upd (J56 os new) s.σ).set (new+os.length) (.box (Jb6 os new (zero.map .p))):=by rw[J21];rfl
  refine J2q (e:=⟨.ptr (new+os.length) 0,J56 os new++[(new+os.length,.box (Jb6 os new (zero.map .p)))]⟩) (v:=.pointer (some ⟨s.w.heap.size,0,none⟩)) (g':=J5v g1 (new+os.length) (some (s.w.heap.size,0))) ?_
   (by rw[k];exact z) (by rw[k];exact r.trans t') (by rw[k];exact .ptr (new+os.length) 0 _ 0 (if_pos rfl) ⟨_,J1r hd⟩)
  simp_all [execOp,Instr.alloc,Jbf,newVar,newRow]
 ·cases hc
theorem JCW(hi:Inv s)(he:J0p s a.tmps env)(hn:s.σ[new]?=some .dead){esz x}(h:(opR F (.storen esz x) new).run ⟨env,s.σ⟩=some e)(hc:JX P (.storen esz x) o.op=true):J1g P o a s e:=by
 simp only[opR]at h;obtain⟨u,h1,I⟩:=bind_some h;obtain⟨e1,h2,h3⟩:=bind_some I;clear h I;simp only[RM.run]at h3;injection h3 with h3;subst h3
 obtain⟨G,t0⟩:=JiS hi hn esz;unfold JX at hc;simp only at hc;split at hc
 ·rename_i t J a6;simp only[J04,beq_iff_eq]at hc;obtain⟨hs,hx⟩:=hc;have v:=J0h he h1 hx;have K: ∀{r n:Nat} {w':World},a.eval J=.pointer (some ⟨r,n,none⟩)->(storeVar t ⟨r,n,none⟩ (.slice none 0 0)).run P s.w=.ok () w'->(execOp a.eval o).run P s.w=.ok .skip w':=by intro r n w' hz Z;have a2:a.eval (.const (.slice none 0 0))=.slice none 0 0:=rfl;simp_all [execOp,Instr.storeAt,Instr.sureAddr]
  unfold J42 at h2;split at h2
  ·rename_i b off;simp only[RM.run]at h2;split at h2
   ·rename_i blk hb;split at h2
    ·rename_i cs;split at h2
     ·rename_i l hl;split at h2
      ·rename_i V;split at h2
       ·rename_i cs' C;simp only[RM.run]at h2;injection h2 with h2;subst h2
        have hb:s.σ[b]?=some (.box cs):=hb;have L:new≠b:=λe=>by simp_all
        let s1:Sn:=⟨s.σ.set new (.arr true esz []),J5v s.g new none,s.w⟩
        have B:s1.σ[b]?=some (.box cs):=(J4l L).trans hb;have T:JK s1 (.slr new 0 0) (.slice none 0 0):=
         .slr new 0 0 _ true esz [] ⟨none,0,rfl,.inl rfl⟩ (J1r hn) (zQ0 _) λ_=>.inl ⟨if_pos rfl,rfl,rfl,rfl⟩
        generalize hz:a.eval J=z at v;have v:=JK.mono (s:=s1) hi t0 v;cases v with
        |ptr _ _ r n m a0=>
         obtain⟨k1,k2,S⟩:=Jbl hl T;obtain⟨M,j2,O,j4⟩:=Jjc C;obtain⟨r1,o1,c,R,fz,A,D,a3,a1,hf⟩:=G.box b cs B;rw[m]at A;injection A with A;injection A with m1 m2;subst m1 m2
         have q:=J8e (vs:=(Value.slice none 0 0).cells.toList) (o:=n+off) D (by simp;omega);have hlen:(Value.slice none 0 0).cells.toList.length=l.length:=by simp[k1]
         obtain⟨U,t'⟩:=Jij (s0:=s1) G (blk:=.box cs') B q (λk h1 h2=>by
          grind [Wr1]) (.box _ _ M) (λW j E=>by
          injection j with j;subst j;obtain⟨c0,e0,a5,c',y,N,p3,p4,Q,p6⟩:=q.there;rw[D]at y;injection y with y;injection y with q1 q2 q3;subst q1 q2 q3
          refine⟨r,n,c',R,fz,m,N,by omega,λi x H=>?_,by simp_all⟩;by_cases a7:off<=i/\i<off+l.length
          ·have e1:cs'[off+(i-off)]?=l[i-off]?:=O (i-off) (by omega);rw[show off+(i-off)=i by omega,H]at e1;have Y:i-off<(Value.slice none 0 0).cells.size:=by omega
           have e2:=Q (i-off) (Value.slice none 0 0).cells[i-off] (by simp);refine⟨(Value.slice none 0 0).cells[i-off],by rw[<-e2];congr 1;omega,E (S (i-off) x _ e1.symm (by simp)),k2 _ (by simp)⟩
          grind)
          (λ_ _ j=>by cases j)
         refine Jiz (e:=⟨J3v,(new,.arr true esz [])::[(b,.box cs')]⟩) (K hz (JcV (by simp_all) D (by omega) (λk h1 h2=>hf k (by omega) (by omega)) k2)) rfl U (t0.trans t')
       ·cases h2
      ·cases h2
     ·cases h2
    ·cases h2
   ·cases h2
  ·rename_i b ext i off;have a4:(fz (.slr new 0 0)).run ⟨env,s.σ⟩=none:=by
    grind [fz,RM.run]
   simp only[RM.run]at h2;split at h2
   ·split at h2
    ·split at h2
     ·split at h2
      ·grind [run_bind]
      ·cases h2
     ·cases h2
    ·cases h2
   ·cases h2
  ·cases h2
 ·cases hc
theorem JDi(hi:Inv s)(he:J0p s a.tmps env){zero parts os}(G: ∀j,j<os.length->s.σ[new+j]?=some .dead)(h:(opR F (.buildo zero parts os) new).run ⟨env,s.σ⟩=some e)
  (hc:JX P (.buildo zero parts os) o.op=true):J1g P o a s e:=by
 simp only[opR]at h;obtain⟨l,h1,q⟩:=bind_some h;clear h;unfold JX at hc;simp only at hc;split at hc
 ·rename_i t ps a0;simp only[J04]at hc;obtain⟨⟨hz,hn⟩,E⟩:=hc;obtain⟨z,L,a1,N⟩:=J54 hz;obtain⟨g1,U,M,I,a2⟩:=JkF os new hi G;split at q
  ·rename_i cs hcs;split at q
   ·rename_i r h3;simp only[RM.run]at q;injection q with q;subst q
    let s1:Sn:=⟨upd (J56 os new) s.σ,g1,s.w⟩
    have H: ∀(i:Nat) x,(Jb6 os new (zero.map AV.p))[i]?=some x-> ∃u,z.cells[i]?=some u/\JK s1 x u/\u.oneCell'=true:=
     JkI (s:=s1) (cells:=z.cells) os new (Jlf L hn) I (by
      intro i x hx;rw[J79]at hx;cases hzi:zero[i]? with
      |none=>simp_all
      |some c=>
       simp[hzi]at hx;subst hx;have J:=Jw hzi;have S:i<z.cells.size:=by omega
       have:=N (w:=s1.w) (C:=s1.g.C) i c z.cells[i] hzi (by simp);exact⟨z.cells[i],by simp,.p _ _ this,this.one⟩)
    have fin: ∀{place:Nat->Option (Nat×Nat)},J6v place parts ps.toList=true->
      ∃n,Instr.fill place z.cells (ps.toList.map λx=>(x.1,a.eval x.2))=some n/\JK s1 r (.agg n):=by
     intro place D;obtain⟨k1,k2⟩:=JgK he h1 D;obtain⟨n,K,V,Y⟩:=JjY (s:=s1) (cells:=z.cells) hcs k1 (λk off size cs i v hk hv=>by obtain⟨T,R,O,Q⟩:=k2 k off size cs i v hk hv;exact⟨T,R,O,λj y u hy hu=>(Q j y u hy hu).mono hi M⟩) (by grind [Jkc]) H
     refine⟨n,K,?_⟩
     have:=Jmc (s:=s1) (vs:=n.toList) h3 (by simpa using V) (λv hv=>by
       obtain⟨i,A⟩:=J8Q hv;have A:n[i]?=some v:=by simpa using A
       have J:=Jcl A;obtain⟨u,hu,_,h1⟩:=Y i cs[i] (by simp_all);simp_all)
      (λi y v hy hv=>by
       grind)
     simp_all
    have a3:(ps.map λx=>(x.1,a.eval x.2)).toList=ps.toList.map λx=>(x.1,a.eval x.2):=by simp
    split at E
    ·rename_i fs hu;simp only[J04]at E;obtain⟨B,D⟩:=E;obtain⟨n,K,hr⟩:=fin D;have Z:(λi=>(fs.map λf=>(f.offset,(szT P f.type).getD 0))[i]?)=JcC P fs:=by
      funext i
      simp only[JcC,Array.getElem?_map];cases hfi:fs[i]? with
      |none=>rfl
      |some f=>have:=JB0.1 B f (Array.mem_of_getElem? hfi);cases hq:szT P f.type<;>simp[hq]at this⊢
     have W:(fs.mapM λf=>do pure (f.offset,<-sizeOf f.type):Sem (Array (Nat×Nat))).run P s.w=.ok (fs.map λf=>(f.offset,(szT P f.type).getD 0)) s.w:=by
      rw[Array.mapM_eq_mapM_toList];simp only[Sem.run_map,Jgf (P:=P) (fs:=fs.toList) (λf hf=>JB0.1 B f (by simpa using hf)),Jgj]
      congr 1
      grind
     have hf:Instr.fill (λi=>(fs.map λf=>(f.offset,(szT P f.type).getD 0))[i]?) z.cells (ps.map λx=>(x.1,a.eval x.2)).toList=some n:=by simp_all
     have hb:(Instr.build t (ps.map λx=>(x.1,a.eval x.2))).run P s.w=.ok (.agg n) s.w:=by simp_all [Instr.build,Jbf,run_underlying]
     refine J2q (e:=⟨r,J56 os new⟩) (v:=.agg n) (g':=g1) ?_ U M hr;simp_all [execOp]
    ·cases E
   ·cases q
  ·cases q
 ·cases hc
end
end Go.Am
end
section
namespace Go.Am
theorem Jzd{new:Nat}{env:List (Nat×AV)}{σ:List Blk}: ∀{k new:Nat} {u:Unit},(Jcp new k).run ⟨env,σ⟩=some u-> ∀j,j<k->σ[new+j]?=some .dead
 |0,_,_,_,j,hj=>by omega
 |k+1,new,u,h,j,hj=>by
  simp only[Jcp,RM.run]at h;split at h
  ·rename_i x hx;cases x with
   |dead=>
    dsimp only at h;cases j with
    |zero=>exact hx
    |succ j=>have:=Jzd (new:=0) h j (by omega);grind
   |box=>cases h
   |arr=>cases h
  ·cases h
section
variable {P:Program} {F:Orc} {s:Sn} {a:Act} {env:List (Nat×AV)} {o:Oper} {new:Nat} {e:Eff}
theorem JKR(q:J5O P F)(hi:Inv s)(he:J0p s a.tmps env){n:AOp}(h:(opD F n new).run ⟨env,s.σ⟩=some e)(hc:JX P n o.op=true):J1g P o a s e:=by
 unfold opD at h;obtain⟨u,hd,h⟩:=bind_some h;have g:=Jzd (new:=0) hd;clear hd;have j:J7T n=1->s.σ[new]?=some .dead:=λh1=>g 0 (by omega);cases n with
 |mv x=>grind [JKw]
 |mkarr esz x=>exact JEJ hi (j rfl) h hc
 |pick=>grind [JHa]
 |newbox=>exact JDj hi (j rfl) h hc
 |box=>exact JIz hi he (j rfl) h hc
 |build=>grind [JEO]
 |lits=>grind [JHO,J7T]
 |load=>grind [JHU]
 |store=>grind [JFr]
 |nilchk=>grind [JCv]
 |bin op t x y=>cases t<;>grind [Jwa,Jy9,JyG,JyT,JyA,JyQ]
 |un=>grind [JKo]
 |conv k x=>
  grind [JBh,J7T,JHK]
 |mkslice=>grind [JAM,J7T]
 |slice=>grind [JEI]
 |faddr=>grind [JER]
 |field=>grind [JF0]
 |iaddr=>grind [JFE]
 |aaddr=>grind [JFX]
 |sidx=>grind [JHj]
 |aidx=>grind [JHM]
 |extr=>grind [JHQ]
 |call=>exact JHI q hi he g h hc
 |callv=>exact JEj q hi he g h hc
 |len=>grind [JIw]
 |alen=>grind [JIf]
 |app=>grind [JIL]
 |appz=>grind [JIa]
 |appn=>exact JHN hi he (j rfl) h hc
 |appc=>exact JH6 hi he (j rfl) h hc
 |mm=>grind [JKA]
 |mkfn=>grind [JHg]
 |newboxo=>exact JAd hi g h hc
 |buildo=>exact JDi hi he g h hc
 |storen=>exact JCW hi he (j rfl) h hc
 |callo=>exact JEn q hi he g h hc
end
def Jdi(P:Program)(N:Nat)(ops:Array Oper)(i:J1w)(o:Oper):Bool:=
 JX P i.op o.op&&i.dst==o.dst&&(match i.dst with
  |some d=>decide (d<N)
  |none=>true)&&(match i.g,o.guard with
  |none,none=>true
  |some (g,w),some (j,w')=>w==w'&&(ops[j]?).bind (·.dst)==some g
  |_,_=>false)
def Sim(N:Nat)(E:Sn)(st:St)(a:Act)(w:World):Prop:=a.tmps.size=N/\a.defers=[]/\ ∃g,Inv ⟨st.sto,g,w⟩/\J0p ⟨st.sto,g,w⟩ a.tmps st.env/\J0l E ⟨st.sto,g,w⟩
theorem J0p.put{s:Sn}{tmps:Array Value}{env:List (Nat×AV)}(he:J0p s tmps env){d:Nat}(hd:d<tmps.size){x:AV}{v:Value}(hv:JK s x v):
  J0p s (tmps.setIfInBounds d v) ((d,x)::env):=by
 intro n y hy;simp only[lk]at hy;split at hy
 ·simp_all
 ·rename_i hn;obtain⟨u,h1,h2⟩:=he n y hy
  grind
theorem Sim.putd{N:Nat}{E:Sn}{st:St}{a:Act}{w w':World}{g g':Gh}{e:Eff}{v:Value}{d:Option Nat}
  (h1:a.tmps.size=N) (h2:a.defers=[]) (hi:Inv ⟨st.sto,g,w⟩) (he:J0p ⟨st.sto,g,w⟩ a.tmps st.env) (n:J0l E ⟨st.sto,g,w⟩) (hd: ∀x,d=some x->x<N)
  (j:Inv ⟨upd e.ws st.sto,g',w'⟩) (h:J0l ⟨st.sto,g,w⟩ ⟨upd e.ws st.sto,g',w'⟩) (hv:JK ⟨upd e.ws st.sto,g',w'⟩ e.val v):
  Sim N E (Am.put d e st) (a.put d v) w':=by
 have k:=he.mono hi h;cases d with
 |none=>exact⟨h1,h2,g',j,k,n.trans h⟩
 |some d=>exact⟨by grind [Act.put],h2,g',j,k.put (by simp_all) hv,n.trans h⟩
section
variable {P:Program} {F:Orc} {N:Nat} {E:Sn} {st:St} {a:Act} {w:World} {ops:Array Oper} {i:J1w} {o:Oper} {e:Eff} {new k:Nat} {Q:Exit->Act->World->Prop} {K:Act->World->Prop}
theorem JAB{s:Sn}:JK s J3v undef:=.tup _ _ rfl λi x v h=>by simp at h
theorem JD8(B:J5O P F)(hs:Sim N E st a w)(ho:ops[k]?=some o)(hc:Jdi P N ops i o=true)(h:(J1C F i new).run st=some e)
  (next: ∀n w',Sim N E (Am.put i.dst e st) n w'->K n w'):wpOp P ops Q k K a w:=by
 obtain⟨h1,h2,g,hi,he,A⟩:=hs;simp only[Jdi,J04,beq_iff_eq]at hc;obtain⟨⟨⟨hc,hd⟩,H⟩,q⟩:=hc;have r: ∀x,i.dst=some x->x<N:=by
  grind
 have run: ∀{e:Eff},(opD F i.op new).run st=some e->(∀n w',Sim N E (Am.put i.dst e st) n w'->K n w')->o.wp P a w K Q:=by
  intro e h next;refine JKR (s:=⟨st.sto,g,w⟩) (env:=st.env) B hi he h hc K Q λv w' g' D G hv=>next _ _ ?_
  grind [Sim.putd]
 have skip:(∀n w',Sim N E (Am.put i.dst ⟨J3v,[]⟩ st) n w'->K n w')->K (a.put o.dst undef) w:=by intro next;refine next _ _ ?_;rw[<-hd];exact Sim.putd (e:=⟨J3v,[]⟩) h1 h2 hi he A r hi (.refl _) JAB
 unfold wpOp;rw[ho];dsimp only;unfold J1C at h;cases hig:i.g with
 |none=>
  grind [Region.wanted]
 |some C=>
  obtain⟨I,z⟩:=C;rw[hig]at h q;cases hog:o.guard with
  |none=>simp_all
  |some x=>
   obtain⟨j,y⟩:=x;rw[hog]at q;simp only[J04,beq_iff_eq]at q;obtain⟨rfl,hj⟩:=q;simp only[RM.run]at h;split at h
   ·rename_i v hv;obtain⟨u,hu,hr⟩:=he _ _ hv;split at h
    ·rename_i b;cases hr with
     |p _ _ hr=>
      cases hr with
      |b x=>
       have hy:yielded ops a.tmps j=some b:=by grind [yielded]
       grind [Region.wanted,RM.run]
    ·cases hr with
     |tup _ vs hl _=>
      grind [yielded,Region.wanted,RM.run]
    ·cases h
   ·cases h
end
theorem Jxf{σ:List Blk}{n b:Nat}{x:Blk}(h:(σ++List.replicate n Blk.dead)[b]?=some x)(hx:x≠.dead):σ[b]?=some x:=by
 grind
theorem JpV{σ:List Blk}{n b:Nat}{x:Blk}(h:σ[b]?=some x):(σ++List.replicate n Blk.dead)[b]?=some x:=by
 grind
theorem Jj9{σ:List Blk}{g:Gh}{w:World}{n b r o:Nat}:Wr1 ⟨σ++List.replicate n .dead,g,w⟩ b r o↔Wr1 ⟨σ,g,w⟩ b r o:=by
 grind [Wr1]
theorem Jgb{σ:List Blk}{g:Gh}{w:World}{n:Nat}:J0l ⟨σ,g,w⟩ ⟨σ++List.replicate n .dead,g,w⟩ where
 keep:=.refl _ _
 cmono _ _ h:=h
 cnew _ _ h:=.inl h
 wnew _ _ h:=let⟨b,hb⟩:=h;.inl ⟨b,Jj9.1 hb⟩
 len:=by simp
 box b cs h:=⟨⟨cs,JpV h,rfl⟩,rfl⟩
 arr b wm esz rows h:=⟨wm,rows,JpV h,id,zQ0 _,λ_=>rfl⟩
theorem JGu{σ:List Blk}{g:Gh}{w:World}{n:Nat}(hi:Inv ⟨σ,g,w⟩):Inv ⟨σ++List.replicate n .dead,g,w⟩:=by
 have t:=Jgb (σ:=σ) (g:=g) (w:=w) (n:=n);refine⟨λb cs h=>?_,λb wm esz rows h=>?_,λb1 b2 r o h1 h2=>hi.apart b1 b2 r o (Jj9.1 h1) (Jj9.1 h2),λr o hc=>⟨(hi.const r o hc).1,λb hb=>(hi.const r o hc).2 b (Jj9.1 hb)⟩⟩
 ·obtain⟨r,o,c,e,fz,q1,q2,q3,q,k⟩:=hi.box b cs (Jxf h (by simp));exact⟨r,o,c,e,fz,q1,q2,q3,λi x hx=>let⟨v,k1,k2,j⟩:=q i x hx;⟨v,k1,k2.mono hi t,j⟩,k⟩
 ·exact hi.arr b wm esz rows (Jxf h (by simp))
theorem Sim.room{N:Nat}{E:Sn}{st:St}{a:Act}{w:World}(h:Sim N E st a w)(n:Nat):Sim N E ⟨st.env,room n st.sto⟩ a w:=by
 unfold Am.room;split
 ·exact h
 ·obtain⟨h1,h2,g,hi,he,e⟩:=h;exact⟨h1,h2,g,JGu hi,he.mono hi Jgb,e.trans Jgb⟩
theorem Sim.heap{N:Nat}{E:Sn}{st:St}{a:Act}{w w':World}(h:Sim N E st a w)(e:w'.heap=w.heap)(ho:w'.os=w.os)(hp:w'.output=w.output):Sim N E st a w':=by obtain⟨h1,h2,g,hi,he,k⟩:=h;obtain⟨j,t'⟩:=Jiy hi e ho hp;exact⟨h1,h2,g,j,he.mono hi t',k.trans t'⟩
theorem Sim.congr{N:Nat}{E:Sn}{st st':St}{a:Act}{w:World}(h:Sim N E st a w)(he: ∀m,lk m st'.env=lk m st.env)(hs:st'.sto=st.sto):Sim N E st' a w:=by obtain⟨h1,h2,g,hi,hr,e⟩:=h;refine⟨h1,h2,g,?_⟩;rw[hs];exact⟨hi,λn x hx=>hr n x (by simp_all),e⟩
end Go.Am
end
section
namespace Go.Am
def J2P(P:Program)(N:Nat)(ops:Array Oper):List J1w->List Oper->Bool
 |[],[]=>true
 |i::r,o::q=>Jdi P N ops i o&&J2P P N ops r q
 |_,_=>false
def Jcg(x y:J1w):Bool:=
 (match x.dst with
 |none=>true
 |some m=>y.dst !=some m&& !(J88 y).contains m)&&(match y.dst with
 |none=>true
 |some m=> !(J88 x).contains m)
def Jg3(x y:J1w):Bool:=(!Jkt x.op|| !JvH y.op)&&(!Jkt y.op|| !JvH x.op)
def JmB:List Nat->List Nat->List Nat
 |[],acc=>acc
 |x::r,acc=>match acc.contains x with
  |true=>JmB r acc
  |false=>JmB r (x::acc)
theorem JiC{i:Nat}: ∀{l acc:List Nat},i∈JmB l acc->i∈l\/i∈acc
 |[],_,h=>.inr h
 |x::r,acc,h=>by
  simp only[JmB]at h;split at h
  ·exact(JiC h).imp (JwG _) id
  ·rcases JiC h with h|h
   all_goals grind
def JGD(l:List Nat):List Nat:=JmB l []
theorem JE7{i:Nat}{l:List Nat}(h:i∈JGD l):i∈l:=(JiC h).resolve_right (by simp)
def JDS(acc:List (List Nat))(o:Oper):List Nat:=JGD<|(o.after.toList.filter λe=>Region.binds .any e).flatMap λe=>e.on::(acc[e.on]?).getD []
def JBL(acc:List (List Nat)):List Oper->List (List Nat)
 |[]=>acc
 |o::r=>JBL (acc++[JDS acc o]) r
def Jol(e:List (List Nat))(pairs:List (Nat×Nat))(i j:Nat)(x y:J1w):Bool:=
 ((e[j]?).getD []).contains i||(Jcg x y&&(Jg3 x y||pairs.contains (i,j)))
def Jd5(e:List (List Nat))(pairs:List (Nat×Nat))(j:Nat)(y:J1w):Nat->List J1w->Bool
 |_,[]=>true
 |i,x::r=>(decide (j<=i)||Jol e pairs i j x y)&&Jd5 e pairs j y (i+1) r
def Jj7(g:List (List Nat))(pairs:List (Nat×Nat))(e:List J1w):Nat->List J1w->Bool
 |_,[]=>true
 |j,y::r=>Jd5 g pairs j y 0 e&&Jj7 g pairs e (j+1) r
def JgP:Nat->List Oper->Bool
 |_,[]=>true
 |j,o::r=>(o.after.all λe=> !Region.binds .any e||decide (e.on<j))&&JgP (j+1) r
def JwR(P:Program)(N:Nat)(draw:Bool)(pairs:List (Nat×Nat))(ins:List J1w)(ops:Array Oper):Bool:=
 J2P P N ops ins ops.toList&&(!draw||(JgP 0 ops.toList&&Jj7 (JBL [] ops.toList) pairs ins 0 ins))
section
variable {P:Program} {F:Orc} {N:Nat} {E:Sn} {st st':St} {a:Act} {w:World} {ops:Array Oper} {Q:Exit->Act->World->Prop}
theorem Jqe: ∀{ins:List J1w} {os:List Oper},J2P P N ops ins os=true->ins.length=os.length/\ ∀(k:Nat) i,ins[k]?=some i-> ∃o,os[k]?=some o/\Jdi P N ops i o=true
 |[],[],_=>⟨rfl,by simp⟩
 |i::r,o::q,h=>by
  simp only[J2P,J04]at h;obtain⟨h1,h2⟩:=Jqe h.2
  grind
 |[],_::_,h=>by grind [J2P]
 |_::_,[],h=>by grind [J2P]
theorem JpU(q:J5O P F): ∀{r:List J1w} {k new:Nat} {st:St} {a:Act} {w:World},(∀(j:Nat) i,r[j]?=some i-> ∃o,ops[k+j]?=some o/\Jdi P N ops i o=true)->
  J3l F r new st=some st'->Sim N E st a w->(∀n w',Sim N E st' n w'->Q .normal n w')->wpOps P ops Q (List.range' k r.length) a w
 |[],k,new,st,a,w,_,h,hs,next=>by simp only[J3l]at h;cases h;exact next a w hs
 |i::r,k,new,st,a,w,hc,h,hs,next=>by
  simp only[J3l]at h;split at h
  ·rename_i e he;obtain⟨o,ho,g⟩:=hc 0 i rfl;rw[JFL,List.range'_succ,wpOps_cons];refine JD8 q hs ho g he λn w' hs'=>JpU q (λj i hj=>?_) h hs' next;obtain⟨o,ho,g⟩:=hc (j+1) i (by simpa using hj)
   grind
  ·cases h
theorem JDJ: ∀{ins:List J1w} {g:Nat} {st:St},J3l F ins g st=some st'->
  ∃(new:Nat->Nat) (S:Nat->St) (eff:Nat->Eff),Run F ins new S eff/\S 0=st/\S ins.length=st'
 |[],g,st,h=>by
  simp only[J3l]at h;injection h with h;subst h
  exact⟨λ_=>0,λ_=>st,λ_=>⟨J3v,[]⟩,⟨by simp⟩,rfl,rfl⟩
 |i::r,g,st,h=>by
  simp only[J3l]at h;split at h
  ·rename_i e he;obtain⟨new,S,eff,hr,j,hl⟩:=JDJ h;refine⟨fun|0=>g|k+1=>new k,fun|0=>st|k+1=>S k,fun|0=>e|k+1=>eff k,⟨λk x hx=>?_⟩,rfl,hl⟩;cases k with
   |zero=>simp_all
   |succ k=>exact hr.step k x (by simpa using hx)
  ·cases h
theorem JDa: ∀{ins:List J1w} {g:Nat} {st:St} {l l':Log},J50 F ins g st l=some (st',l')->
  ∃(new:Nat->Nat) (S:Nat->St) (eff:Nat->Eff),Run F ins new S eff/\S 0=st/\S ins.length=st'/\
   (∀k,k<l.length->l'[k]?=l[k]?)/\ ∀(k:Nat) i,ins[k]?=some i->l'[l.length+k]?=some (J4Y ((J1C F i (new k)).reads (S k)),(eff k).ws.map (·.1))
 |[],g,st,l,l',h=>by
  simp only[J50]at h;injection h with h;injection h with h1 h2;subst h1 h2
  exact⟨λ_=>0,λ_=>st,λ_=>⟨J3v,[]⟩,⟨by simp⟩,rfl,rfl,λ_ _=>rfl,by simp⟩
 |i::r,g,st,l,l',h=>by
  simp only[J50]at h;split at h
  ·rename_i e he;obtain⟨new,S,eff,hr,j,hl,q1,q2⟩:=JDa h;refine⟨fun|0=>g|k+1=>new k,fun|0=>st|k+1=>S k,fun|0=>e|k+1=>eff k,⟨λk x hx=>?_⟩,rfl,hl,λk hk=>?_,λk x hx=>?_⟩
   ·cases k with
    |zero=>simp_all
    |succ k=>exact hr.step k x (by simpa using hx)
   all_goals grind
  ·cases h
theorem Jcr{b:Nat}: ∀{l:List Loc},Loc.blk b∈l->b∈J4Y l
 | .blk c::r,h=>by
  simp only[J4Y,J40]at*;rcases h with h|h
  ·simp_all
  ·exact .inr (Jcr h)
 | .slot n::r,h=>by simp only[J4Y];refine Jcr ?_;simpa using h
 |[],h=>by simp at h
theorem Jkh{a b:List Nat}(h:J6Q a b=true){x:Nat}(hx:x∈a):x∉b:=by
 grind [J6Q]
theorem Jm5{l:Log}: ∀{ps:List (Nat×Nat)} {i j:Nat},Jcv l ps=true->(i,j)∈ps->
  ∃x y,l[i]?=some x/\l[j]?=some y/\J6Q x.2 y.1=true/\J6Q x.2 y.2=true/\J6Q x.1 y.2=true
 |[],i,j,_,h=>by simp at h
 |(p,q)::r,i,j,h,hm=>by
  simp only[Jcv,J04]at h;obtain⟨h1,h2⟩:=h;rcases J40.1 hm with e|e
  ·grind
  ·exact Jm5 h2 e
def Jo4(ops:Array Oper)(D:Nat->Bool)(k:Nat):Prop:= ∀o,ops[k]?=some o-> ∀e∈o.after,Region.binds .any e=true->D e.on=true
def JDX(ops:Array Oper)(D:Nat->Bool):Prop:= ∀k,D k=true->Jo4 ops D k
def JFS(ops:Array Oper)(k i:Nat):Prop:= ∀D,JDX ops D->Jo4 ops D k->D i=true
theorem JCI: ∀{os:List Oper} {acc:List (List Nat)},(∀(j:Nat) o,os[j]?=some o->ops[acc.length+j]?=some o)->(∀(k:Nat) l i,acc[k]?=some l->i∈l->JFS ops k i)->
  ∀(k:Nat) l i,(JBL acc os)[k]?=some l->i∈l->JFS ops k i
 |[],acc,_,ha=>ha
 |o::r,acc,ho,ha=>by
  refine JCI (os:=r) (acc:=acc++[JDS acc o]) (λj x hx=>?_) λk l i hk hi=>?_
  ·have:=ho (j+1) x (by simpa using hx)
   grind
  ·rcases JfB hk with hk|⟨w,hk⟩
   ·simp_all
   ·have h:k=acc.length:=by
     grind
    subst h;simp at hk;subst hk;intro D hD v;replace hi:=JE7 hi;simp only[List.mem_flatMap,List.mem_filter]at hi;obtain⟨e,⟨q,n⟩,hi⟩:=hi;have g:=v o (by simpa using ho 0 o rfl) e (by simpa using q) n;rcases J40.1 hi with rfl|hi
    ·exact g
    ·cases hac:acc[e.on]? with
     |none=>simp_all
     |some l=>rw[hac]at hi;exact ha _ l i hac hi D hD (hD _ g)
theorem JjQ{g:List (List Nat)}{pairs:List (Nat×Nat)}{j:Nat}{y:J1w}: ∀{r:List J1w} {e:Nat},Jd5 g pairs j y e r=true-> ∀(k:Nat) x,r[k]?=some x->e+k<j->Jol g pairs (e+k) j x y=true
 |[],e,_,k,x,hx,_=>by simp at hx
 |z::r,e,h,k,x,hx,n=>by
  simp only[Jd5,J04,Jo3,decide_eq_true_eq]at h;cases k with
  |zero=>grind
  |succ k=>
   have:=JjQ h.2 k x (by simpa using hx) (by omega)
   grind
theorem Jmk{j:List (List Nat)}{pairs:List (Nat×Nat)}{g:List J1w}: ∀{r:List J1w} {e:Nat},Jj7 j pairs g e r=true-> ∀(k:Nat) y,r[k]?=some y->Jd5 j pairs (e+k) y 0 g=true
 |[],e,_,k,y,hy=>by simp at hy
 |z::r,e,h,k,y,hy=>by
  simp only[Jj7,J04]at h;cases k with
  |zero=>simp_all
  |succ k=>
   have:=Jmk h.2 k y (by simpa using hy)
   grind
theorem JjR: ∀{r:List Oper} {g:Nat},JgP g r=true-> ∀(k:Nat) o,r[k]?=some o-> ∀e∈o.after,Region.binds .any e=true->e.on<g+k
 |[],g,_,k,o,ho=>by simp at ho
 |z::r,g,h,k,o,ho=>by
  simp only[JgP,J04]at h;cases k with
  |zero=>
   grind [Array.all_eq_true_iff_forall_mem]
  |succ k=>intro e he hb;have:=JjR h.2 k o (by simpa using ho) e he hb;omega
theorem JFg{x y:J1w}(h:Jcg x y=true):(∀m,x.dst=some m->y.dst≠some m/\m∉J88 y)/\(∀m,y.dst=some m->m∉J88 x):=by
 grind [Jcg]
variable {ins:List J1w} {new:Nat->Nat} {S:Nat->St} {eff:Nat->Eff}
theorem JG7(hr:Run F ins new S eff){i j:Nat}(hi:i<ins.length)(hj:j<ins.length)(h1:Jcg ins[i] ins[j]=true)
  (h2:Jg3 ins[i] ins[j]=true\/(J6Q ((eff i).ws.map (·.1)) (J4Y ((J1C F ins[j] (new j)).reads (S j)))=true/\
   J6Q ((eff i).ws.map (·.1)) ((eff j).ws.map (·.1))=true/\J6Q (J4Y ((J1C F ins[i] (new i)).reads (S i))) ((eff j).ws.map (·.1))=true)):Jte F ins new S eff i j:=by
 obtain⟨s1,q⟩:=JFg h1;have g:ins[i]?=some ins[i]:=zQ9 hi;have e:ins[j]?=some ins[j]:=zQ9 hj;obtain⟨n,_⟩:=hr.step i _ g;obtain⟨k,_⟩:=hr.step j _ e;refine⟨λx y m hx hy hm=>?_,λx y m hx hy hm hl=>?_,λy b hy hb=>?_,λx b hx hb hl=>?_⟩
 ·rw[g]at hx;cases hx;rw[e]at hy;cases hy;exact⟨(s1 m hm).1,λhl=>(s1 m hm).2 (Jzf F _ _ _ _ hl)⟩
 ·rw[g]at hx;cases hx;rw[e]at hy;cases hy;exact q m hm (Jzf F _ _ _ _ hl)
 ·rw[e]at hy;cases hy;rcases h2 with h2|⟨k1,k2,o⟩
  ·simp only[Jg3,J04,Jo3,JuL]at h2;rcases h2.1 with h|h
   ·rw[Joz F _ _ h _ _ n]at hb;simp at hb
   ·refine⟨?_,Jz1 F _ _ h _ _ k b⟩;rw[Joz F _ _ (JE1 h) _ _ k];simp
  ·exact⟨Jkh k2 hb,λhl=>Jkh k1 hb (Jcr hl)⟩
 ·rw[g]at hx;cases hx;rcases h2 with h2|⟨k1,k2,o⟩
  ·simp only[Jg3,J04,Jo3,JuL]at h2;rcases h2.2 with h|h
   ·rw[Joz F _ _ h _ _ k]at hb;simp at hb
   ·exact Jz1 F _ _ h _ _ n b hl
  grind [Jkh,Jcr]
def Dl(e:Array Bool):Nat->Bool:=λj=>e.getD j false
theorem JCD{e:Array Bool}{i:Nat}(hi:i<e.size):Dl (e.setIfInBounds i true)=λj=>if j=i then true else Dl e j:=by
 funext j
 unfold Dl;by_cases h:j=i
 all_goals simp_all [Ne.symm]
theorem Jn1{l:Array Bool}{i:Nat}(hi:i<l.size)(h:l.getD i false=false):(l.setIfInBounds i true).count false+1=l.count false:=by
 have he:l[i]=false:=by simp_all
 grind [Array.getElem_mem]
theorem JmK{l:Array Bool}(h:l.count false=0){i:Nat}(hi:i<l.size):l.getD i false=true:=by
 grind [Jn1]
theorem JGQ{l:Array Bool}: ∀m,m<=l.size->(∀j,j<m->Dl l j=true)\/ ∃k,k<m/\Dl l k=false/\ ∀j,j<k->Dl l j=true
 |0,_=>.inl λj hj=>by omega
 |m+1,h=>by
  rcases JGQ (l:=l) m (by omega)with h1|⟨k,a,b,c⟩
  all_goals grind
theorem JDm{l:Array Bool}{j:Nat}(hj:j<l.size):l.getD j true=l.getD j false:=by simp[hj]
theorem JK6(T:J5O P F)(hr:Run F ins new S eff)(hlen:ins.length=ops.size)(hc: ∀(k:Nat) i,ins[k]?=some i-> ∃o,ops[k]?=some o/\Jdi P N ops i o=true)
  (A: ∀(k:Nat) o,ops[k]?=some o-> ∀e∈o.after,Region.binds .any e=true->e.on<k)
  (D: ∀i j,i<j->j<ins.length->JFS ops j i\/Jte F ins new S eff i j)
  (next: ∀B w',Sim N E (S ins.length) B w'->Q .normal B w'):
  ∀(h:Nat) (g:Array Bool) (st:St) (a:Act) (w:World),g.size=ops.size->JlZ ins eff (S 0) (Dl g) st->Sim N E st a w->JDX ops (Dl g)->g.count false=h->
   wpAny P .any ops Q h g a w:=by
 intro h
 induction h with
 |zero=>
  intro g st a w G y hs q x;refine⟨?_,?_⟩
  ·cases hre:Region.ready .any ops g with
   |nil=>rfl
   |cons j l=>
    exfalso;have hm:j∈Region.ready .any ops g:=by rw[hre];simp
    grind [mem_ready,JmK]
  ·obtain⟨e1,e2⟩:=JCR hr y λj hj=>JmK x (by omega);exact next a w (hs.congr (λm=>(e1 m).symm) e2.symm)
 |succ h ih=>
  intro g st a w G y hs q x;refine⟨λU=>?_,λk hk=>?_⟩
  ·exfalso;rcases JGQ (l:=g) ops.size (by omega)with v|⟨k,hk,z,H⟩
   ·have:g.count false=0:=by
     rw[Array.count_eq_zero];intro hm;obtain⟨i,hi,he⟩:=Array.getElem_of_mem hm;have:=v i (by omega);unfold Dl at this;simp[hi,he]at this
    omega
   ·have hm:k∈Region.ready .any ops g:=by
     rw[mem_ready];refine⟨by rw[JDm (by omega)];exact z,ops[k],by simp[hk],λe he hb=>?_⟩;exact H _ (A k ops[k] (by simp[hk]) e he hb)
    simp_all
  ·obtain⟨h1,o,ho,v⟩:=mem_ready.1 hk;have R:k<ops.size:=(Array.getElem?_eq_some_iff.1 ho).1;have z:Dl g k=false:=by grind [Dl]
   have J:ins[k]?=some (ins[k]'(by omega)):=zQ9 _;obtain⟨V,M,K⟩:=hc k _ J;have n:Jo4 ops (Dl g) k:=by intro I r e he hb;rw[ho]at r;cases r;exact v e he hb
   obtain⟨O,W⟩:=JFG hr y J z (λj hj hDj=>by
    rcases D j k hj (by omega)with hm|hm
    ·have:=hm _ q n;simp_all
    ·exact hm) (λj hj L hDj=>by
    rcases D k j hj L with hm|hm
    ·have:=hm _ q (q j hDj);simp_all
    ·exact hm)
   refine JD8 T hs M K O λB w' hs'=>ih _ _ B w' (by simp[G]) ?_ hs' ?_ ?_
   ·grind [JCD]
   ·rw[JCD (by omega)];intro j hj I r e he hb;dsimp only at hj⊢;have hm:Dl g e.on=true->(if e.on=k then true else Dl g e.on)=true:=by simp_all
    by_cases C:j=k
    ·subst C;exact hm (n I r e he hb)
    ·rw[if_neg C]at hj;exact hm (q j hj I r e he hb)
   grind [Jn1]
theorem JJ2(O:J5O P F)(C:P.follows .mixedOrders=true){id:Nat}{draw:Bool}{pairs:List (Nat×Nat)}{ins:List J1w}(h:region F pairs ins st=some st')
  (hc:JwR P N draw pairs ins ops=true) (hs:Sim N E st a w) (next: ∀L w',Sim N E st' L w'->Q .normal L w'):(Code.region id ops draw).wp P Q a w:=by
 simp only[JwR,J04,Jo3,JuL]at hc;obtain⟨H,A⟩:=hc;obtain⟨hlen,B⟩:=Jqe H;have hlen:ins.length=ops.size:=by simp_all
 have B: ∀(k:Nat) i,ins[k]?=some i-> ∃o,ops[k]?=some o/\Jdi P N ops i o=true:=λk i hi=>by simp_all
 have K:=hs.room (news ins)
 have G: ∃(new:Nat->Nat) (S:Nat->St) (eff:Nat->Eff),Run F ins new S eff/\S 0=⟨st.env,room (news ins) st.sto⟩/\S ins.length=st'/\
   ∀i j,(i,j)∈pairs-> ∃x y,ins[i]?=some x/\ins[j]?=some y/\J6Q ((eff i).ws.map (·.1)) (J4Y ((J1C F y (new j)).reads (S j)))=true/\
   J6Q ((eff i).ws.map (·.1)) ((eff j).ws.map (·.1))=true/\J6Q (J4Y ((J1C F x (new i)).reads (S i))) ((eff j).ws.map (·.1))=true:=by
  unfold region at h;split at h
  ·grind [JDJ]
  ·split at h
   ·rename_i s' l g;split at h
    ·rename_i hp;cases h;obtain⟨new,S,eff,hr,v,hl,_,q⟩:=JDa g;refine⟨new,S,eff,hr,v,hl,λi j hm=>?_⟩;obtain⟨x,y,hx,hy,d1,Y,Z⟩:=Jm5 hp hm;have J: ∀(k:Nat) z,l[k]?=some z->k<ins.length:=by
      intro k z hk;have:=Jw hk;have U:l.length=ins.length:=by
       clear q hr v hl hp hx hy;have: ∀{r:List J1w} {e:Nat} {s0:St} {l0 n:Log} {s1:St},J50 F r e s0 l0=some (s1,n)->n.length=l0.length+r.length:=by
        intro r
        induction r with
        |nil=>simp[J50]
        |cons i r ih=>
         grind [J50]
       grind
      omega
     have hi:=J i x hx;have hj:=J j y hy;have I:ins[i]?=some ins[i]:=zQ9 hi;have D:ins[j]?=some ins[j]:=zQ9 hj;have R:=q i _ I;have T:=q j _ D;simp only[List.length_nil,JeI]at R T
     grind
    ·cases h
   ·cases h
 obtain⟨new,S,eff,hr,v,hl,hp⟩:=G;cases draw with
 |false=>
  refine wp_region ?_;rw[List.range_eq_range',<-hlen];have V: ∃e,J3l F ins e ⟨st.env,room (news ins) st.sto⟩=some st':=by
   unfold region at h;split at h
   ·grind
   ·split at h
    ·rename_i s' l g;split at h
     ·cases h;have: ∀{r:List J1w} {e:Nat} {s0:St} {l0 n:Log} {s1:St},J50 F r e s0 l0=some (s1,n)->J3l F r e s0=some s1:=by
       intro r
       induction r with
       |nil=>intro e s0 l0 n s1 h;simp only[J50]at h;injection h with h;injection h with h1 h2;subst h1;rfl
       |cons i r ih=>
        grind [J50,J3l]
      grind
     ·cases h
    ·cases h
  grind [JpU]
 |true=>
  obtain⟨he,hd⟩:=A.resolve_left (by simp);refine wp_region_any C ?_;have M:Sim N E (S 0) a {w with drawn:=w.drawn+1}:=by rw[v];exact K.heap rfl rfl rfl
  refine JK6 O hr hlen B (λk o ho=>?_) (λi j W hj=>?_) (by simp_all) ops.size _ (S 0) a _ (by simp) ?_ M ?_ ?_
  ·have:=JjR he k o (by simpa using ho);simp_all
  ·have I:ins[i]?=some (ins[i]'(by omega)):=zQ9 _;have D:ins[j]?=some ins[j]:=zQ9 hj;have h1:=Jmk hd j _ D;rw[JeI]at h1;have h2:=JjQ h1 i _ I (by omega);rw[JeI]at h2;simp only[Jol,Jo3,J04]at h2;rcases h2 with h2|⟨h2,h3⟩
   ·grind [JCI]
   grind [JG7]
  ·have:Dl (Array.replicate ops.size false)=λ_=>false:=by
    funext j;unfold Dl;simp[Array.getElem?_replicate];split<;>rfl
   rw[this];exact Jyz
  ·intro j hj;unfold Dl at hj;simp[Array.getElem?_replicate]at hj
   grind
  ·simp
end
end Go.Am
end
section
namespace Go.Am
def J0V(P:Program)(N:Nat):J17->Code->Bool
 | .bad,_=>true
 | .skip,c=>match c with
  | .skip=>true
  | .label _=>true
  |_=>false
 | .reg draw pairs ins,c=>match c with
  | .region _ ops d=>draw==d&&JwR P N draw pairs ins ops
  |_=>false
 | .seq a b,c=>match c with
  | .seq x y=>J0V P N a x&&J0V P N b y
  |_=>false
 | .cond o a b,c=>match c with
  | .cond p x y=>J1h o p&&J0V P N a x&&J0V P N b y
  |_=>false
 | .block id a,c=>match c with
  | .block e x=>id==e&&J0V P N a x
  |_=>false
 | .loop _ a,c=>match c with
  | .loop x=>J0V P N a x
  |_=>false
 | .lp _ _ _,_=>false
 | .scope a,c=>match c with
  | .scope x=>J0V P N a x
  |_=>false
 | .exit id,c=>match c with
  | .exit e=>id==e
  |_=>false
 | .ret,c=>match c with
  | .ret=>true
  |_=>false
 | .keep _ a,c=>J0V P N a c
 | .tidy _ a,c=>J0V P N a c
 | .br _ pre o a b rest,c=>match c with
  | .seq (.seq p (.cond q x y)) z=>J0V P N pre p&&J1h o q&&J0V P N a x&&J0V P N b y&&J0V P N rest z
  |_=>false
def J9a:AX->Exit
 | .normal=>.normal
 | .exit id=>.exit id
 | .ret=>.ret
def JfN(P:Program)(c:J17)(st:St)(r:Out):Prop:=
 match c with
 | .lp n _ b=> ∃k,∀(N:Nat) (e:Code) (E:Sn) (a:Act) (w:World) (Q:Exit->Act->World->Prop),J0V P N b e=true->E.σ.length<=n->n<=st.sto.length->Sim N E st a w->
   (∀g w',Sim N E r.2 g w'->Q (J9a r.1) g w')->Code.rounds P e Q k a w
 |c=> ∀(N:Nat) (e:Code) (E:Sn) (a:Act) (w:World) (Q:Exit->Act->World->Prop),J0V P N c e=true->Sim N E st a w->
  (∀g w',Sim N E r.2 g w'->Q (J9a r.1) g w')->e.wp P Q a w
theorem JfN.get{P:Program}{c:J17}{st:St}{r:Out}(h:JfN P c st r){N:Nat}{e:Code}{E:Sn}{a:Act}{w:World}{Q:Exit->Act->World->Prop}(hc:J0V P N c e=true)(hs:Sim N E st a w)
  (next: ∀g w',Sim N E r.2 g w'->Q (J9a r.1) g w'):e.wp P Q a w:=by
 cases c<;>first|exact h N e E a w Q hc hs next|grind [J0V]
theorem JgE{env:List (Nat×AV)}{n:Nat}{x:AV}: ∀{live:List Nat},lk n (restr live env)=some x->lk n env=some x
 |[],h=>by grind [restr,lk]
 |k::r,h=>by
  simp only[restr]at h;split at h
  ·rename_i v hv;simp only[lk]at h;split at h
   ·simp_all
   ·exact JgE h
  ·exact JgE h
theorem JzX{m:Nat}{sto:List Blk}{n:Nat}{y:AV}: ∀{env g:List (Nat×AV)},Jio m sto env=some g->lk n g=some y-> ∃x,lk n env=some x/\fin m [] sto x=some y
 |[],g,h,hy=>by grind [Jio,lk]
 |(k,x)::r,g,h,hy=>by
  simp only[Jio]at h;split at h
  ·rename_i z l hz hl;injection h with h;subst h;simp only[lk]at hy⊢;split at hy
   ·simp_all
   ·rename_i e;obtain⟨j,h1,h2⟩:=JzX hl hy;simp_all
  ·cases h
section
variable {P:Program} {N:Nat} {E:Sn} {st st':St} {a:Act} {w:World}
theorem Sim.restr(h:Sim N E st a w)(live:List Nat):Sim N E ⟨restr live st.env,st.sto⟩ a w:=by obtain⟨h1,h2,g,hi,hr,e⟩:=h;exact⟨h1,h2,g,hi,λn x hx=>hr n x (JgE hx),e⟩
theorem JgG{n:Nat}{live:List Nat}(h:Sim N E st a w)(hc:clean n live st=some st')(z:E.σ.length<=n)(hn:n<=st.sto.length):Sim N E st' a w/\st'.sto.length=n:=by
 unfold clean at hc;split at hc
 ·rename_i e;injection hc with hc;subst hc;exact⟨h.restr live,e⟩
 ·split at hc
  ·rename_i ev l q hl;injection hc with hc;subst hc;obtain⟨h1,h2,g,hi,hr,r⟩:=h;obtain⟨k1,k2⟩:=Jct hl;have hlen:l.length=n:=by simp_all
   have o:JBK ⟨st.sto,g,w⟩ n [] l:=by
    refine⟨hi,hn,List.nodup_nil,λb hb=>by simp at hb,by simp[hlen],λk x hk=>?_⟩
    grind [J8I]
   refine⟨⟨h1,h2,(J71 ⟨st.sto,g,w⟩ n [] l).g,JzH o,λk y hy=>?_,Jq9 o r z⟩,hlen⟩;obtain⟨x,hx,hf⟩:=JzX q hy;obtain⟨v,hv,j⟩:=hr k x (JgE hx);exact⟨v,hv,Jp1 o j hf⟩
  ·cases hc
def J7n(P:Program):List Jin->List ResultVar->Bool
 |[],[]=>true
 | .tmp t::r,.tmp t'::q=>t==t'&&J7n P r q
 | .cell t agg size::r,.cell t' ty::q=>t==t'&&agT P ty==some agg&&szT P ty==some size&&J7n P r q
 |_,_=>false
def JB4(tmps:Array Value):ResultVar->Sem Value
 | .tmp t=>pure (tmps.getD t undef)
 | .cell a t=>do loadVar t (<-asAddr (tmps.getD a undef))
theorem Jof{s:Sn}{env:List (Nat×AV)}{tmps:Array Value}(hi:Inv s)(he:J0p s tmps env): ∀{k:List Jin} {n:List ResultVar} {vs:List AV},J7n P k n=true->(JbU k).run ⟨env,s.σ⟩=some vs->
  ∃g:List Value,(n.mapM (JB4 tmps)).run P s.w=.ok g s.w/\vs.length=g.length/\ ∀(i:Nat) x v,vs[i]?=some x->g[i]?=some v->JK s x v
 |[],[],vs,_,h=>by simp_all [JbU,RM.run]
 | .tmp t::r,.tmp t'::q,vs,hc,h=>by
  simp only[J7n,J04,beq_iff_eq]at hc;obtain⟨rfl,hc⟩:=hc;simp only[JbU]at h;obtain⟨x,h1,h⟩:=bind_some h;obtain⟨l,h2,h⟩:=bind_some h;simp only[RM.run]at h;injection h with h;subst h
  simp only[RM.run]at h1;split at h1
  ·rename_i y hy;injection h1 with h1;subst h1;obtain⟨v,hv,hr⟩:=he _ _ hy;obtain⟨g,k1,k2,A⟩:=Jof hi he hc h2;refine⟨v::g,?_,by simp[k2],λi x u hx hu=>?_⟩
   ·simp_all [JB4]
   grind
  ·cases h1
 | .cell t agg size::r,.cell t' ty::q,vs,hc,h=>by
  simp only[J7n,J04,beq_iff_eq]at hc;obtain⟨⟨⟨rfl,ha⟩,hz⟩,hc⟩:=hc;simp only[JbU]at h;obtain⟨x,h1,h⟩:=bind_some h;obtain⟨e,h3,h⟩:=bind_some h;obtain⟨l,h2,h⟩:=bind_some h;simp only[RM.run]at h;injection h with h;subst h
  simp only[RM.run]at h1;split at h1
  ·rename_i y hy;injection h1 with h1;subst h1;obtain⟨v,hv,hr⟩:=he _ _ hy;obtain⟨g,k1,k2,A⟩:=Jof hi he hc h2;obtain⟨C,o,ws,q1,q2,q3,_,D⟩:=Jq8 hi h3 hr;obtain⟨E,l2⟩:=JjS (P:=P) ha hz q2 q3;have j: ∃u,(loadVar ty ⟨C,o,none⟩).run P s.w=.ok u s.w/\JK s e.val u:=by
    grind
   obtain⟨u,hu,B⟩:=j;refine⟨u::g,?_,by simp[k2],λi x z hx hz=>?_⟩
   ·simp_all [JB4,asAddr]
   grind
  ·cases h1
 |[],_::_,_,hc,_=>by grind [J7n]
 | .tmp _::_,[],_,hc,_=>by grind [J7n]
 | .cell _ _ _::_,[],_,hc,_=>by grind [J7n]
 | .tmp _::_,.cell _ _::_,_,hc,_=>by grind [J7n]
 | .cell _ _ _::_,.tmp _::_,_,hc,_=>by grind [J7n]
theorem Jee{m:Nat}{fresh:Bool}{sto:List Blk}: ∀{es:List Ent},∀b∈J4X m fresh sto es,m<=b
 |[],b,h=>by grind [J4X]
 | .elem _ _ _::r,b,h=>Jee (es:=r) b (by simpa[J4X]using h)
 | .whole c::r,b,h=>by
  simp only[J4X]at h;split at h
  ·exact Jee (es:=r) b h
  ·rename_i hc;have e:b∈c::J4X m fresh sto r->m<=b:=by
    intro h;rcases J40.1 h with rfl|h
    ·omega
    ·exact Jee (es:=r) b h
   grind
theorem JzJ{s:Sn}{vs:List AV}{e:List Value}(hl:vs.length=e.length)(hr: ∀(i:Nat) x v,vs[i]?=some x->e[i]?=some v->JK s x v):
  JK s (one vs) (if h:e.toArray.size=1 then e.toArray[0]else .tuple e.toArray):=by
 by_cases h:e.toArray.size=1
 ·rw[dif_pos h];cases e with
  |nil=>simp at h
  |cons u q=>
   cases vs with
   |nil=>simp at hl
   |cons x p=>
    have hq:q=[]:=by simpa using h
    subst hq;have hp:p=[]:=by simpa using hl
    subst hp;exact hr 0 x u rfl rfl
 ·rw[dif_neg h];have:one vs=.tup vs:=by
   match vs,hl with
   |[],_=>rfl
   |[x],hl=>simp_all
   |_::_::_,_=>rfl
  rw[this];exact .tup _ _ (by simpa using hl) λi x v hx hv=>hr i x v hx (by simpa using hv)
theorem Jq3{e:AFn}{fn:Func}{m:Nat}{r:Res}(hs:Sim N E st a w)(hm:E.σ.length=m)(h:J3I e m st=some r)(hc:J7n P e.res fn.results.toList=true):
  a.defers=[]/\ ∃v,(results fn a.tmps).run P w=.ok v w/\ ∃g',Inv ⟨r.2,g',w⟩/\J0l E ⟨r.2,g',w⟩/\JK ⟨r.2,g',w⟩ r.1 v:=by
 obtain⟨h1,h2,g,hi,hr,B⟩:=hs;refine⟨h2,?_⟩;unfold J3I at h;cases hvs:(JbU e.res).run st with
 |none=>simp_all
 |some vs=>
  rw[hvs]at h;dsimp only at h;obtain⟨y,k1,k2,G⟩:=Jof (P:=P) (s:=⟨st.sto,g,w⟩) (env:=st.env) hi hr hc hvs;have n:(results fn a.tmps).run P w=.ok (if h:y.toArray.size=1 then y.toArray[0]else .tuple y.toArray) w:=by
   have:results fn a.tmps=(do
    let vs<-fn.results.mapM (JB4 a.tmps)
    pure (if h:vs.size=1 then vs[0]else .tuple vs)):=rfl
   simp_all [Array.mapM_eq_mapM_toList]
  refine⟨_,n,?_⟩;split at h
  ·grind [JzJ]
  ·split at h
   ·rename_i C;have z:=Jee (m:=m) (fresh:=e.fresh) (sto:=st.sto) (es:=Jbs st.sto (J11.entsOfL vs []) (J11.entsOfL vs []));generalize J4X m e.fresh st.sto (Jbs st.sto (J11.entsOfL vs []) (J11.entsOfL vs []))=ids at*;split at h
    ·rename_i ws l q A hl hq;split at h
     ·rename_i q' D;injection h with h;subst h;obtain⟨a1,a2⟩:=J6n A;obtain⟨b1,b2⟩:=Jct hl;obtain⟨L,M⟩:=Jm3 hq;obtain⟨K,J⟩:=Jct D;have F:m<=st.sto.length:=by rw[<-hm];exact B.len
      have hlen:l.length=m:=by simp_all
      have o:JBK ⟨st.sto,g,w⟩ m ids (l++q'):=by
       refine⟨hi,F,Jcm C,z,by simp;omega,λk x hk=>?_⟩;rcases JfB hk with hk|⟨H,hk⟩
       ·grind [J8I]
       grind [J6L]
      refine⟨_,JzH o,Jq9 o B (by omega),JzJ (by omega) λi x v hx hv=>?_⟩;have I:=Jw hx;have j:vs[i]?=some (vs[i]'(by omega)):=zQ9 _;exact Jp1 o (G i _ v j hv) (a2 i _ x j hx)
     ·cases h
    ·cases h
   ·cases h
def J7K(P:Program)(f:FuncId)(e:AFn):Bool:=
 match P.funcs[f]? with
 |none=>false
 |some fn=>match fn.body with
  |none=>false
  |some g=>fn.name != "runtime.NumGoroutine" &&e.nt==e.np+(fn.ntmps-e.np)&&J7n P e.res fn.results.toList&&J0V P e.nt e.body g
theorem JnB: ∀{args:List AV} {k n:Nat} {x:AV},lk n (J8V k args)=some x->k<=n/\args[n-k]?=some x
 |[],k,n,x,h=>by grind [J8V,lk]
 |y::r,k,n,x,h=>by
  simp only[J8V,lk]at h;split at h
  ·simp_all
  ·rename_i e;obtain⟨h1,h2⟩:=JnB h
   grind
end
section
variable {P:Program} {T:J4c}
theorem JEU{f:FuncId}{j:AFn}{args:List AV}{blks:List Blk}{r:Res}(hc:J7K P f j=true)(I:args.length=j.np)
  (h: ∀(k:Code) (g:Gh) (w:World) (a:Act) (Q:Exit->Act->World->Prop),J0V P j.nt j.body k=true->Sim j.nt ⟨blks,g,w⟩ ⟨J8V 0 args,blks⟩ a w->
   (∀e s o w',(e=.normal\/e=.ret)->J3I j blks.length s=some r->Sim j.nt ⟨blks,g,w⟩ s o w'->Q (J9a e) o w')->k.wp P Q a w):J9g P f args blks r:=by
 unfold J7K at hc;split at hc
 ·cases hc
 ·rename_i fn z;split at hc
  ·cases hc
  ·rename_i k hb;simp only[J04,beq_iff_eq,bne_iff_ne,ne_eq]at hc;obtain⟨⟨⟨E,H⟩,F⟩,y⟩:=hc;refine⟨⟨fn,z,by simp[hb],by simp_all⟩,λg w vals A hlen B=>?_⟩;refine calls_of_wp z hb ?_;have D:Sim j.nt ⟨blks,g,w⟩ ⟨J8V 0 args,blks⟩ {tmps:=vals++Array.replicate (fn.ntmps-vals.size) undef,defers:=[]} w:=by
    refine⟨by simp;omega,rfl,g,A,λn x hx=>?_,.refl _⟩;obtain⟨_,hx⟩:=JnB hx;rw[JhM]at hx;have G:=Jw hx;refine⟨vals[n]'(by omega),?_,B n x _ hx (Jua _)⟩
    grind
   have fin: ∀{s},J3I j blks.length s=some r-> ∀o w',Sim j.nt ⟨blks,g,w⟩ s o w'->o.defers=[]/\ ∃v,(results fn o.tmps).run P w'=.ok v w'/\ ∃C g',Ending.returned v=.returned C/\
     Inv ⟨r.2,g',w'⟩/\J0l ⟨blks,g,w⟩ ⟨r.2,g',w'⟩/\JK ⟨r.2,g',w'⟩ r.1 C:=by
    grind [Jq3]
   refine h k g w _ _ y D λe s o w' he q hs=>?_;rcases he with rfl|rfl
   ·exact fin q o w' hs
   ·exact fin q o w' hs
theorem JG0{R:J17->St->Option Out}(ih: ∀c s r,R c s=some r->JfN P c s r){f:FuncId}{k:J9N}{args:List AV}{blks:List Blk}{r:Res}(hc:J7K P f k.af=true)(J:args.length=k.np)
  (h:Jce R k args blks=some r):J9g P f args blks r:=by
 refine JEU hc J λx g w a Q q B fin=>?_;simp only[J9N.af]at q fin B;cases x<;>simp only[J0V,J8R]at q;rename_i L K;simp only[J04]at q;obtain⟨E,y⟩:=q;unfold Jce at h;split at h
 ·rename_i s0 H;split at h
  ·rename_i s1 D;refine wp_seq ((ih _ _ _ H).get E B λa0 w0 z=>?_);split at y
   ·rename_i cp G T S M;simp only[J04]at y;obtain⟨⟨⟨⟨hp,ho⟩,hx⟩,hy⟩,hz⟩:=y;simp only[J9a,Exit.then];refine wp_seq (wp_seq ((ih _ _ _ D).get hp z λa1 w1 z=>?_))
    have O: ∀{c:J17} {x:Code},J0V P k.nt c x=true->JgD k.af blks.length (thn (R c s1) λs=>R k.rest s)=some r->
      x.wp P (Exit.then (M.wp P Q) Q) a1 w1:=by
     intro c x hc n;cases hR:R c s1 with
     |none=>rw[hR]at n;cases n
     |some o=>
      obtain⟨e,F⟩:=o;rw[hR]at n;refine(ih _ _ _ hR).get hc z λA w' hs'=>?_;cases e with
      |normal=>
       simp only[thn]at n;cases hR2:R k.rest F with
       |none=>rw[hR2]at n;cases n
       |some N=>
        obtain⟨e2,I⟩:=N;rw[hR2]at n;simp only[J9a,Exit.then];refine(ih _ _ _ hR2).get hz hs' λA w' hs'=>?_;cases e2 with
        |normal=>exact fin .normal I A w' (.inl rfl) n hs'
        |ret=>exact fin .ret I A w' (.inr rfl) n hs'
        |exit id=>cases n
      |exit id=>cases n
      |ret=>exact fin .ret F A w' (.inr rfl) n hs'
    have C:=z;obtain⟨_,_,g,hi,hr,_⟩:=C;simp only[J9a,Exit.then];split at h
    ·rename_i b hb;have j:=J0h (s:=⟨s1.sto,g,w1⟩) (env:=s1.env) hr hb ho;generalize hv:a1.eval G=v at j;cases j with
     |p _ _ j=>cases j<;>grind [wp_cond]
    ·rename_i hb;have j:=J0h (s:=⟨s1.sto,g,w1⟩) (env:=s1.env) hr hb ho;generalize hv:a1.eval G=v at j;cases j with
     |unk t=>
      refine wp_cond hv ?_;unfold Jlm at h
      grind
    ·cases h
   ·cases y
  ·cases h
 ·cases h
theorem JtC{R:J17->St->Option Out}(ih: ∀c s r,R c s=some r->JfN P c s r)(E: ∀f j,T f=some (.fn j)->J7K P f j=true)
  (K: ∀f g,T f=some (.prim g)-> ∀args blks r,g args blks=some r->J9g P f args blks r) (J: ∀f k,T f=some (.fork k)->J7K P f k.af=true):J5O P (Jar T R):=by
 intro f args blks r h;unfold Jar at h;cases hTf:T f with
 |none=>simp_all
 |some en=>
  rw[hTf]at h;cases en with
  |prim g=>simp_all
  |fork k=>
   grind [JG0]
  |fn j=>
   dsimp only at h;split at h
   ·rename_i H;have hc:=E f j hTf;unfold J7K at hc;split at hc
    ·cases hc
    ·rename_i fn y;split at hc
     ·cases hc
     ·rename_i D hb;simp only[J04,beq_iff_eq,bne_iff_ne,ne_eq]at hc;obtain⟨⟨⟨C,I⟩,F⟩,o⟩:=hc;refine⟨⟨fn,y,by simp[hb],by simp_all⟩,λg w vals z hlen A=>?_⟩;refine calls_of_wp y hb ?_;have q:Sim j.nt ⟨blks,g,w⟩ ⟨J8V 0 args,blks⟩ {tmps:=vals++Array.replicate (fn.ntmps-vals.size) undef,defers:=[]} w:=by
       refine⟨by simp;omega,rfl,g,z,λn x hx=>?_,.refl _⟩;obtain⟨_,hx⟩:=JnB hx;rw[JhM]at hx;have G:=Jw hx;refine⟨vals[n]'(by omega),?_,A n x _ hx (Jua _)⟩
       grind
      have fin: ∀{s},J3I j blks.length s=some r-> ∀e w',Sim j.nt ⟨blks,g,w⟩ s e w'->e.defers=[]/\ ∃v,(results fn e.tmps).run P w'=.ok v w'/\ ∃B g',Ending.returned v=.returned B/\
        Inv ⟨r.2,g',w'⟩/\J0l ⟨blks,g,w⟩ ⟨r.2,g',w'⟩/\JK ⟨r.2,g',w'⟩ r.1 B:=by
       grind [Jq3]
      split at h
      ·rename_i s hR;exact(ih _ _ _ hR).get o q λe w' hs=>fin h e w' hs
      ·rename_i s hR;exact(ih _ _ _ hR).get o q λe w' hs=>fin h e w' hs
      ·cases h
   ·cases h
theorem JHd(S:P.follows .mixedOrders=true)(hT: ∀f Z,T f=some (.fn Z)->J7K P f Z=true)
  (hP: ∀f g,T f=some (.prim g)-> ∀args blks r,g args blks=some r->J9g P f args blks r) (hK: ∀f k,T f=some (.fork k)->J7K P f k.af=true): ∀c s r,X T c s=some r->JfN P c s r:=by
 refine JLh T _ ?_;intro R ih c s r h;have hF:J5O P (Jar T R):=JtC ih hT hP hK;cases c with
 |skip=>
  simp only[step]at h;injection h with h;subst h
  intro N j E a w Q hc hs next;cases j<;>first
   |exact wp_skip (next a w hs)
   |exact wp_label (next a w hs)
   |grind [J0V]
 |bad=>grind [step]
 |reg d pairs ins=>
  simp only[step]at h;split at h
  ·rename_i s' M;injection h with h;subst h;intro N j E a w Q hc hs next;cases j<;>simp only[J0V,J8R]at hc;simp only[J04,beq_iff_eq]at hc;obtain⟨rfl,hc⟩:=hc;exact JJ2 hF S M hc hs next
  ·cases h
 |seq x y=>
  simp only[step]at h;intro N j E a w Q hc hs next;cases j<;>simp only[J0V,J8R]at hc;simp only[J04]at hc;refine wp_seq ?_;split at h
  ·rename_i s' hx;refine(ih _ _ _ hx).get hc.1 hs λA w' hs'=>?_;exact(ih _ _ _ h).get hc.2 hs' next
  ·rename_i J;refine(ih _ _ _ h).get hc.1 hs λA w' hs'=>?_;obtain⟨e,s'⟩:=r;cases e with
   |normal=>simp_all
   |exit id=>exact next A w' hs'
   |ret=>exact next A w' hs'
 |cond c x y=>
  simp only[step]at h;intro N j E a w Q hc hs next;cases j<;>simp only[J0V,J8R]at hc;simp only[J04]at hc;obtain⟨⟨K,hx⟩,hy⟩:=hc;have hs':=hs;obtain⟨_,_,g,hi,hr,_⟩:=hs';split at h
  ·rename_i b hb;have q:=J0h (s:=⟨s.sto,g,w⟩) (env:=s.env) hr hb K;generalize hv:a.eval _=v at q;cases q with
   |p _ _ q=>
    cases q with
    |b=>
     refine wp_cond hv ?_;cases b with
     |true=>exact(ih _ _ _ (by simpa using h)).get hx hs next
     |false=>exact(ih _ _ _ (by simpa using h)).get hy hs next
  ·rename_i hb;have q:=J0h (s:=⟨s.sto,g,w⟩) (env:=s.env) hr hb K;generalize hv:a.eval _=v at q;cases q with
   |unk t=>
    refine wp_cond hv ?_;unfold same at h;split at h
    ·rename_i r1 r2 e1 e2;split at h
     ·rename_i he;injection h with h;subst h;cases t with
      |true=>exact(ih _ _ _ e1).get hx hs next
      |false=>rw[he]at next;exact(ih _ _ _ e2).get hy hs next
     ·cases h
    ·cases h
  ·cases h
 |block id x=>
  simp only[step]at h;intro N j E a w Q hc hs next;cases j<;>simp only[J0V,J8R]at hc;simp only[J04,beq_iff_eq]at hc;obtain⟨rfl,hc⟩:=hc;refine wp_block ?_;split at h
  ·rename_i k s' hx;refine(ih _ _ _ hx).get hc hs λA w' hs'=>?_
   grind [J9a,Exit.inBlock]
  ·rename_i J;refine(ih _ _ _ h).get hc hs λA w' hs'=>?_;obtain⟨e,s'⟩:=r;cases e with
   |normal=>exact next A w' hs'
   |exit id=>simp_all
   |ret=>exact next A w' hs'
 |loop live x=>
  simp only[step]at h;intro N j E a w Q hc hs next;cases j<;>simp only[J0V,J8R]at hc;split at h
  ·rename_i s' B;obtain⟨k,hk⟩:=ih _ _ _ h;have F:E.σ.length<=s.sto.length:=by obtain⟨_,_,g,_,_,z⟩:=hs;exact z.len
   obtain⟨hs',hl⟩:=JgG hs B F (zQ0 _);exact wp_loop_rounds k (hk N _ E a w Q hc F (by omega) hs' next)
  ·cases h
 |lp n live x=>
  simp only[step]at h;split at h
  ·rename_i s' hx;split at h
   ·rename_i a9 B;obtain⟨k,hk⟩:=ih _ _ _ h;refine⟨k+1,λN j E a w Q hc F hn hs next=>?_⟩;rw[rounds_succ];obtain⟨h1,h2,g,hi,hr,z⟩:=hs;have C:Sim N ⟨s.sto,g,w⟩ s a w:=⟨h1,h2,g,hi,hr,.refl _⟩;refine(ih _ _ _ hx).get hc C λA w' hs'=>?_;obtain⟨q1,q2,g',G,H,D⟩:=hs';have hlen:s.sto.length<=s'.sto.length:=D.len;have W:Sim N E s' A w':=⟨q1,q2,g',G,H,z.trans D⟩;obtain⟨Y,hl⟩:=JgG W B F (by omega);exact hk N j E A w' Q hc F (by omega) Y next
   ·cases h
  ·rename_i J;refine⟨1,λN j E a w Q hc F hn hs next=>?_⟩;rw[rounds_succ];refine(ih _ _ _ h).get hc hs λA w' hs'=>?_;obtain⟨e,s'⟩:=r;cases e with
   |normal=>simp_all
   |exit id=>exact next A w' hs'
   |ret=>exact next A w' hs'
 |scope x=>simp only[step]at h;intro N j E a w Q hc hs next;cases j<;>simp only[J0V,J8R]at hc;refine wp_scope_straight ((ih _ _ _ h).get hc hs λA w' hs'=>?_);have:=next A w' hs';obtain⟨e,s'⟩:=r;cases e<;>exact this
 |exit id=>
  simp only[step]at h;injection h with h;subst h
  intro N j E a w Q hc hs next;cases j<;>simp only[J0V,J8R]at hc;simp only[beq_iff_eq]at hc;subst hc;exact wp_exit (next a w hs)
 |ret=>
  simp only[step]at h;injection h with h;subst h
  intro N j E a w Q hc hs next;cases j<;>simp only[J0V,J8R]at hc;exact wp_ret (next a w hs)
 |keep live x=>simp only[step]at h;intro N j E a w Q hc hs next;exact(ih _ _ _ h).get (by grind [J0V]) (hs.restr live) next
 |tidy live x=>
  simp only[step,J6S]at h;intro N j E a w Q hc hs next;split at h
  ·rename_i e I he;split at h
   ·rename_i U B;injection h with h;subst h;obtain⟨h1,h2,g,hi,hr,z⟩:=hs;have C:Sim N ⟨s.sto,g,w⟩ s a w:=⟨h1,h2,g,hi,hr,.refl _⟩;refine(ih _ _ _ he).get (by grind [J0V]) C λA w' hs'=>next A w' ?_;obtain⟨q1,q2,g',G,H,D⟩:=hs';exact(JgG (st:=I) (st':=U) ⟨q1,q2,g',G,H,z.trans D⟩ B z.len D.len).1
   ·cases h
  ·cases h
 |br live pre o x y rest=>
  simp only[step]at h;intro N j E a w Q hc hs next;unfold J0V at hc;split at hc
  ·rename_i cp cq cx cy cz;simp only[J04]at hc;obtain⟨⟨⟨⟨hp,ho⟩,hx⟩,hy⟩,hz⟩:=hc;split at h
   ·rename_i s1 V;refine wp_seq (wp_seq ((ih _ _ _ V).get hp hs λa1 w1 L=>?_))
    have a2: ∀{c:J17} {j:Code} {r':Out},J0V P N c j=true->thn (R c s1) (λs=>R rest s)=some r'->
      ∀{E:Sn} {a:Act} {w:World} {Q:Exit->Act->World->Prop},Sim N E s1 a w->(∀A w',Sim N E r'.2 A w'->Q (J9a r'.1) A w')->j.wp P (Exit.then (cz.wp P Q) Q) a w:=by
     intro c j r' hc z E a w Q hs next;cases hR:R c s1 with
     |none=>rw[hR]at z;cases z
     |some o=>
      obtain⟨e,I⟩:=o;rw[hR]at z;refine(ih _ _ _ hR).get hc hs λA w' hs'=>?_;cases e with
      |normal=>exact(ih _ _ _ z).get hz hs' next
      |exit id=>injection z with z;subst z;exact next A w' hs'
      |ret=>injection z with z;subst z;exact next A w' hs'
    have a4: ∀{c:J17} {j:Code},J0V P N c j=true->J6S s1.sto.length live (thn (R c s1) λs=>R rest s)=some r->j.wp P (Exit.then (cz.wp P Q) Q) a1 w1:=by
     intro c j hc z;unfold J6S at z;split at z
     ·rename_i e I he;split at z
      ·rename_i U B;injection z with z;subst z;obtain⟨h1,h2,g,hi,hr,z⟩:=L;have C:Sim N ⟨s1.sto,g,w1⟩ s1 a1 w1:=⟨h1,h2,g,hi,hr,.refl _⟩;refine a2 hc he C λA w' hs'=>next A w' ?_;obtain⟨q1,q2,g',G,H,D⟩:=hs';exact(JgG (st:=I) (st':=U) ⟨q1,q2,g',G,H,z.trans D⟩ B z.len D.len).1
      ·cases z
     ·cases z
    have O:=L;obtain⟨_,_,g,hi,hr,_⟩:=O;simp only[J9a,Exit.then];split at h
    ·rename_i b hb;have q:=J0h (s:=⟨s1.sto,g,w1⟩) (env:=s1.env) hr hb ho;generalize hv:a1.eval cq=v at q;cases q with
     |p _ _ q=>cases q<;>grind [wp_cond]
    ·rename_i hb;have q:=J0h (s:=⟨s1.sto,g,w1⟩) (env:=s1.env) hr hb ho;generalize hv:a1.eval cq=v at q;cases q with
     |unk t=>
      refine wp_cond hv ?_;unfold same at h
      grind
    ·cases h
   ·cases h
  ·cases hc
theorem JKE(e:P.follows .mixedOrders=true)(j: ∀f o,T f=some (.fn o)->J7K P f o=true)
  (h: ∀f g,T f=some (.prim g)-> ∀args blks r,g args blks=some r->J9g P f args blks r) (n: ∀f k,T f=some (.fork k)->J7K P f k.af=true):J5O P (AF T):=
 JtC (JHd e j h n) j h n
end
end Go.Am
end
section
namespace Go.Am
@[congr] theorem JL5{o e:Option Out}{k:St->Option Out}(h:o=e):thn o k=thn e k:=by rw[h]
@[congr] theorem JKa{α β:Type}{o e:RM α}{f:α->RM β}(h:o=e):o.bind f=e.bind f:=by rw[h]
@[congr] theorem JKb{α β:Type}{o e:Option α}{f:α->Option β}(h:o=e):o.bind f=e.bind f:=by rw[h]
@[simp] theorem Jaa(s k):thn (some (.normal,s)) k=k s:=rfl
@[simp] theorem JFm(i s k):thn (some (.exit i,s)) k=some (.exit i,s):=rfl
@[simp] theorem JHb(s k):thn (some (.ret,s)) k=some (.ret,s):=rfl
@[simp] theorem JEa(k):thn none k=none:=rfl
def JvV(o:Option Out)(k:St->Option Out):Option Out:=
 match o with
 |some (.normal,s)=>k s
 |_=>none
@[congr] theorem JKf{o e:Option Out}{k:St->Option Out}(h:o=e):JvV o k=JvV e k:=by rw[h]
@[simp] theorem Jyi(s k):JvV (some (.normal,s)) k=k s:=rfl
def blo(id:Nat)(o:Option Out):Option Out:=
 match o with
 |some (.exit k,s)=>if k=id then some (.normal,s)else some (.exit k,s)
 |o=>o
@[simp] theorem JBG(id s):blo id (some (.normal,s))=some (.normal,s):=rfl
@[simp] theorem Jv8(id i s):blo id (some (.exit i,s))=if i=id then some (.normal,s)else some (.exit i,s):=rfl
@[simp] theorem JHZ(id s):blo id (some (.ret,s))=some (.ret,s):=rfl
@[simp] theorem JEW(id):blo id none=none:=rfl
def nrm(o:Option St):Option Out:=match o with
 |some s=>some (.normal,s)
 |none=>none
@[simp] theorem JGs(s):nrm (some s)=some (.normal,s):=rfl
@[simp] theorem JFD:nrm none=none:=rfl
def evv(x:Opd)(env:List (Nat×AV)):Option AV:=match x with
 | .t n=>lk n env
 | .c v=>some v
@[simp] theorem JLA(n env):evv (.t n) env=lk n env:=rfl
@[simp] theorem JLB(v env):evv (.c v) env=some v:=rfl
theorem Jms(x:Opd)(s:St):(ev x).run s=evv x s.env:=by cases x<;>grind [ev,RM.run,evv]
section
variable (T:J4c)
@[simp ↓] theorem JLv(s):X T .skip s=some (.normal,s):=by rw[Jb4];rfl
@[simp ↓] theorem JGA(a b s):X T (.seq a b) s=thn (X T a s) λs=>X T b s:=by
 rw[Jb4];simp only[step];cases X T a s with
 |none=>rfl
 |some o=>obtain⟨e,s'⟩:=o;cases e<;>rfl
theorem JGI(d ps ins s):X T (.reg d ps ins) s=nrm (region (AF T) ps ins s):=by rw[Jb4];simp only[step];show(match region (AF T) ps ins s with|some s'=>some (AX.normal,s')|none=>none)=_;cases region (AF T) ps ins s<;>rfl
@[simp ↓] theorem JLx(d ins env sto):X T (.reg d [] ins) ⟨env,sto⟩=nrm (J3l (AF T) ins sto.length ⟨env,room (news ins) sto⟩):=by rw[JGI];rfl
def cnd(x:Option AV)(a b:Option Out)(c:Unit->Option Out):Option Out:=
 match x with
 |some (.p (.b x))=>if x=true then a else b
 |some .unk=>c ()
 |_=>none
@[congr] theorem JL3{x e:Option AV}{a b:Option Out}{c:Unit->Option Out}(h:x=e):cnd x a b c=cnd e a b c:=by rw[h]
@[simp] theorem JGJ(x a b c):cnd (some (.p (.b x))) a b c=if x=true then a else b:=rfl
@[simp] theorem JI6(a b c):cnd (some .unk) a b c=c ():=rfl
@[simp ↓] theorem JIi(x a b s):X T (.cond x a b) s=cnd (evv x s.env) (X T a s) (X T b s) λ_=>same (X T a s) (X T b s):=by
 rw[Jb4];simp only[step,Jms];cases evv x s.env with
 |none=>rfl
 |some v=>
  cases v with
  |p c=>cases c<;>rfl
  |_=>rfl
@[simp ↓] theorem JH1(id c s):X T (.block id c) s=blo id (X T c s):=by
 rw[Jb4];simp only[step];cases X T c s with
 |none=>rfl
 |some o=>obtain⟨e,s'⟩:=o;cases e<;>rfl
@[simp ↓] theorem JHn(c s):X T (.scope c) s=X T c s:=by rw[Jb4];rfl
@[simp ↓] theorem JLu(id s):X T (.exit id) s=some (.exit id,s):=by rw[Jb4];rfl
@[simp ↓] theorem JKJ(s):X T .ret s=some (.ret,s):=by rw[Jb4];rfl
@[simp ↓] theorem JDU(live c s):X T (.keep live c) s=X T c ⟨restr live s.env,s.sto⟩:=by rw[Jb4];rfl
@[simp ↓] theorem JLD(live pre x a b rest s):X T (.br live pre x a b rest) s=JvV (X T pre s) λs1=>
  cnd (evv x s1.env) (thn (X T a s1) λs=>X T rest s) (thn (X T b s1) λs=>X T rest s) λ_=>
   same (J6S s1.sto.length live (thn (X T a s1) λs=>X T rest s)) (J6S s1.sto.length live (thn (X T b s1) λs=>X T rest s)):=by
 rw[Jb4];simp only[step,Jms];cases X T pre s with
 |none=>rfl
 |some o=>
  obtain⟨e,s1⟩:=o;cases e with
  |normal=>
   dsimp only[JvV];cases evv x s1.env with
   |none=>rfl
   |some v=>
    cases v with
    |p c=>cases c<;>rfl
    |_=>rfl
  |exit=>rfl
  |ret=>rfl
@[simp ↓] theorem JJn(live c env sto):X T (.loop live c) ⟨env,sto⟩=X T (.lp sto.length live c) ⟨restr live env,sto⟩:=by
 grind [Jb4,step,clean]
theorem JF8(n live c s):X T (.lp n live c) s=thn (X T c s) λs=>match clean n live s with
  |some s=>X T (.lp n live c) s
  |none=>none:=by
 rw[Jb4];simp only[step];cases X T c s with
 |none=>rfl
 |some o=>obtain⟨e,s'⟩:=o;cases e<;>rfl
def JwM(res:List Jin)(fresh:Bool)(m:Nat)(o:Option Out):Option Res:=
 match o with
 |some (.normal,s)=>J3I ⟨0,0,.skip,res,fresh⟩ m s
 |some (.ret,s)=>J3I ⟨0,0,.skip,res,fresh⟩ m s
 |_=>none
@[congr] theorem JKI{res:List Jin}{fresh:Bool}{m:Nat}{o e:Option Out}(h:o=e):JwM res fresh m o=JwM res fresh m e:=by rw[h]
@[simp] theorem Jyq(res fresh m s):JwM res fresh m (some (.normal,s))=J3I ⟨0,0,.skip,res,fresh⟩ m s:=rfl
@[simp] theorem JG3(res fresh m s):JwM res fresh m (some (.ret,s))=J3I ⟨0,0,.skip,res,fresh⟩ m s:=rfl
theorem JI8{f:FuncId}{k:J9N}(h:T f=some (.fork k))(args blks):AF T f args blks=if args.length=k.np then Jce (X T) k args blks else none:=by simp_all [AF,Jar]
@[simp] theorem JKu(o:Option Res):Jlm o o=o:=by unfold Jlm;cases o<;>simp
theorem JKY{f:FuncId}{fn:AFn}(h:T f=some (.fn fn))(args blks):AF T f args blks=if args.length=fn.np then
  JwM fn.res fn.fresh blks.length (X T fn.body ⟨J8V 0 args,blks⟩)
 else none:=by
 unfold AF Jar;rw[h];rfl
end
variable {F:Orc} {env:List (Nat×AV)} {sto:List Blk} {new:Nat} {r:List J1w} {d:Nat}
@[simp] theorem JAs(s):J3l F [] new s=some s:=rfl
theorem Jyn(i s):J3l F (i::r) new s=((J1C F i new).run s).bind λe=>J3l F r (new+J7T i.op) (put i.dst e s):=by
 grind [J3l]
@[simp] theorem JLe:news []=0:=rfl
@[simp ↓] theorem JL4(i):news (i::r)=J7T i.op+news r:=rfl
@[simp] theorem JLy:room 0 sto=sto:=rfl
@[simp] theorem JL1(n):room (n+1) sto=sto++List.replicate (n+1) .dead:=rfl
@[simp] theorem JLz(n):lk n []=none:=rfl
@[simp] theorem JHB(n m v)(r:List (Nat×AV)):lk n ((m,v)::r)=if n=m then some v else lk n r:=rfl
attribute [simp ↓] Jyn J1C opD Jcp J7T run_bind Jms opR
attribute [simp] put val evs evo J47 J4N
 JbS Jl3 JkS unP J8S Jww fz fz.fzL fz.fz1 fzs J9L J4z J42 sub spl J9f JsU JtJ JiA JiJ J6R Jt8 Ji8 J6H J5z Jbz JbF J2S J8O J8b mmP cellsOf unp J6N J5H
 JbU one J8V J3v JhO J5o
@[simp] theorem JL6(o:Option Out):same o o=o:=by unfold same;cases o<;>simp
@[simp ↓] theorem JZ{α:Type}(a:α)(s:St):(RM.ret a).run s=some a:=rfl
@[simp ↓] theorem JLp{α:Type}(s:St):(RM.fail:RM α).run s=none:=rfl
@[simp ↓] theorem J87{α:Type}(n:Nat)(k:AV->RM α)(s:St):(RM.slot n k).run s=(lk n s.env).bind λv=>(k v).run s:=by grind [RM.run]
@[simp ↓] theorem J1H{α:Type}(n:Nat)(k:Blk->RM α)(s:St):(RM.blk n k).run s=(s.sto[n]?).bind λv=>(k v).run s:=by grind [RM.run]
@[simp] theorem JGW:upd [] sto=sto:=rfl
@[simp] theorem JFf(b x ws):upd ((b,x)::ws) sto=upd ws (sto.set b x):=rfl
@[simp] theorem JL2:restr [] env=[]:=rfl
@[simp] theorem JBP(k l):restr (k::l) env=match lk k env with
 |some v=>(k,v)::restr l env
 |none=>restr l env:=rfl
end Go.Am
namespace Go.Am
def J8i:AV->Bool
 | .p _| .data _| .cp _ _| .unk=>true
 |_=>false
@[simp] theorem JLf(c):J8i (.p c)=true:=rfl
@[simp] theorem JKc(c):J8i (.data c)=true:=rfl
@[simp] theorem JL0(c o):J8i (.cp c o)=true:=rfl
theorem Jle: ∀{args:List AV} {l:List Ent},args.all J8i=true->J11.entsOfL args l=l
 |[],l,_=>rfl
 |x::r,l,h=>by simp only[List.all_cons,J04]at h;obtain⟨h1,h2⟩:=h;simp only[J11.entsOfL];cases x<;>simp[J8i]at h1<;>simp only[J11]<;>exact Jle h2
theorem Jqa{ρ:Ent->Option Nat}: ∀{args:List AV},args.all J8i=true->ren.renL ρ args=some args
 |[],_=>rfl
 |x::r,h=>by simp only[List.all_cons,J04]at h;have:=Jqa (ρ:=ρ) h.2;have h1:=h.1;clear h;cases x<;>simp[J8i]at h1<;>simp[ren.renL,ren,this]
theorem JFo{es:List Ent}{new:Nat}{x:AV}(h:J8i x=true):bk es new x=some x:=by cases x<;>simp[J8i]at h<;>rfl
theorem Ji4{es:List Ent}{new:Nat}: ∀{xs:List AV},xs.all J8i=true->bk.bkL es new xs=some xs
 |[],_=>rfl
 |x::r,h=>by simp only[List.all_cons,J04]at h;simp[bk.bkL,JFo h.1,Ji4 h.2]
@[simp] theorem JLC(es new c):bk es new (.p c)=some (.p c):=rfl
@[simp] theorem JLt(es new c):bk es new (.data c)=some (.data c):=rfl
@[simp] theorem JLw(es new l):bk es new (.tup l)=(bk.bkL es new l).map .tup:=by grind [bk]
@[simp] theorem JLs(es new):bk.bkL es new []=some []:=rfl
@[simp] theorem JLi(es new x l):bk.bkL es new (x::l)=(bk es new x).bind λy=>(bk.bkL es new l).map λl=>y::l:=by simp only[bk.bkL];cases bk es new x<;>simp;cases bk.bkL es new l<;>rfl
@[simp] theorem JKd(n live):J6S n live none=none:=rfl
@[simp] theorem JxT(n live e s):J6S n live (some (e,s))=(clean n live s).map λs=>(e,s):=by
 grind [J6S]
attribute [simp ↓] J07 Option.bind_none Jaa JFm JHb JEa Jyi JGs JFD JGJ JI6 JBG Jv8 JHZ JEW Jyq JG3 JAs JHB JBP JGW JFf
attribute [simp] clean Jio Jbv J6p fin fin.finL J3I J4X Jbs J11 J11.entsOfL JbB J53 JdI J4W unp
end Go.Am
end
section
namespace Go.Am
inductive Fr where
 |sq (b:J17)
 |bl (id:Nat)
 |td (n:Nat) (live:List Nat)
 |lo (n:Nat) (live:List Nat) (c:J17)
noncomputable def again(T:J4c)(n:Nat)(live:List Nat)(c:J17)(o:Option St):Option Out:=match o with
 |some s=>X T (.lp n live c) s
 |none=>none
section
variable (T:J4c) (f:AFn) (m:Nat) (k:List Fr)
theorem JIO(live c s):X T (.tidy live c) s=J6S s.sto.length live (X T c s):=by rw[Jb4];rfl
end
open Classical in
noncomputable def Jg{σ ρ:Type}(f:σ->Option (σ⊕ρ))(s:σ):Option ρ:=
 let e:Nat->σ->Option ρ:=λn=>n.rec (λ_=>none) λ_ ih s=>match f s with
  |some (.inl s')=>ih s'
  |some (.inr r)=>some r
  |none=>none
 if h: ∃n r,e n s=some r then e (Classical.choose h) s else none
def J2j{σ ρ:Type}(f:σ->Option (σ⊕ρ)):Nat->σ->Option ρ
 |0,_=>none
 |n+1,s=>match f s with
  |some (.inl s')=>J2j f n s'
  |some (.inr r)=>some r
  |none=>none
section
variable {σ ρ:Type} {f:σ->Option (σ⊕ρ)}
theorem Jnq(n:Nat): ∀s:σ,(Nat.rec (motive:=λ_=>σ->Option ρ) (λ_=>none) (λ_ ih s=>match f s with
  |some (.inl s')=>ih s'
  |some (.inr r)=>some r
  |none=>none) n) s=J2j f n s:=by
 induction n with
 |zero=>intro s;rfl
 |succ n ih=>grind [J2j]
theorem Jit: ∀{n:Nat} {s:σ} {r:ρ} (m:Nat),J2j f n s=some r->J2j f (n+m) s=some r
 |0,_,_,_,h=>by cases h
 |n+1,s,r,m,h=>by
  rw[show n+1+m=(n+m)+1 by omega];simp only[J2j]at h⊢;split at h
  ·exact Jit m h
  all_goals simp_all
theorem JEx{n m:Nat}{s:σ}{r r':ρ}(h:J2j f n s=some r)(e:J2j f m s=some r'):r=r':=by
 have a:=Jit m h;have b:=Jit n e
 grind
theorem J2J{s:σ}{r:ρ}:Jg f s=some r↔ ∃n,J2j f n s=some r:=by
 unfold Jg;dsimp only;constructor
 ·intro h;split at h
  ·exact⟨_,by rw[<-Jnq];exact h⟩
  ·cases h
 ·rintro⟨n,h⟩;have e: ∃n r,(Nat.rec (motive:=λ_=>σ->Option ρ) (λ_=>none) (λ_ ih s=>match f s with
   |some (.inl s')=>ih s'
   |some (.inr r)=>some r
   |none=>none) n) s=some r:=⟨n,r,by grind [Jnq]⟩
  rw[dif_pos e];obtain⟨r',hr⟩:=Classical.choose_spec e;rw[hr];rw[Jnq]at hr
  grind [JEx]
theorem J7e{s:σ}{r:ρ}(h:f s=some (.inr r)):Jg f s=some r:=J2J.2 ⟨1,by grind [J2j]⟩
theorem Jav{s s':σ}(h:f s=some (.inl s')):Jg f s=Jg f s':=by
 have e: ∀r,Jg f s=some r↔Jg f s'=some r:=by
  intro r;rw[J2J,J2J];constructor
  ·rintro⟨n,hn⟩;cases n<;>grind [J2j]
  ·rintro⟨n,hn⟩;exact⟨n+1,by grind [J2j]⟩
 cases hs:Jg f s with
 |some r=>grind
 |none=>cases hs':Jg f s'<;>grind
theorem JiE{P:σ->ρ->Prop}(h1: ∀s r,f s=some (.inr r)->P s r)(h2: ∀s s' r,f s=some (.inl s')->P s' r->P s r){s:σ}{r:ρ}(h:Jg f s=some r):P s r:=by
 obtain⟨n,hn⟩:=J2J.1 h;clear h
 induction n generalizing s with
 |zero=>cases hn
 |succ n ih=>
  grind [J2j]
end
end Go.Am
end
section
namespace Go.Am
section
variable {α:Type}
def idx(l:List α)(n:Int):Option α:=if 0<=n then l[n.toNat]? else none
def inb(k:Nat)(n:Int):Option Unit:=if 0<=n/\n<k then some ()else none
def JA(bytes:Nat)(l l':List α):Option (List α):=if J8O (l.length+l'.length) bytes=true then some (l++l')else none
def J1J(bytes:Nat)(l:List α):Option (List α):=if J8O l.length bytes=true then some l else none
def JJu(bytes:Nat)(l l':List α):Option (List α):=if 0<l'.length/\J8O (l.length+l'.length) bytes=true then some (l++l')else none
def mkS(bytes:Nat)(n m:Int)(z:α):Option (List α):=if 0<=n/\n<=m/\bytes*m<=281474976710656/\m<=281474976710656 then some (List.replicate n.toNat z)else none
def Jgi(x:Option Int)(top e:Nat):Option Nat:=match x with
 |none=>some e
 |some n=>if 0<=n/\n<=top then some n.toNat else none
def JeM(n:Nat)(lo hi:Option Int):Option (Nat×Nat):=match Jgi hi n n with
 |none=>none
 |some h=>match Jgi lo h 0 with
  |none=>none
  |some l=>some (l,h)
def J0s(l:List α)(lo hi:Option Int):Option (List α):=match JeM l.length lo hi with
 |some c=>some ((l.drop c.1).take (c.2-c.1))
 |none=>none
def JIo(k:IntKind)(x y:Int):Option Int:=if y=0 then none else some (k.wrap (x.tdiv y))
def Jgn(x y:Int):Option Int:=if y=0 then none else some (x.tmod y)
def JgL(k:IntKind)(x y:Int):Option Int:=if y<0 then none else some (k.wrap (x*2^(min y.toNat k.bits)))
def Jg8(k:IntKind)(x y:Int):Option Int:=if y<0 then none else some (x.fdiv (2^(min y.toNat k.bits)))
def JtL(k:IntKind)(x y:Int):Int:=k.wrap (BitVec.ofInt k.bits x&&&BitVec.ofInt k.bits y).toNat
def orI(k:IntKind)(x y:Int):Int:=k.wrap (BitVec.ofInt k.bits x|||BitVec.ofInt k.bits y).toNat
def JeP(k:IntKind)(x y:Int):Int:=k.wrap (BitVec.ofInt k.bits x^^^BitVec.ofInt k.bits y).toNat
def JEe(k:IntKind)(n:Int):Int:=k.wrap (BitVec.ofInt k.bits (if k.signed then -1 else k.max)^^^BitVec.ofInt k.bits n).toNat
def J5B(a b:List UInt8):Option (List UInt8):=if a.length+b.length<=4611686018427387904 then some (a++b)else none
def JeT(l:List UInt8)(n:Int):Option Int:=if 0<=n then(match l[n.toNat]? with|some u=>some (u.toNat:Int)|none=>none)else none
def JGj{k:Nat}(v:Vector α k)(n:Int):Option α:=if 0<=n/\n<k then v[n.toNat]? else none
def toStr(l:List Int):List UInt8:=l.map λn=>UInt8.ofNat n.toNat
def toByt(l:List UInt8):List Int:=l.map λu=>(u.toNat:Int)
def JaR(x y:Int):Int:=if y<x then y else x
def J1m(x y:Int):Int:=if y>x then y else x
end
@[reducible] def cat(a b:List PV):List PV:=a++b
def r_i(k:IntKind)(n:Int):List PV:=[.i k n]
def r_b(x:Bool):List PV:=[.b x]
def r_s(l:List UInt8):List PV:=[.s l]
def JLm{α:Type}(esz:Nat)(r:α->List PV)(l:List α):List PV:=[.sl esz (l.map r)]
def JcF{α:Type}{n:Nat}(r:α->List PV)(v:Vector α n):List PV:=(v.toList.map r).flatten
section
variable {α:Type}
theorem JaV(cs:List α)(off size:Nat):sub cs off size=if off+size<=cs.length then some ((cs.drop off).take size)else none:=by
 grind [sub]
theorem Jcx(cs:List α)(off:Nat)(vs:List α):spl cs off vs=if off+vs.length<=cs.length then some (cs.take off++vs++cs.drop (off+vs.length))else none:=by simp_all
theorem Jph{cs:List α}{n:Nat}(h:cs.length=n):sub cs 0 n=some cs:=by simp_all
theorem Jzm{cs vs:List α}(h:cs.length=vs.length):spl cs 0 vs=some vs:=by simp_all
theorem JDZ{a b c:List α}{off size:Nat}(h1:a.length=off)(h2:b.length=size):sub (a++(b++c)) off size=some b:=by
 grind [JaV]
theorem JC6{b c:List α}{size:Nat}(h2:b.length=size):sub (b++c) 0 size=some b:=JDZ (a:=[]) rfl h2
theorem JCS{a b c v:List α}{off:Nat}(h1:a.length=off)(h2:b.length=v.length):spl (a++(b++c)) off v=some (a++(v++c)):=by
 grind [Jcx]
theorem JCn{b c v:List α}(h2:b.length=v.length):spl (b++c) 0 v=some (v++c):=JCS (a:=[]) rfl h2
theorem Jz2{cs e r:List α}{a m k n:Nat}(h1:sub cs a m=some e)(h2:sub e k n=some r):sub cs (a+k) n=some r:=by
 grind [JaV,List.drop_take,List.drop_drop]
theorem JzE{cs g e v cs':List α}{a m k:Nat}(h1:sub cs a m=some g)(h2:spl g k v=some e)(h3:spl cs a e=some cs'):spl cs (a+k) v=some cs':=by
 rw[JaV]at h1;rw[Jcx]at h2 h3⊢;split at h1
 ·rename_i h4;injection h1 with h1;subst h1;split at h2
  ·rename_i h5;injection h2 with h2;subst h2;simp at h5;split at h3
   ·injection h3 with h3;subst h3;rw[if_pos (by omega)]
    congr 1
    simp only[J57,Jgo,JkW,List.take_take,List.drop_take,Jo7,J8U];have e1:cs.take (a+k)=cs.take a++(cs.drop a).take k:=List.take_add ..;rw[e1,J8U];rw[show min k m=k by omega]
    congr 3
    have e2:cs.drop (a+k+v.length)=(cs.drop (a+(k+v.length))).take (m-(k+v.length))++cs.drop (a+m):=by
     have:=JBM (m-(k+v.length)) (cs.drop (a+(k+v.length)));rw[Jo7]at this;rw[show a+(k+v.length)+(m-(k+v.length))=a+m by omega]at this
     grind
    rw[e2]
    congr 2
    omega
   ·cases h3
  ·cases h2
 ·cases h1
theorem Jb1{β:Type}(g:α->β)(cs:List α)(off size:Nat):sub (cs.map g) off size=(sub cs off size).map (List.map g):=by
 grind [JaV,List.map_drop,List.map_take]
theorem Jb8{β:Type}(g:α->β)(cs:List α)(off:Nat)(vs:List α):spl (cs.map g) off (vs.map g)=(spl cs off vs).map (List.map g):=by
 grind [Jcx,List.map_drop,List.map_take]
theorem JhF{n k w:Nat}{r:α->List PV}(hr: ∀x,(r x).length=w){v:Vector α n}{x:α}(h:v[k]?=some x):sub (JcF r v) (k*w) w=some (r x):=by
 have g: ∀(l:List α) (k:Nat) (x:α),l[k]?=some x->sub ((l.map r).flatten) (k*w) w=some (r x):=by
  intro l
  induction l with
  |nil=>simp_all
  |cons y l ih=>
   intro k x h;cases k with
   |zero=>
    grind [JC6]
   |succ k=>
    simp at h;have:=ih k x h;rw[J1q,JeB];rw[JaV]at this⊢;split at this
    ·injection this with this;have e:(k+1)*w=w+k*w:=by grind
     rw[e,if_pos (by grind)];have e2:w+k*w=(r y).length+k*w:=by rw[hr]
     rw[e2,List.drop_length_add_append,this]
    ·cases this
 exact g _ _ _ (by simp_all)
theorem JDl{n k w:Nat}{r:α->List PV}(hr: ∀x,(r x).length=w){v:Vector α n}(h:k<n)(y:α):spl (JcF r v) (k*w) (r y)=some (JcF r (v.setIfInBounds k y)):=by
 have g: ∀(l:List α) (k:Nat),k<l.length->spl ((l.map r).flatten) (k*w) (r y)=some (((l.set k y).map r).flatten):=by
  intro l
  induction l with
  |nil=>simp_all
  |cons z l ih=>
   intro k h;cases k with
   |zero=>
    grind [JCn]
   |succ k=>
    simp at h;have:=ih k h;rw[J1q,JeB];rw[Jcx]at this⊢;split at this
    ·rename_i j;injection this with this;have e:(k+1)*w=(r z).length+k*w:=by grind
     rw[e,if_pos (by grind)];simp only[List.set_cons_succ,J1q,JeB];rw[<-this];rw[show(r z).length+k*w+(r y).length=(r z).length+(k*w+(r y).length) by omega];simp[List.take_length_add_append]
    ·cases this
 grind [JcF]
theorem JJt{n w:Nat}{r:α->List PV}(hr: ∀x,(r x).length=w)(v:Vector α n):(JcF r v).length=n*w:=by
 have e: ∀l:List α,((l.map r).flatten).length=l.length*w:=by
  intro l
  induction l with
  |nil=>simp
  |cons x l ih=>grind
 grind [JcF]
end
theorem Jdf: ∀l:List PV,unp (l.map AV.p)=some l
 |[]=>rfl
 |x::l=>by simp[unp,Jdf l]
theorem JjI(l:List PV):J47 true (l.map AV.p)=some (.data l):=by simp[Jdf]
theorem J8z: ∀l:List PV,(l.map AV.p).all J8i=true
 |[]=>rfl
 |x::l=>by simp
theorem JpN(m:Nat)(ids:List Nat)(sto:List Blk): ∀l:List PV,fin.finL m ids sto (l.map AV.p)=some (l.map AV.p)
 |[]=>rfl
 |x::l=>by simp[fin.finL,fin,JpN m ids sto l]
theorem JpT(l:List PV)(acc:List Ent):J11.entsOfL (l.map AV.p) acc=acc:=Jle (J8z l)
theorem JCP{α:Type}{r:α->List PV}{l:List α}{n:Int}{x:α}(h:idx l n=some x):Jt8 (l.map r) n=some (r x):=by simp_all [idx]
theorem JA1{k:Nat}{n:Int}{u:Unit}(h:inb k n=some u):0<=n/\n<k:=by
 grind [inb]
theorem JEc{α:Type}{k:Nat}{v:Vector α k}{n:Int}{x:α}(h:JGj v n=some x):(0<=n/\n<k)/\v[n.toNat]?=some x:=by
 grind [JGj]
theorem JHJ{α:Type}{r:α->List PV}{esz bytes b:Nat}{w:Bool}{l l' l2:List α}{y:AV}{s:St}(h:JA bytes l l2=some l')(hb:s.sto[b]?=some (.arr w esz (l.map r)))(hy:(J2S esz y).run s=some (l2.map r)):
  (J8b esz bytes (.slr b 0 l.length) y).run s=some ⟨.slr b 0 l'.length,[(b,.arr w esz (l'.map r))]⟩:=by
 grind [JA,J8b,J1H,run_bind,JZ]
theorem Jg9: ∀l:List Int,J8F (l.map (r_i .u8))=some (toStr l)
 |[]=>rfl
 |x::l=>by simp[J8F,r_i,Jg9 l,toStr]
theorem Jl2(l:List UInt8):l.map J5o=(toByt l).map (r_i .u8):=by simp[toByt,r_i]
theorem JE8{α:Type}{bytes:Nat}{l l':List α}(h:J1J bytes l=some l'):J8O l.length bytes=true/\l'=l:=by
 grind [J1J]
theorem JHT{α:Type}{bytes:Nat}{n m:Int}{z:α}{l:List α}(h:mkS bytes n m z=some l):(0<=n/\n<=m/\bytes*m<=281474976710656/\m<=281474976710656)/\l=List.replicate n.toNat z:=by
 grind [mkS]
end Go.Am
end
section
set_option linter.unusedSimpArgs false
set_option linter.unusedVariables false
namespace Go.Am
open Go.RowKit
theorem JGf{σ:List Blk}{g:Gh}{w w':World}(hi:Inv ⟨σ,g,w⟩)(hb:Below w.heap.size w w'):
  Inv ⟨σ,g,w'⟩/\J0l ⟨σ,g,w⟩ ⟨σ,g,w'⟩:=by
 have hk: ∀(r:Nat) x,w.heap[r]?=some x->w'.heap[r]?=some x:=λr x h=>by rw[hb.block r (Jbu h)];exact h
 have hc: ∀r o v,J0L w r o=some v->J0L w' r o=some v:=by
  grind [J0L]
 have t:J0l ⟨σ,g,w⟩ ⟨σ,g,w'⟩:=by
  refine⟨⟨hb.size,λr c e fz h=>⟨c,hk r _ h,rfl,λ_ _=>rfl⟩,λr x h _=>hk r x h,hb.os,hb.output⟩,λ_ _ h=>h,λ_ _ h=>.inl h,λr o ⟨b,hb⟩=>.inl ⟨b,hb⟩,zQ0 _,λ_ cs h=>⟨⟨cs,h,rfl⟩,rfl⟩,
   λ_ wm _ rows h=>⟨wm,rows,h,id,zQ0 _,λ_=>rfl⟩⟩
 exact⟨J8c hi t (λ_=>False) (λ_ _=>⟨rfl,rfl⟩) (λ_ r o v _ _ h=>hc r o v h) (λ_ _ h=>h.elim) (λ_ _ _ _ h=>h.elim)
  (λ_ _ _ _ h=>h.elim) (λr o h=>Nat.lt_of_lt_of_le (hi.const r o h).1 hb.size) (λ_ _ _ _ h=>h.elim) (λ_ _ _ h j=>(j h).elim),t⟩
theorem JI4{T:J4c}{f:FuncId}{g:List AV->List Blk->Option Res}(h:T f=some (.prim g))(args blks):AF T f args blks=g args blks:=by simp_all [AF,Jar]
def JIV(a:Option AFn)(k:Option J9N)(g q:Option (List AV->List Blk->Option Res)):Option Entry:=
 match a with
 |some a=>some (.fn a)
 |none=>match k with
  |some k=>some (.fork k)
  |none=>match g with
   |some g=>some (.prim g)
   |none=>q.map .prim
theorem Jgp{a:Option AFn}{k:Option J9N}{g q:Option (List AV->List Blk->Option Res)}{e:Entry}(h:JIV a k g q=some e):
  (∃x,a=some x/\e=.fn x)\/(∃x,k=some x/\e=.fork x)\/(∃x,g=some x/\e=.prim x)\/(∃x,q=some x/\e=.prim x):=by
 cases a with
 |some a=>exact .inl ⟨a,rfl,by injection h with h;exact h.symm⟩
 |none=>
  cases k with
  |some k=>exact .inr (.inl ⟨k,rfl,by injection h with h;exact h.symm⟩)
  |none=>
   cases g with
   |some g=>exact .inr (.inr (.inl ⟨g,rfl,by injection h with h;exact h.symm⟩))
   |none=>
    cases q with
    |some q=>exact .inr (.inr (.inr ⟨q,rfl,by injection h with h;exact h.symm⟩))
    |none=>cases h
def J9c(n:Int)(i:Nat):Int:=IntKind.wrap .u8 ((IntKind.wrap .u64 n).fdiv (2^(8*i)))
def J0Y(n:Int)(k:Nat):List UInt8:=toStr ((List.range k).map (J9c n))
theorem JHS(x:Int):0<=IntKind.wrap .u8 x/\IntKind.wrap .u8 x<256:=by have h:IntKind.wrap .u8 x=x%256:=rfl;rw[h];omega
theorem JC1(n:Int)(i:Nat):((UInt8.ofNat (J9c n i).toNat).toNat:Int)=J9c n i:=by
 have h:0<=J9c n i/\J9c n i<256:=JHS _
 grind [UInt8.toNat_ofNat_of_lt']
theorem JDH(n:Int)(k:Nat):J0Y n (k+1)=J0Y n k++[UInt8.ofNat (J9c n k).toNat]:=by simp[J0Y,toStr,List.range_succ]
theorem JS(n:Int)(k:Nat):(J0Y n k).length=k:=by simp[J0Y,toStr]
theorem JKW(x y:Bool):J1K [.b] [.b x] [.b y]=some (decide (x=y)):=by
 grind [J1K,JiF]
theorem JKO(k:IntKind)(x y:Int):J1K [.i k] [.i k x] [.i k y]=some (decide (x=y)):=by
 grind [J1K,JiF]
theorem JKM(x y:List UInt8):J1K [.s] [.s x] [.s y]=some (decide (x=y)):=by
 grind [J1K,JiF]
theorem Jz4{p q:Prop} [Decidable p] [Decidable q]: ∀{k1 k2:List KD} {a1 a2 b1 b2:List PV},J1K k1 a1 b1=some (decide p)->J1K k2 a2 b2=some (decide q)->J1K (k1++k2) (cat a1 a2) (cat b1 b2)=some (decide (p/\q)):=by
 have e: ∀(k1 k2:List KD) (a1 a2 b1 b2:List PV) (r s:Bool),J1K k1 a1 b1=some r->J1K k2 a2 b2=some s->J1K (k1++k2) (a1++a2) (b1++b2)=some (r&&s):=by
  intro k1
  induction k1 with
  |nil=>
   grind [J1K]
  |cons k ks ih=>
   intro k2 a1 a2 b1 b2 r s h1 h2;cases a1 with
   |nil=>grind [J1K]
   |cons a a1=>
    cases b1 with
    |nil=>grind [J1K]
    |cons b b1=>
     simp only[J1K]at h1;split at h1
     ·rename_i u c hu hc;injection h1 with h1;subst h1;simp only[JoD,J1K,hu,ih _ _ _ _ _ _ _ hc h2,Bool.and_assoc]
     ·cases h1
 intro k1 k2 a1 a2 b1 b2 h1 h2;rw[e _ _ _ _ _ _ _ _ h1 h2,Bool.decide_and]
theorem JJF{α:Type} [DecidableEq α]{n:Nat}{ks:List KD}{r:α->List PV}(h: ∀x y,J1K ks (r x) (r y)=some (decide (x=y)))(v w:Vector α n):
  J1K (List.replicate n ks).flatten (JcF r v) (JcF r w)=some (decide (v=w)):=by
 have e: ∀(l l':List α),l.length=l'.length->J1K (List.replicate l.length ks).flatten (l.map r).flatten (l'.map r).flatten=some (decide (l=l')):=by
  intro l
  induction l with
  |nil=>grind [J1K]
  |cons a l ih=>
   intro l' h1;cases l' with
   |nil=>simp at h1
   |cons b l'=>
    have h2:=Jz4 (h a b) (ih l' (by simpa using h1))
    grind [decide]
 have h3:=e v.toList w.toList (by simp);rw[show v.toList.length=n by simp]at h3;rw[show decide (v=w)=decide (v.toList=w.toList) by simp[Vector.toList_inj]]
 exact h3
end Go.Am
end
section
namespace Go.Am
def J1(k:IntKind)(a c:Int):Int:=k.wrap (a+c)
def JH(k:IntKind)(a c:Int):Int:=k.wrap (a-c)
def J2u(k:IntKind)(a c:Int):Int:=k.wrap (a*c)
def JLn(k:IntKind)(n:Int):Int:=k.wrap (0-n)
def cvI(k:IntKind)(n:Int):Int:=k.wrap n
def eqI(a c:Int):Bool:=decide (a=c)
def neI(a c:Int):Bool:= !decide (a=c)
def ltI(a c:Int):Bool:=decide (a<c)
def leI(a c:Int):Bool:=decide (a<=c)
def gtI(a c:Int):Bool:=decide (a>c)
def geI(a c:Int):Bool:=decide (a>=c)
def eqS(a c:List UInt8):Bool:=decide (a=c)
def neS(a c:List UInt8):Bool:= !decide (a=c)
def ltS(a c:List UInt8):Bool:=Op.bytesLess a c
def leS(a c:List UInt8):Bool:=Op.bytesLess a c||decide (a=c)
def gtS(a c:List UInt8):Bool:= !(Op.bytesLess a c||decide (a=c))
def geS(a c:List UInt8):Bool:= !Op.bytesLess a c
def eqB(a c:Bool):Bool:=decide (a=c)
def Jr(x:Bool):Bool:= !x
def J0{α:Type}(l:List α):Int:=l.length
def JL9{α:Type}(c:Bool)(x y:α):α:=if c=true then x else y
def lat{α:Type}(l:List α)(i:Nat):Option α:=l[i]?
def J0B{α:Type}(l:List α)(i:Nat)(x:α):List α:=l.set i x
def vat{α:Type}{n:Nat}(l:Vector α n)(i:Nat):Option α:=l[i]?
def JgI{α:Type}{n:Nat}(l:Vector α n)(i:Nat)(x:α):Vector α n:=l.setIfInBounds i x
inductive Ty where
 |b
 |i (k:IntKind)
 |s
 |l (t:Ty)
 |pr (a c:Ty)
 |ar (n:Nat) (t:Ty)
 |u
 |f
 deriving DecidableEq
@[reducible] def Ty.D:Ty->Type
 | .b=>Bool
 | .i _=>Int
 | .s=>List UInt8
 | .l t=>List t.D
 | .pr a c=>a.D×c.D
 | .ar n t=>Vector t.D n
 | .u=>Unit
 | .f=>Unit
def Ty.sz:Ty->Nat
 | .b=>1
 | .i _=>1
 | .s=>1
 | .l _=>1
 | .pr a c=>a.sz+c.sz
 | .ar n t=>n*t.sz
 | .u=>0
 | .f=>1
def cel:(t:Ty)->t.D->List PV
 | .b,x=>[.b x]
 | .i k,x=>[.i k x]
 | .s,x=>[.s x]
 | .l t,x=>[.sl t.sz (x.map (cel t))]
 | .pr a c,x=>cel a x.1++cel c x.2
 | .ar _ t,x=>JcF (cel t) x
 | .u,_=>[]
 | .f,_=>[.nf]
theorem J22: ∀(t:Ty) (x:t.D),(cel t x).length=t.sz
 | .b,_=>rfl
 | .i _,_=>rfl
 | .s,_=>rfl
 | .l _,_=>rfl
 | .pr a c,x=>by simp only[cel,J57,J22 a,J22 c,Ty.sz]
 | .ar n t,x=>by simp only[cel,Ty.sz];exact JJt (J22 t) x
 | .u,_=>rfl
 | .f,_=>rfl
def Ty.eqd:(t:Ty)->DecidableEq t.D
 | .b=>inferInstanceAs (DecidableEq Bool)
 | .i _=>inferInstanceAs (DecidableEq Int)
 | .s=>inferInstanceAs (DecidableEq (List UInt8))
 | .l t=>have:=t.eqd;inferInstanceAs (DecidableEq (List t.D))
 | .pr a c=>have:=a.eqd;have:=c.eqd;inferInstanceAs (DecidableEq (a.D×c.D))
 | .ar n t=>have:=t.eqd;inferInstanceAs (DecidableEq (Vector t.D n))
 | .u=>inferInstanceAs (DecidableEq Unit)
 | .f=>inferInstanceAs (DecidableEq Unit)
def eqT(t:Ty)(x y:t.D):Bool:=have:=t.eqd;decide (x=y)
theorem J1I{t:Ty}{x y:t.D}:eqT t x y=true↔x=y:=by simp[eqT]
def Ty.zero:(t:Ty)->t.D
 | .b=>false
 | .i _=>(0:Int)
 | .s=>[]
 | .l _=>[]
 | .pr a c=>(a.zero,c.zero)
 | .ar n t=>Vector.replicate n t.zero
 | .u=>()
 | .f=>()
def Ty.ks:Ty->Option (List KD)
 | .b=>some [.b]
 | .i k=>some [.i k]
 | .s=>some [.s]
 | .l _=>none
 | .pr a c=>match a.ks,c.ks with
  |some x,some y=>some (x++y)
  |_,_=>none
 | .ar n t=>match t.ks with
  |some x=>some (List.replicate n x).flatten
  |none=>none
 | .u=>some []
 | .f=>none
theorem Jjh: ∀(t:Ty) {ks:List KD} (x y:t.D),t.ks=some ks->J1K ks (cel t x) (cel t y)=some (eqT t x y)
 | .b,ks,x,y,h=>by injection h with h;subst h;exact JKW x y
 | .i k,ks,x,y,h=>by injection h with h;subst h;exact JKO k x y
 | .s,ks,x,y,h=>by injection h with h;subst h;exact JKM x y
 | .l _,_,_,_,h=>by cases h
 | .pr a c,ks,x,y,h=>by
  simp only[Ty.ks]at h;split at h
  ·rename_i p q hp hq;injection h with h;subst h;have h1:=Jjh a x.1 y.1 hp;have h2:=Jjh c x.2 y.2 hq;unfold eqT at h1 h2;have e1:(have:=a.eqd;decide (x.1=y.1))= @decide _ (a.eqd x.1 y.1):=rfl;have:= @Jz4 _ _ (a.eqd x.1 y.1) (c.eqd x.2 y.2) _ _ _ _ _ _ h1 h2;simp only[cel];refine this.trans (congrArg some ?_)
   grind [eqT]
  ·cases h
 | .ar n t,ks,x,y,h=>by
  simp only[Ty.ks]at h;split at h
  ·rename_i p hp;injection h with h;subst h;have:= @JJF t.D t.eqd n p (cel t) (λx y=>by have:=Jjh t x y hp;exact this) x y
   grind [cel,eqT]
  ·cases h
 | .u,ks,x,y,h=>by injection h with h;subst h;rfl
 | .f,_,_,_,h=>by cases h
inductive Sp where
 |f (off:Nat)
 |a (i esz:Nat)
 deriving DecidableEq
def spo:List Sp->Nat
 |[]=>0
 | .f o::r=>o+spo r
 | .a i e::r=>i*e+spo r
def spf:Nat->List Sp->Nat×List Sp
 |o,.f k::r=>spf (o+k) r
 |o,r=>(o,r)
theorem Jtj: ∀(o:Nat) (p:List Sp),(spf o p).1+spo (spf o p).2=o+spo p
 |o,[]=>rfl
 |o,.f k::r=>by simp only[spf,Jtj,spo];omega
 |o,.a i e::r=>rfl
section
variable {R:Type}
def prt:(t:Ty)->t.D->(off:Nat)->List Sp->(w:Ty)->(w.D->Option R)->Option R
 |t,x,off,p,w,k=>
  if h:t=w/\off=0/\p=[]then k (h.1▸x)
  else match t,x with
   | .pr a c,x=>if off+(if p=[]then w.sz else 1)<=a.sz then prt a x.1 off p w k
    else if a.sz<=off then prt c x.2 (off-a.sz) p w k
    else none
   | .ar _ t,x=>if p=[]then(vat x (off/t.sz)).bind λy=>prt t y (off%t.sz) p w k
    else match off,p with
     |0,.a i e::r=>if e=t.sz then(vat x i).bind λy=>prt t y (spf 0 r).1 (spf 0 r).2 w k else none
     |_,_=>none
   |_,_=>none
def pst:(t:Ty)->t.D->(off:Nat)->List Sp->(w:Ty)->w.D->(t.D->Option R)->Option R
 |t,x,off,p,w,v,k=>
  if h:t=w/\off=0/\p=[]then k (h.1.symm▸v)
  else match t,x,k with
   | .pr a c,x,k=>if off+(if p=[]then w.sz else 1)<=a.sz then pst a x.1 off p w v λy=>k (y,x.2)
    else if a.sz<=off then pst c x.2 (off-a.sz) p w v λy=>k (x.1,y)
    else none
   | .ar _ t,x,k=>if p=[]then(vat x (off/t.sz)).bind λy=>pst t y (off%t.sz) p w v λy=>k (JgI x (off/t.sz) y)
    else match off,p with
     |0,.a i e::r=>if e=t.sz then(vat x i).bind λy=>pst t y (spf 0 r).1 (spf 0 r).2 w v λy=>k (JgI x i y)else none
     |_,_=>none
   |_,_,_=>none
end
theorem JFv{α:Type}{a b v:List α}{off n:Nat}(h:sub a off n=some v):sub (a++b) off n=some v:=by
 grind [JaV]
theorem JDQ{α:Type}{a b v:List α}{off n:Nat}(e:a.length<=off)(h:sub b (off-a.length) n=some v):sub (a++b) off n=some v:=by
 grind [JaV,List.drop_append,List.drop_of_length_le]
theorem JGl{α:Type}{a b v e:List α}{off:Nat}(h:spl a off v=some e):spl (a++b) off v=some (e++b):=by
 grind [Jcx]
theorem JD0{α:Type}{a b v e:List α}{off:Nat}(g:a.length<=off)(h:spl b (off-a.length) v=some e):spl (a++b) off v=some (a++e):=by
 rw[Jcx]at h⊢;split at h
 ·injection h with h;rw[if_pos (by simp;omega),<-h,List.take_append,List.take_of_length_le g,List.drop_append,List.drop_of_length_le (by omega)];simp;omega
 ·cases h
theorem JA3{α:Type}{n i:Nat}{x:Vector α n}{y:α}(h:x[i]?=some y):i<n:=by
 grind
theorem J9T{R:Type}{t w:Ty}{x:t.D}{off:Nat}{p:List Sp}{k:w.D->Option R}{r:R}(e:t=w/\off=0/\p=[])(h:k (e.1▸x)=some r):
  ∃y,sub (cel t x) (off+spo p) w.sz=some (cel w y)/\k y=some r:=by
 obtain⟨rfl,rfl,rfl⟩:=e
 grind [spo,Jph,J22]
theorem J9S{R:Type}{t w:Ty}{x:t.D}{off:Nat}{p:List Sp}{v:w.D}{k:t.D->Option R}{r:R}(e:t=w/\off=0/\p=[])(h:k (e.1.symm▸v)=some r):
  ∃y,spl (cel t x) (off+spo p) (cel w v)=some (cel t y)/\k y=some r:=by
 obtain⟨rfl,rfl,rfl⟩:=e
 grind [spo,Jzm,J22]
theorem J9U{R:Type}: ∀{t:Ty} {x:t.D} {off:Nat} {p:List Sp} {w:Ty} {k:w.D->Option R} {r:R},prt t x off p w k=some r->
  ∃y,sub (cel t x) (off+spo p) w.sz=some (cel w y)/\k y=some r
 | .pr a c,x,off,p,w,k,r,h=>by
  unfold prt at h;by_cases g:Ty.pr a c=w/\off=0/\p=[]
  ·rw[dif_pos g]at h;exact J9T g h
  ·rw[dif_neg g]at h;dsimp only at h;by_cases h1:off+(if p=[]then w.sz else 1)<=a.sz
   ·rw[if_pos h1]at h;obtain⟨y,q1,q2⟩:=J9U h;exact⟨y,JFv q1,q2⟩
   ·rw[if_neg h1]at h;by_cases h2:a.sz<=off
    ·rw[if_pos h2]at h;obtain⟨y,q1,q2⟩:=J9U h;refine⟨y,JDQ (by grind [J22]) ?_,q2⟩
     grind [J22]
    simp_all
 | .ar n t,x,off,p,w,k,r,h=>by
  unfold prt at h;by_cases g:Ty.ar n t=w/\off=0/\p=[]
  ·rw[dif_pos g]at h;exact J9T g h
  ·rw[dif_neg g]at h;dsimp only at h;by_cases hp:p=[]
   ·rw[if_pos hp]at h;obtain⟨z,hz,h⟩:=J2K.1 h;obtain⟨y,h1,h2⟩:=J9U h;refine⟨y,?_,h2⟩;have:=Jz2 (JhF (J22 t) hz) h1
    grind [cel,Nat.div_add_mod]
   ·rw[if_neg hp]at h;split at h
    ·rename_i _ i e q _;split at h
     ·rename_i he;obtain⟨z,hz,h⟩:=J2K.1 h;obtain⟨y,h1,h2⟩:=J9U h;refine⟨y,?_,h2⟩;have:=Jz2 (JhF (J22 t) hz) h1
      grind [cel,Jtj,spo]
     ·cases h
    ·cases h
 | .b,x,off,p,w,k,r,h=>by
  unfold prt at h;split at h
  next g=>exact J9T g h
  next=>cases h
 | .i _,x,off,p,w,k,r,h=>by
  unfold prt at h;split at h
  next g=>exact J9T g h
  next=>cases h
 | .s,x,off,p,w,k,r,h=>by
  unfold prt at h;split at h
  next g=>exact J9T g h
  next=>cases h
 | .l _,x,off,p,w,k,r,h=>by
  unfold prt at h;split at h
  next g=>exact J9T g h
  next=>cases h
 | .u,x,off,p,w,k,r,h=>by
  unfold prt at h;split at h
  next g=>exact J9T g h
  next=>cases h
 | .f,x,off,p,w,k,r,h=>by
  unfold prt at h;split at h
  next g=>exact J9T g h
  next=>cases h
theorem Jbg{R:Type}: ∀{t:Ty} {x:t.D} {off:Nat} {p:List Sp} {w:Ty} {v:w.D} {k:t.D->Option R} {r:R},pst t x off p w v k=some r->
  ∃y,spl (cel t x) (off+spo p) (cel w v)=some (cel t y)/\k y=some r
 | .pr a c,x,off,p,w,v,k,r,h=>by
  unfold pst at h;by_cases g:Ty.pr a c=w/\off=0/\p=[]
  ·rw[dif_pos g]at h;exact J9S g h
  ·rw[dif_neg g]at h;dsimp only at h;by_cases h1:off+(if p=[]then w.sz else 1)<=a.sz
   ·rw[if_pos h1]at h;obtain⟨y,q1,q2⟩:=Jbg h;exact⟨(y,x.2),JGl q1,q2⟩
   ·rw[if_neg h1]at h;by_cases h2:a.sz<=off
    ·rw[if_pos h2]at h;obtain⟨y,q1,q2⟩:=Jbg h;refine⟨(x.1,y),JD0 (by grind [J22]) ?_,q2⟩
     grind [J22]
    simp_all
 | .ar n t,x,off,p,w,v,k,r,h=>by
  unfold pst at h;by_cases g:Ty.ar n t=w/\off=0/\p=[]
  ·rw[dif_pos g]at h;exact J9S g h
  ·rw[dif_neg g]at h;dsimp only at h;by_cases hp:p=[]
   ·rw[if_pos hp]at h;obtain⟨z,hz,h⟩:=J2K.1 h;obtain⟨y,h1,h2⟩:=Jbg h;refine⟨_,?_,h2⟩;have:=JzE (JhF (J22 t) hz) h1 (JDl (J22 t) (JA3 hz) y);subst hp;simp only[spo,JhT]at this⊢;rw[Nat.mul_comm,Nat.div_add_mod]at this;exact this
   ·rw[if_neg hp]at h;split at h
    ·rename_i _ i e q _;split at h
     ·rename_i he;obtain⟨z,hz,h⟩:=J2K.1 h;obtain⟨y,h1,h2⟩:=Jbg h;refine⟨_,?_,h2⟩;have:=JzE (JhF (J22 t) hz) h1 (JDl (J22 t) (JA3 hz) y);have e1:=Jtj 0 q;simp only[spo,he];rw[show i*t.sz+((spf 0 q).1+spo (spf 0 q).2)=0+(i*t.sz+spo q) by omega]at this;exact this
     ·cases h
    ·cases h
 | .b,x,off,p,w,v,k,r,h=>by
  unfold pst at h;split at h
  next g=>exact J9S g h
  next=>cases h
 | .i _,x,off,p,w,v,k,r,h=>by
  unfold pst at h;split at h
  next g=>exact J9S g h
  next=>cases h
 | .s,x,off,p,w,v,k,r,h=>by
  unfold pst at h;split at h
  next g=>exact J9S g h
  next=>cases h
 | .l _,x,off,p,w,v,k,r,h=>by
  unfold pst at h;split at h
  next g=>exact J9S g h
  next=>cases h
 | .u,x,off,p,w,v,k,r,h=>by
  unfold pst at h;split at h
  next g=>exact J9S g h
  next=>cases h
 | .f,x,off,p,w,v,k,r,h=>by
  unfold pst at h;split at h
  next g=>exact J9S g h
  next=>cases h
end Go.Am
end
section
namespace Go.Am
inductive TC where
 |d (t:Ty) (x:t.D)
 |sc (t:Ty) (rows:List t.D)
 |np
 |nf
 |un
 |ptr (b:Nat) (p:List Sp)
 |cp (t:Ty) (x:t.D) (p:List Sp)
 |slr (b:Nat)
 |slo (b n:Nat)
 |ep (b i:Nat) (p:List Sp)
 |epo (b e i:Nat) (p:List Sp)
 |fn (f:FuncId)
inductive TA where
 |c (x:TC)
 |dt (t:Ty) (x:t.D)
 |m (t:Ty) (cs:List TC)
 |fn (f:FuncId) (first caps:List TC)
inductive TV where
 |a (x:TA)
 |tup (vs:List TA)
inductive TB where
 |dead
 |box (t:Ty) (x:t.D)
 |mbox (t:Ty) (cs:List TC)
 |arr (w:Bool) (t:Ty) (rows:List t.D)
structure TSt where
 env:List (Nat×TV)
 sto:List TB
def hdP:List PV->PV
 |[c]=>c
 |_=>.np
def lnB:TB->Nat
 | .arr _ _ rows=>rows.length
 |_=>0
def lnO:Option TB->Nat
 |some x=>lnB x
 |none=>0
def lns(sto:List TB)(b:Nat):Nat:=lnO sto[b]?
section
variable (L:Nat->Nat)
def J0u:TC->AV
 | .d t x=>.p (hdP (cel t x))
 | .sc t rows=>.p (.slc t.sz (rows.map (cel t)))
 | .np=>.p .np
 | .nf=>.p .nf
 | .un=>.unk
 | .ptr b p=>.ptr b (spo p)
 | .cp t x p=>.cp (cel t x) (spo p)
 | .slr b=>.slr b 0 (L b)
 | .slo b n=>.slr b 0 n
 | .ep b i p=>.ep b (L b) i (spo p)
 | .epo b e i p=>.ep b e i (spo p)
 | .fn f=>.fn f [] []
def J1t:TA->AV
 | .c x=>J0u L x
 | .dt t x=>.data (cel t x)
 | .m _ cs=>.agg (cs.map (J0u L))
 | .fn f a c=>.fn f (a.map (J0u L)) (c.map (J0u L))
def J05:TV->AV
 | .a x=>J1t L x
 | .tup vs=>.tup (vs.map (J1t L))
def J0E:TB->Blk
 | .dead=>.dead
 | .box t x=>.box ((cel t x).map .p)
 | .mbox _ cs=>.box (cs.map (J0u L))
 | .arr w t rows=>.arr w t.sz (rows.map (cel t))
end
def J5R(L:Nat->Nat)(env:List (Nat×TV)):List (Nat×AV):=env.map λx=>(x.1,J05 L x.2)
def Jy(s:TSt):St:=⟨J5R (lns s.sto) s.env,s.sto.map (J0E (lns s.sto))⟩
section
variable (L:Nat->Nat)
theorem Jfx(t x):J0E L (.box t x)=.box ((cel t x).map .p):=rfl
theorem JfC(t cs):J0E L (.mbox t cs)=.box (cs.map (J0u L)):=rfl
theorem Jwf(w t rows):J0E L (.arr w t rows)=.arr w t.sz (rows.map (cel t)):=rfl
theorem J6Y(b p):J05 L (.a (.c (.ptr b p)))=.ptr b (spo p):=rfl
theorem JaY(t x p):J05 L (.a (.c (.cp t x p)))=.cp (cel t x) (spo p):=rfl
theorem J55(b):J05 L (.a (.c (.slr b)))=.slr b 0 (L b):=rfl
theorem Jb9(b i p):J05 L (.a (.c (.ep b i p)))=.ep b (L b) i (spo p):=rfl
theorem e_i(k x):J05 L (.a (.c (.d (.i k) x)))=.p (.i k x):=rfl
theorem e_b(x):J05 L (.a (.c (.d .b x)))=.p (.b x):=rfl
theorem e_s(x):J05 L (.a (.c (.d .s x)))=.p (.s x):=rfl
theorem e_l(t x):J05 L (.a (.c (.d (.l t) x)))=.p (.sl t.sz (x.map (cel t))):=rfl
theorem JIk(f):J05 L (.a (.c (.fn f)))=.fn f [] []:=rfl
theorem JFz(t x):J05 L (.a (.dt t x))=.data (cel t x):=rfl
theorem JEQ(f a c):J05 L (.a (.fn f a c))=.fn f (a.map (J0u L)) (c.map (J0u L)):=rfl
theorem e_m(t cs):J05 L (.a (.m t cs))=.agg (cs.map (J0u L)):=rfl
end
theorem JuG{t:Ty}(h:t.sz=1)(x:t.D):cel t x=[hdP (cel t x)]:=by
 have:=J22 t x;rw[h]at this
 match hc:cel t x,this with
 |[c],_=>rfl
def kC(b n:Nat):TC->TC
 | .slr c=>if c=b then .slo b n else .slr c
 | .ep c i p=>if c=b then .epo b n i p else .ep c i p
 |x=>x
def kA(b n:Nat):TA->TA
 | .c x=>.c (kC b n x)
 | .dt t x=>.dt t x
 | .m t cs=>.m t (cs.map (kC b n))
 | .fn f a c=>.fn f (a.map (kC b n)) (c.map (kC b n))
def kV(b n:Nat):TV->TV
 | .a x=>.a (kA b n x)
 | .tup vs=>.tup (vs.map (kA b n))
def kB(b n:Nat):TB->TB
 | .mbox t cs=>.mbox t (cs.map (kC b n))
 |x=>x
def wS(b:Nat)(x:TB)(s:TSt):TSt:=⟨s.env,s.sto.set b x⟩
def wN(b:Nat)(x:TB)(s:TSt):TSt:=⟨s.env.map λy=>(y.1,kV b (lns s.sto b) y.2),(s.sto.map (kB b (lns s.sto b))).set b x⟩
def J0K(d:Option Nat)(v:TV)(s:TSt):TSt:=
 match d with
 |some d=>⟨(d,v)::s.env,s.sto⟩
 |none=>s
section
variable {L L':Nat->Nat} {b:Nat}
theorem k_C(h: ∀c,c≠b->L' c=L c)(x:TC):J0u L' (kC b (L b) x)=J0u L x:=by cases x<;>grind [kC,J0u]
theorem JJq(h: ∀c,c≠b->L' c=L c)(xs:List TC):(xs.map (kC b (L b))).map (J0u L')=xs.map (J0u L):=by simp_all [k_C]
theorem k_A(h: ∀c,c≠b->L' c=L c)(x:TA):J1t L' (kA b (L b) x)=J1t L x:=by cases x<;>simp only[kA,J1t,k_C h,JJq h]
theorem k_V(h: ∀c,c≠b->L' c=L c)(x:TV):J05 L' (kV b (L b) x)=J05 L x:=by cases x<;>simp only[kV,J05,k_A h,Jok,Function.comp_def]
theorem k_B(h: ∀c,c≠b->L' c=L c)(x:TB):J0E L' (kB b (L b) x)=J0E L x:=by cases x<;>simp only[kB,J0E,JJq h]
theorem JJU(b n:Nat)(x:TB):lnB (kB b n x)=lnB x:=by cases x<;>rfl
theorem JIN(sto:List TB)(b n c:Nat):lns (sto.map (kB b n)) c=lns sto c:=by
 unfold lns;rw[J79];cases sto[c]? with
 |none=>rfl
 |some x=>exact JJU b n x
theorem JA0(sto:List TB)(b:Nat)(x:TB)(c:Nat)(h:c≠b):lns (sto.set b x) c=lns sto c:=by
 grind [lns]
theorem Jwj{sto:List TB}{b:Nat}(h:b<sto.length)(x:TB):lns (sto.set b x) b=lnB x:=by unfold lns;rw[Jox h];rfl
theorem JGE(b:Nat)(x:TB)(s:TSt):Jy (wN b x s)=⟨(Jy s).env,(Jy s).sto.set b (J0E (lns (wN b x s).sto) x)⟩:=by
 have h: ∀c,c≠b->lns (wN b x s).sto c=lns s.sto c:=λc hc=>by
  grind [wN,JA0,JIN]
 unfold Jy
 congr 1
 ·show J5R _ (s.env.map λy=>(y.1,kV b (lns s.sto b) y.2))=J5R _ s.env;simp_all [J5R,k_V]
 ·show((s.sto.map (kB b (lns s.sto b))).set b x).map _=_
  grind [List.map_set,List.map_congr_left,k_B]
theorem Jf7{b:Nat}{x:TB}{s:TSt}(h:lnB x=lns s.sto b):lns (wS b x s).sto=lns s.sto:=by
 grind [wS,Jwj,List.set_eq_of_length_le,JA0]
theorem Jgv{b:Nat}{x:TB}{s:TSt}(h:lnB x=lns s.sto b):Jy (wS b x s)=⟨(Jy s).env,(Jy s).sto.set b (J0E (lns s.sto) x)⟩:=by
 grind [Jy,Jf7,wS,List.map_set]
theorem J99{s s1:TSt}{ws:List (Nat×Blk)}(h:Jy s1=⟨(Jy s).env,upd ws (Jy s).sto⟩)(d:Option Nat)(v:TV):put d ⟨J05 (lns s1.sto) v,ws⟩ (Jy s)=Jy (J0K d v s1):=by cases d<;>simp_all [J0K,Jy,J5R]
end
theorem Jfi{s:TSt}(d:Option Nat)(v:TV):put d ⟨J05 (lns s.sto) v,[]⟩ (Jy s)=Jy (J0K d v s):=J99 rfl d v
def tlk(n:Nat):List (Nat×TV)->Option TV
 |[]=>none
 |(m,v)::r=>if n=m then some v else tlk n r
theorem JcP(L:Nat->Nat)(n:Nat): ∀env:List (Nat×TV),lk n (J5R L env)=(tlk n env).map (J05 L)
 |[]=>rfl
 |(m,v)::r=>by
  simp only[J5R,J1q,lk,tlk];split
  ·rfl
  ·exact JcP L n r
theorem J1S(s:TSt)(b:Nat):(Jy s).sto[b]?=(s.sto[b]?).map (J0E (lns s.sto)):=by simp[Jy]
theorem J5W{sto:List TB}{b:Nat}{w:Bool}{t:Ty}{rows:List t.D}(h:sto[b]?=some (.arr w t rows)):lns sto b=rows.length:=by unfold lns;rw[h];rfl
inductive TO where
 |t (n:Nat)
 |c (x:TV)
def erO:TO->Opd
 | .t n=>.t n
 | .c x=>.c (J05 (λ_=>0) x)
def JGN:TC->Bool
 | .d _ _| .sc _ _| .np| .nf| .un| .fn _=>true
 |_=>false
def Jth:TA->Bool
 | .c x=>JGN x
 | .dt _ _=>true
 | .m _ _=>false
 | .fn _ a c=>a.isEmpty&&c.isEmpty
def Jja:TV->Bool
 | .a x=>Jth x
 | .tup vs=>vs.isEmpty
theorem JFy{L L':Nat->Nat}{v:TV}(h:Jja v=true):J05 L v=J05 L' v:=by
 cases v with
 |a x=>
  cases x with
  |c x=>cases x<;>first|rfl|grind [Jja,Jth,JGN]
  |dt t x=>rfl
  |m t cs=>grind [Jja,Jth]
  |fn f a c=>simp[Jja,Jth]at h;obtain⟨rfl,rfl⟩:=h;rfl
 |tup vs=>simp[Jja]at h;subst h;rfl
def tev:TO->TSt->Option TV
 | .t n,s=>tlk n s.env
 | .c x,_=>if Jja x=true then some x else none
theorem J0w{x:TO}{s:TSt}{v:TV}(h:tev x s=some v):(ev (erO x)).run (Jy s)=some (J05 (lns s.sto) v):=by
 cases x with
 |t n=>simp only[erO,ev,J87];show(lk n (J5R (lns s.sto) s.env)).bind _=_;rw[JcP,show tlk n s.env=some v from h];rfl
 |c x=>
  grind [tev,erO,ev,JZ,JFy]
end Go.Am
end
section
namespace Go.Am
@[reducible] def vi(k:IntKind)(n:Int):TV:=.a (.c (.d (.i k) n))
@[reducible] def vb(x:Bool):TV:=.a (.c (.d .b x))
@[reducible] def vs(l:List UInt8):TV:=.a (.c (.d .s l))
@[reducible] def vl(t:Ty)(l:List t.D):TV:=.a (.c (.d (.l t) l))
def uv:TV:=.tup []
def mkv(agg:Bool)(t:Ty)(x:t.D):TV:=if agg=true then .a (.dt t x)else .a (.c (.d t x))
def Ok{R:Type}(m:RM Eff)(d:Option Nat)(s:TSt)(k:TSt->Option R)(r:R):Prop:= ∃e s',m.run (Jy s)=some e/\put d e (Jy s)=Jy s'/\k s'=some r
def asm:(t:Ty)->List TC->Option t.D
 | .pr a c,l=>match asm a (l.take a.sz),asm c (l.drop a.sz)with
  |some x,some y=>some (x,y)
  |_,_=>none
 | .ar _ _,_=>none
 | .u,l=>if l.isEmpty=true then some ()else none
 |t,l=>match l with
  |[.d t' x]=>if h:t'=t then some (h▸x)else none
  |_=>none
def JkB:(t:Ty)->t.D->Option (List TC)
 | .pr a c,x=>match JkB a x.1,JkB c x.2 with
  |some l,some q=>some (l++q)
  |_,_=>none
 | .ar _ _,_=>none
 | .u,_=>some []
 |t,x=>some [.d t x]
theorem Jic(L:Nat->Nat): ∀{t:Ty} {l:List TC} {x:t.D},asm t l=some x->l.map (J0u L)=(cel t x).map .p
 | .pr a c,l,x,h=>by
  simp only[asm]at h;split at h
  ·rename_i y z hy hz;injection h with h;subst h;have h1:=Jic L hy;have h2:=Jic L hz
   grind [cel,List.take_append_drop]
  ·cases h
 | .ar _ _,_,_,h=>by cases h
 | .u,l,x,h=>by
  simp only[asm]at h;split at h
  ·rename_i e;rw[List.isEmpty_iff.1 e];rfl
  ·cases h
 | .b,l,x,h=>by
  simp only[asm]at h;split at h
  ·split at h
   ·rename_i e;subst e;injection h with h;subst h;rfl
   ·cases h
  ·cases h
 | .i _,l,x,h=>by
  simp only[asm]at h;split at h
  ·split at h
   ·rename_i e;subst e;injection h with h;subst h;rfl
   ·cases h
  ·cases h
 | .s,l,x,h=>by
  simp only[asm]at h;split at h
  ·split at h
   ·rename_i e;subst e;injection h with h;subst h;rfl
   ·cases h
  ·cases h
 | .l _,l,x,h=>by
  simp only[asm]at h;split at h
  ·split at h
   ·rename_i e;subst e;injection h with h;subst h;rfl
   ·cases h
  ·cases h
 | .f,l,x,h=>by
  simp only[asm]at h;split at h
  ·split at h
   ·rename_i e;subst e;injection h with h;subst h;rfl
   ·cases h
  ·cases h
theorem JfH(L:Nat->Nat): ∀{t:Ty} {x:t.D} {l:List TC},JkB t x=some l->l.map (J0u L)=(cel t x).map .p
 | .pr a c,x,l,h=>by
  simp only[JkB]at h;split at h
  ·rename_i y z hy hz;injection h with h;subst h;have h1:=JfH L hy;have h2:=JfH L hz
   grind [cel]
  ·cases h
 | .ar _ _,_,_,h=>by cases h
 | .u,x,l,h=>by injection h with h;subst h;rfl
 | .b,x,l,h=>by injection h with h;subst h;rfl
 | .i _,x,l,h=>by injection h with h;subst h;rfl
 | .s,x,l,h=>by injection h with h;subst h;rfl
 | .l _,x,l,h=>by injection h with h;subst h;rfl
 | .f,x,l,h=>by injection h with h;subst h;rfl
def zcs:Ty->List TC
 | .pr a c=>zcs a++zcs c
 | .ar n t=>(List.replicate n (zcs t)).flatten
 | .u=>[]
 |t=>[.d t t.zero]
theorem Jf9(L:Nat->Nat): ∀t:Ty,(zcs t).map (J0u L)=(cel t t.zero).map .p
 | .pr a c=>by simp only[zcs,Jkk,Jf9 L a,Jf9 L c,Ty.zero,cel]
 | .ar n t=>by have ih:=Jf9 L t;simp_all [cel,JcF,Ty.zero,zcs]
 | .u=>rfl
 | .b=>rfl
 | .i _=>rfl
 | .s=>rfl
 | .l _=>rfl
 | .f=>rfl
def mkb(t:Ty)(cs:List TC):TB:=match asm t cs with
 |some x=>.box t x
 |none=>.mbox t cs
theorem JiR(L:Nat->Nat)(t:Ty)(cs:List TC):J0E L (mkb t cs)=.box (cs.map (J0u L)):=by
 unfold mkb;split
 ·grind [Jfx,Jic]
 ·rfl
theorem Jj3(t:Ty)(cs:List TC):lnB (mkb t cs)=0:=by unfold mkb;split<;>rfl
def JBv:TC->Bool
 | .ptr _ _| .cp _ _ _| .slr _| .slo _ _| .ep _ _ _| .epo _ _ _ _| .un| .fn _=>true
 |_=>false
theorem Jp8(L:Nat->Nat): ∀{cs:List TC},cs.any JBv=true->unp (cs.map (J0u L))=none
 |[],h=>by simp at h
 |x::r,h=>by
  simp only[List.any_cons,Jo3]at h;rcases h with h|h
  ·cases x<;>simp[JBv]at h<;>rfl
  ·have:=Jp8 L h;cases x<;>simp[J0u,unp,this]
def mka(agg:Bool)(t:Ty)(cs:List TC):Option TV:=
 if agg=true then
  match asm t cs with
  |some x=>some (.a (.dt t x))
  |none=>if cs.any JBv=true then some (.a (.m t cs))else none
 else match cs with
  |[c]=>some (.a (.c c))
  |_=>none
theorem Jfm(L:Nat->Nat){agg:Bool}{t:Ty}{cs:List TC}{v:TV}(h:mka agg t cs=some v):J47 agg (cs.map (J0u L))=some (J05 L v):=by
 unfold mka at h;split at h
 ·rename_i ha;subst ha;split at h
  ·rename_i x hx;injection h with h;subst h;rw[Jic L hx,JjI];rfl
  ·split at h
   ·rename_i hr;injection h with h;subst h;simp only[J47,Jp8 L hr,if_true];rfl
   ·cases h
 ·rename_i ha;split at h
  ·injection h with h;subst h;have:agg=false:=by simpa using ha
   subst this;rfl
  ·cases h
def tcs:TV->Option (List TC)
 | .a (.c .un)=>none
 | .a (.c x)=>some [x]
 | .a (.dt t x)=>JkB t x
 | .a (.m _ cs)=>some cs
 | .a (.fn f [] [])=>some [.fn f]
 |_=>none
theorem JhN(L:Nat->Nat){v:TV}{cs:List TC}(h:tcs v=some cs):cellsOf (J05 L v)=some (cs.map (J0u L)):=by
 cases v with
 |a x=>
  cases x with
  |c x=>cases x<;>cases h<;>rfl
  |dt t x=>simp only[J05,J1t,cellsOf];rw[JfH L h]
  |m t cs=>injection h with h;subst h;rfl
  |fn f a c=>
   cases a with
   |nil=>cases c with
    |nil=>injection h with h;subst h;rfl
    |cons y c=>cases h
   |cons y a=>cases h
 |tup vs=>cases h
def tdv(t:Ty):TV->Option t.D
 | .a (.c (.d t' x))=>if h:t'=t then some (h▸x)else none
 | .a (.dt t' x)=>if h:t'=t then some (h▸x)else none
 |_=>none
def agv:TV->Bool
 | .a (.dt _ _)=>true
 |_=>false
theorem JJW(L:Nat->Nat){t:Ty}{v:TV}{x:t.D}(h:tdv t v=some x):J05 L v=if agv v=true then .data (cel t x)else .p (hdP (cel t x)):=by
 unfold tdv at h;split at h
 ·split at h
  ·rename_i e;subst e;injection h with h;subst h;rfl
  ·cases h
 ·split at h
  ·rename_i e;subst e;injection h with h;subst h;rfl
  ·cases h
 ·cases h
def Jgy:List Sp->Option Nat
 |[]=>some 0
 | .f o::r=>match Jgy r with
  |some n=>some (o+n)
  |none=>none
 | .a _ _::_=>none
theorem JfD: ∀{p:List Sp} {n:Nat},Jgy p=some n->spo p=n
 |[],n,h=>by injection h with h
 | .f o::r,n,h=>by
  simp only[Jgy]at h;split at h
  ·rename_i m hm;injection h with h;simp only[spo,JfD hm,h]
  ·cases h
 | .a _ _::_,_,h=>by cases h
section
variable {R:Type}
def JAK(agg:Bool)(t:Ty)(v:TV)(d:Option Nat)(s:TSt)(k:TSt->Option R):Option R:=
 if agg=true\/t.sz=1 then
  match v with
  | .a (.c (.cp t0 x p))=>prt t0 x (spf 0 p).1 (spf 0 p).2 t λy=>k (J0K d (mkv agg t y) s)
  | .a (.c (.ptr b p))=>match s.sto[b]? with
   |some (.box t0 x)=>prt t0 x (spf 0 p).1 (spf 0 p).2 t λy=>k (J0K d (mkv agg t y) s)
   |some (.mbox _ cs)=>match Jgy p with
    |some off=>match sub cs off t.sz with
     |some l=>match mka agg t l with
      |some v=>k (J0K d v s)
      |none=>none
     |none=>none
    |none=>none
   |_=>none
  | .a (.c (.ep b i p))=>match s.sto[b]? with
   |some (.arr _ t0 rows)=>(lat rows i).bind λrow=>prt t0 row (spf 0 p).1 (spf 0 p).2 t λy=>k (J0K d (mkv agg t y) s)
   |_=>none
  |_=>none
 else none
theorem JfG(L:Nat->Nat){agg:Bool}{t:Ty}(h:agg=true\/t.sz=1)(y:t.D):J4N agg (cel t y)=some (J05 L (mkv agg t y)):=by
 unfold mkv;split
 ·rename_i ha;subst ha;rfl
 ·rename_i ha;have:agg=false:=by simpa using ha
  subst this;have:=h.resolve_left (by simp);rw[JuG this];rfl
theorem JwD(p:List Sp):(spf 0 p).1+spo (spf 0 p).2=spo p:=by simp[Jtj]
theorem JG9{agg:Bool}{t:Ty}{v:TV}{d:Option Nat}{s:TSt}{k:TSt->Option R}{r:R}(h:JAK agg t v d s k=some r):Ok (J4z agg t.sz (J05 (lns s.sto) v)) d s k r:=by
 unfold JAK at h;split at h
 ·rename_i ha;split at h
  ·rename_i t0 x p;obtain⟨y,h1,h2⟩:=J9U h;rw[JwD]at h1;refine⟨_,_,?_,Jfi d (mkv agg t y),h2⟩;simp only[J6Y,JaY,Jb9,J55,J4z,h1,JfG (lns s.sto) ha,val];rfl
  ·rename_i b p;split at h
   ·rename_i t0 x hb;obtain⟨y,h1,h2⟩:=J9U h;rw[JwD]at h1;refine⟨_,_,?_,Jfi d (mkv agg t y),h2⟩;have hc:J47 agg ((cel t y).map .p)=J4N agg (cel t y):=by
     unfold J47 J4N;split
     ·rw[Jdf]
     ·cases hcel:cel t y with
      |nil=>rfl
      |cons a l=>cases l<;>rfl
    simp only[J6Y,JaY,Jb9,J55,J4z,J1H,J1S,hb,J3n,J07,J0E,Jb1,h1,hc,JfG (lns s.sto) ha,val];rfl
   ·rename_i cs hb;split at h
    ·rename_i off ho;split at h
     ·rename_i l hl;split at h
      ·rename_i v hv;refine⟨_,_,?_,Jfi d v,h⟩;simp only[J6Y,JaY,Jb9,J55,J4z,J1H,J1S,hb,J3n,J07,J0E,Jb1,JfD ho,hl,Jfm (lns s.sto) hv,val];rfl
      ·cases h
     ·cases h
    ·cases h
   ·cases h
  ·rename_i b i p;split at h
   ·rename_i w t0 rows hb;obtain⟨row,hr,h⟩:=J2K.1 h;have hr:rows[i]?=some row:=hr;obtain⟨y,h1,h2⟩:=J9U h;rw[JwD]at h1;refine⟨_,_,?_,Jfi d (mkv agg t y),h2⟩;simp only[J6Y,JaY,Jb9,J55,J4z,J1H,J1S,hb,J3n,J07,J0E,J5W hb,J6y,if_true,J79,hr,h1,JfG (lns s.sto) ha,val];rfl
   ·cases h
  ·cases h
 ·cases h
end
end Go.Am
end
section
namespace Go.Am
section
variable {R:Type}
def fzC:(t:Ty)->List TC->TSt->(t.D->TSt->Option R)->Option R
 | .pr a c,l,s,k=>fzC a (l.take a.sz) s λx s=>fzC c (l.drop a.sz) s λy s=>k (x,y) s
 | .ar _ _,_,_,_=>none
 | .u,l,s,k=>if l.isEmpty=true then k () s else none
 | .l e,l,s,k=>match l with
  |[.d t' x]=>if h:t'=.l e then k (h▸x) s else none
  |[.slr b]=>match s.sto[b]? with
   |some (.arr _ e' rows)=>if h:e'=e then k (h▸rows) (wS b (.arr false e' rows) s)else none
   |_=>none
  |_=>none
 |t,l,s,k=>match l with
  |[.d t' x]=>if h:t'=t then k (h▸x) s else none
  |_=>none
def tfz(t:Ty)(v:TV)(s:TSt)(k:t.D->TSt->Option R):Option R:=
 match v with
 | .a (.dt t' x)=>if h:t'=t then k (h▸x) s else none
 | .a (.c x)=>fzC t [x] s k
 | .a (.m _ cs)=>fzC t cs s k
 |_=>none
def Fzd(s s':TSt)(ws:List (Nat×Blk)):Prop:=s'.env=s.env/\lns s'.sto=lns s.sto/\Jy s'=⟨(Jy s).env,upd ws (Jy s).sto⟩/\(∀(b:Nat) (t:Ty) (rows:List t.D) (w:Bool),s'.sto[b]?=some (TB.arr w t rows)-> ∃w',s.sto[b]?=some (TB.arr w' t rows))/\(∀(b:Nat) (t:Ty) (rows:List t.D),s.sto[b]?=some (TB.arr false t rows)->s'.sto[b]?=some (TB.arr false t rows))/\ ∀x∈ws,∃(t:Ty) (rows:List t.D),s'.sto[x.1]?=some (TB.arr false t rows)
theorem Fzd.refl(s:TSt):Fzd s s []:=⟨rfl,rfl,rfl,λb t rows w h=>⟨w,h⟩,λb t rows h=>h,λx h=>by cases h⟩
theorem Fzd.trans{s1 e g:TSt}{a c:List (Nat×Blk)}(h:Fzd s1 e a)(j:Fzd e g c):Fzd s1 g (a++c):=by
 obtain⟨h1,h2,h3,h4,h5,q⟩:=h;obtain⟨q1,q2,q3,o,k,n⟩:=j;refine⟨q1.trans h1,q2.trans h2,?_,λb t rows w h=>?_,λb t rows h=>k b t rows (h5 b t rows h),λx hx=>?_⟩
 all_goals grind [J21]
theorem Jp4{s:TSt}{b:Nat}{w:Bool}{t:Ty}{rows:List t.D}(hb:s.sto[b]?=some (.arr w t rows)):Fzd s (wS b (.arr false t rows) s) [(b,.arr false t.sz (rows.map (cel t)))]:=by
 have hl:lnB (.arr false t rows)=lns s.sto b:=by rw[J5W hb];rfl
 have hs:(wS b (.arr false t rows) s).sto[b]?=some (.arr false t rows):=by grind [wS]
 have ho: ∀c,c≠b->(wS b (.arr false t rows) s).sto[c]?=s.sto[c]?:=λc hc=>by grind [wS]
 refine⟨rfl,Jf7 hl,Jgv hl,λc t' e w' h=>?_,λc t' e h=>?_,λx hx=>?_⟩
 all_goals grind
theorem JHy(x y:List AV)(st:St):(fz.fzL (x++y)).run st=((fz.fzL x).run st).bind λa=>((fz.fzL y).run st).map λc=>(a.1++c.1,a.2++c.2):=by
 induction x with
 |nil=>simp_all
 |cons v x ih=>
  simp only[JoD,fz.fzL,run_bind,ih];cases(fz.fz1 v).run st with
  |none=>rfl
  |some a=>
   simp only[J07];cases(fz.fzL x).run st with
   |none=>rfl
   |some c=>simp only[J07];cases(fz.fzL y).run st<;>simp_all
theorem Jik{L:Nat->Nat}{t t':Ty}{x:t'.D}(h:t'=t)(h1:t.sz=1)(st:St):(fz.fzL ([TC.d t' x].map (J0u L))).run st=some (cel t (h▸x),[]):=by
 grind [JuG,J0u,fz.fzL,fz.fz1,run_bind,JZ]
theorem JhA: ∀{t:Ty} {l:List TC} {s0 s:TSt} {w0:List (Nat×Blk)} {k:t.D->TSt->Option R} {r:R},Fzd s0 s w0->fzC t l s k=some r->
  ∃y s' ws,(fz.fzL (l.map (J0u (lns s0.sto)))).run (Jy s0)=some (cel t y,ws)/\Fzd s0 s' (w0++ws)/\k y s'=some r
 | .pr a c,l,s0,s,w0,k,r,j,h=>by simp only[fzC]at h;obtain⟨x,s1,w1,e1,o,h⟩:=JhA j h;obtain⟨y,q,w2,e2,v,h⟩:=JhA o h;refine⟨(x,y),q,w1++w2,?_,by simp_all,h⟩;have:=JHy ((l.take a.sz).map (J0u (lns s0.sto))) ((l.drop a.sz).map (J0u (lns s0.sto))) (Jy s0);rw[<-Jkk,JBM,e1,e2]at this;exact this
 | .ar _ _,_,_,_,_,_,_,_,h=>by cases h
 | .u,l,s0,s,w0,k,r,j,h=>by
  simp only[fzC]at h;split at h
  ·rename_i g;refine⟨(),s,[],?_,by simp_all,h⟩;rw[List.isEmpty_iff.1 g];rfl
  ·cases h
 | .l e,l,s0,s,w0,k,r,j,h=>by
  simp only[fzC]at h;split at h
  ·split at h
   ·rename_i g;exact⟨_,s,[],Jik g rfl _,by simp_all,h⟩
   ·cases h
  ·rename_i b;split at h
   ·rename_i w e' rows hb;split at h
    ·rename_i g;subst g;obtain⟨w',n⟩:=j.2.2.2.1 b _ rows w hb;refine⟨rows,_,[(b,.arr false e'.sz (rows.map (cel e')))],?_,j.trans (Jp4 hb),h⟩;simp only[J1q,List.map_nil,J0u,fz.fzL,fz.fz1,run_bind,J1H,J1S,n,J3n,J07,J0E,J5W n,J6y,JeI,if_true,JvY,JZ];rfl
    ·cases h
   ·cases h
  ·cases h
 | .b,l,s0,s,w0,k,r,j,h=>by
  simp only[fzC]at h;split at h
  ·split at h
   ·rename_i g;exact⟨_,s,[],Jik g rfl _,by simp_all,h⟩
   ·cases h
  ·cases h
 | .i _,l,s0,s,w0,k,r,j,h=>by
  simp only[fzC]at h;split at h
  ·split at h
   ·rename_i g;exact⟨_,s,[],Jik g rfl _,by simp_all,h⟩
   ·cases h
  ·cases h
 | .s,l,s0,s,w0,k,r,j,h=>by
  simp only[fzC]at h;split at h
  ·split at h
   ·rename_i g;exact⟨_,s,[],Jik g rfl _,by simp_all,h⟩
   ·cases h
  ·cases h
 | .f,l,s0,s,w0,k,r,j,h=>by
  simp only[fzC]at h;split at h
  ·split at h
   ·rename_i g;exact⟨_,s,[],Jik g rfl _,by simp_all,h⟩
   ·cases h
  ·cases h
theorem JLk(x:AV)(hx:(∀cs,x≠.data cs)/\ ∀cs,x≠.agg cs)(st:St){y:List PV}{ws:List (Nat×Blk)}(h:(fz.fzL [x]).run st=some (y,ws)):(fz x).run st=some (y,ws):=by simp only[fz.fzL,run_bind,JZ]at h;cases x<;>simp_all [J2K]
theorem JDx{t:Ty}{v:TV}{s0 s:TSt}{w0:List (Nat×Blk)}{k:t.D->TSt->Option R}{r:R}(e:Fzd s0 s w0)(h:tfz t v s k=some r):
  ∃y s' ws,(fz (J05 (lns s0.sto) v)).run (Jy s0)=some (cel t y,ws)/\Fzd s0 s' (w0++ws)/\k y s'=some r:=by
 unfold tfz at h;split at h
 ·split at h
  ·rename_i g;subst g;exact⟨_,s,[],rfl,by simp_all,h⟩
  ·cases h
 ·rename_i x;obtain⟨y,s',ws,h1,h2,h3⟩:=JhA e h;refine⟨y,s',ws,JLk _ ⟨λcs=>?_,λcs=>?_⟩ _ h1,h2,h3⟩<;>cases x<;>simp[J0u,J05,J1t]
 ·obtain⟨y,s',ws,h1,h2,h3⟩:=JhA e h;exact⟨y,s',ws,h1,h2,h3⟩
 ·cases h
end
end Go.Am
end
section
namespace Go.Am
section
variable {R:Type}
theorem Ji0(L:Nat->Nat){t:Ty}{v:TV}{x:t.D}(h:tdv t v=some x)(ha:agv v=true\/t.sz=1):cellsOf (J05 L v)=some ((cel t x).map .p):=by
 rw[JJW L h];split
 ·rfl
 ·rename_i hn;rw[JuG (ha.resolve_left hn)];rfl
def Jvp(t:Ty)(x u:TV)(d:Option Nat)(s:TSt)(k:TSt->Option R):Option R:=
 match x with
 | .a (.c (.ptr b p))=>match s.sto[b]? with
  |some (.box t0 y)=>match tdv t u with
   |some z=>if agv u=true\/t.sz=1 then pst t0 y (spf 0 p).1 (spf 0 p).2 t z λg=>k (J0K d uv (wS b (.box t0 g) s))else none
   |none=>match Jgy p,JkB t0 y,tcs u with
    |some off,some cs,some l=>if l.length=t.sz then
     match spl cs off l with
     |some cs'=>k (J0K d uv (wS b (mkb t0 cs') s))
     |none=>none
     else none
    |some off,none,some l=>if off=0/\l.length=t0.sz/\l.length=t.sz then k (J0K d uv (wS b (mkb t0 l) s))else none
    |_,_,_=>none
  |some (.mbox t0 cs)=>match Jgy p,tcs u with
   |some off,some l=>if l.length=t.sz then
    match spl cs off l with
    |some cs'=>k (J0K d uv (wS b (mkb t0 cs') s))
    |none=>none
    else none
   |_,_=>none
  |_=>none
 | .a (.c (.ep b i p))=>tfz t u s λz s1=>match s1.sto[b]? with
  |some (.arr true t0 rows)=>(lat rows i).bind λrow=>pst t0 row (spf 0 p).1 (spf 0 p).2 t z λe=>k (J0K d uv (wS b (.arr true t0 (J0B rows i e)) s1))
  |_=>none
 |_=>none
theorem JJX(L:Nat->Nat):J05 L uv=J3v:=rfl
theorem Jje{s:TSt}{b:Nat}{t:Ty}{x:t.D}(h:s.sto[b]?=some (.box t x)):lns s.sto b=0:=by unfold lns;rw[h];rfl
theorem JuR{s:TSt}{b:Nat}{t:Ty}{cs:List TC}(h:s.sto[b]?=some (.mbox t cs)):lns s.sto b=0:=by unfold lns;rw[h];rfl
theorem J9K{s:TSt}{b:Nat}(h:s.sto[b]?=some .dead):lns s.sto b=0:=by unfold lns;rw[h];rfl
theorem Jmz{m:RM Eff}{d:Option Nat}{s:TSt}{k:TSt->Option R}{r:R}{b:Nat}{x:TB}{v:TV}(hl:lnB x=lns s.sto b)(hm:m.run (Jy s)=some ⟨J05 (lns s.sto) v,[(b,J0E (lns s.sto) x)]⟩)
  (h:k (J0K d v (wS b x s))=some r):Ok m d s k r:=by
 refine⟨_,_,hm,?_,h⟩;have e:=Jf7 hl;rw[<-e];refine J99 ?_ d v;simp_all [Jgv]
theorem JCc{m:RM Eff}{d:Option Nat}{s:TSt}{k:TSt->Option R}{r:R}{b:Nat}{x:TB}{v:TV}(hm:m.run (Jy s)=some ⟨J05 (lns (wN b x s).sto) v,[(b,J0E (lns (wN b x s).sto) x)]⟩)
  (h:k (J0K d v (wN b x s))=some r):Ok m d s k r:=
 ⟨_,_,hm,J99 (JGE b x s) d v,h⟩
theorem J29{m:RM Eff}{d:Option Nat}{s:TSt}{k:TSt->Option R}{r:R}{v:TV}(hm:m.run (Jy s)=some ⟨J05 (lns s.sto) v,[]⟩)(h:k (J0K d v s)=some r):Ok m d s k r:=
 ⟨_,_,hm,Jfi d v,h⟩
theorem Jwp{m:RM Eff}{d:Option Nat}{s s':TSt}{ws:List (Nat×Blk)}{k:TSt->Option R}{r:R}{v:TV}(f:Fzd s s' ws)(hm:m.run (Jy s)=some ⟨J05 (lns s.sto) v,ws⟩)(h:k (J0K d v s')=some r):Ok m d s k r:=by refine⟨_,_,hm,?_,h⟩;rw[<-f.2.1];exact J99 f.2.2.1 d v
theorem JCF{t:Ty}{x u:TV}{d:Option Nat}{s:TSt}{k:TSt->Option R}{r:R}(h:Jvp t x u d s k=some r):Ok (J42 t.sz (J05 (lns s.sto) x) (J05 (lns s.sto) u)) d s k r:=by
 unfold Jvp at h;split at h
 ·rename_i b p;split at h
  ·rename_i t0 y hb;split at h
   ·rename_i z hz;split at h
    ·rename_i ha;obtain⟨o,h1,h2⟩:=Jbg h;rw[JwD]at h1;refine Jmz (x:=.box t0 o) (v:=uv) (Jje hb).symm ?_ h2;simp only[J6Y,JaY,Jb9,J55,J42,J1H,J1S,hb,J3n,J07,J0E,Ji0 (lns s.sto) hz ha,J6y,J22,if_true,Jb8,h1,JZ];rfl
    ·cases h
   ·split at h
    ·rename_i off cs l ho hc hl;split at h
     ·rename_i hn;split at h
      ·rename_i cs' hs;refine Jmz (x:=mkb t0 cs') (v:=uv) ((Jj3 _ _).trans (Jje hb).symm) ?_ h;rw[JiR];simp only[J6Y,JaY,Jb9,J55,J42,J1H,J1S,hb,J3n,J07,J0E,JhN (lns s.sto) hl,J6y,hn,if_true,JfD ho,<-JfH (lns s.sto) hc,Jb8,hs,JZ];rfl
      ·cases h
     ·cases h
    ·rename_i off l ho _ hl;split at h
     ·rename_i n;obtain⟨rfl,h1,h2⟩:=n;refine Jmz (x:=mkb t0 l) (v:=uv) ((Jj3 _ _).trans (Jje hb).symm) ?_ h;rw[JiR];have he:spl ((cel t0 y).map AV.p) 0 (l.map (J0u (lns s.sto)))=some (l.map (J0u (lns s.sto))):=Jzm (by grind [J22]);simp only[J6Y,JaY,Jb9,J55,J42,J1H,J1S,hb,J3n,J07,J0E,JhN (lns s.sto) hl,J6y,h2,if_true,JfD ho,he,JZ];rfl
     ·cases h
    ·cases h
  ·rename_i t0 cs hb;split at h
   ·rename_i off l ho hl;split at h
    ·rename_i hn;split at h
     ·rename_i cs' hs;refine Jmz (x:=mkb t0 cs') (v:=uv) ((Jj3 _ _).trans (JuR hb).symm) ?_ h;rw[JiR];simp only[J6Y,JaY,Jb9,J55,J42,J1H,J1S,hb,J3n,J07,J0E,JhN (lns s.sto) hl,J6y,hn,if_true,JfD ho,Jb8,hs,JZ];rfl
     ·cases h
    ·cases h
   ·cases h
  ·cases h
 ·rename_i b i p;obtain⟨z,s1,ws,h1,f,h⟩:=JDx (Fzd.refl s) h;rw[JhY]at f;split at h
  ·rename_i t0 rows hb;obtain⟨row,hr,h⟩:=J2K.1 h;have hr:rows[i]?=some row:=hr;obtain⟨e,q1,q2⟩:=Jbg h;rw[JwD]at q1;obtain⟨w',g⟩:=f.2.2.2.1 b _ rows true hb;have hw:w'=true:=by
    cases w' with
    |true=>rfl
    |false=>have:=f.2.2.2.2.1 b _ rows g;simp_all
   subst hw;have j:(ws.all λy=>y.1 !=b)=true:=by
    rw[JCi];intro y hy;obtain⟨t',rows',hf⟩:=f.2.2.2.2.2 y hy
    grind
   have hl:lnB (.arr true t0 (J0B rows i e))=lns s1.sto b:=by grind [J5W,lnB,J0B]
   refine⟨⟨J3v,ws++[(b,.arr true t0.sz ((J0B rows i e).map (cel t0)))]⟩,_,?_,?_,q2⟩
   ·simp only[J6Y,JaY,Jb9,J55,J42,J1H,J1S,g,J3n,J07,J0E,J5W g,J6y,if_true,J79,hr,run_bind,h1,J22,j,and_self,q1,JZ,List.map_set,J0B]
   ·rw[<-JJX (lns (wS b (.arr true t0 (J0B rows i e)) s1).sto)];refine J99 ?_ d uv;rw[Jgv hl,f.2.2.1,J21];rfl
  ·cases h
 ·cases h
def tpv:List (Nat×Ty×TO)->TSt->Option (List (Nat×(w:Ty)×w.D))
 |[],_=>some []
 |(off,w,o)::r,s=>match tev o s with
  |some v=>match tdv w v with
   |some z=>if agv v=true\/w.sz=1 then
    match tpv r s with
    |some l=>some ((off,⟨w,z⟩)::l)
    |none=>none
    else none
   |none=>none
  |none=>none
def Jta(t:Ty):t.D->List (Nat×(w:Ty)×w.D)->(t.D->Option R)->Option R
 |x,[],k=>k x
 |x,(off,⟨w,z⟩)::r,k=>pst t x off [] w z λe=>Jta t e r k
def tpc:List (Nat×Ty×TO)->TSt->Option (List (Nat×Nat×List TC))
 |[],_=>some []
 |(off,w,o)::r,s=>match tev o s with
  |some v=>match tcs v with
   |some l=>match tpc r s with
    |some q=>some ((off,w.sz,l)::q)
    |none=>none
   |none=>none
  |none=>none
def Jn5:List (Nat×Nat×List TC)->List TC->Option (List TC)
 |[],cs=>some cs
 |(off,n,c)::r,cs=>if c.length=n then
  match spl cs off c with
  |some cs'=>Jn5 r cs'
  |none=>none
  else none
def erP(parts:List (Nat×Ty×TO)):List (Nat×Nat×Opd):=parts.map λx=>(x.1,x.2.1.sz,erO x.2.2)
theorem JvD{s:TSt}: ∀{parts:List (Nat×Ty×TO)} {l:List (Nat×Nat×List TC)},tpc parts s=some l->
  (J5H (erP parts)).run (Jy s)=some (l.map λx=>(x.1,x.2.1,x.2.2.map (J0u (lns s.sto))))
 |[],l,h=>by injection h with h;subst h;rfl
 |(off,w,o)::r,l,h=>by
  simp only[tpc]at h;split at h
  ·rename_i v hv;split at h
   ·rename_i c hc;split at h
    ·rename_i q hq;injection h with h;subst h;have ih:=JvD hq;simp only[erP,J1q,J5H,run_bind,J0w hv,J07,JhN (lns s.sto) hc];simp_all [erP]
    ·cases h
   ·cases h
  ·cases h
theorem JDM{s:TSt}: ∀{parts:List (Nat×Ty×TO)} {l:List (Nat×(w:Ty)×w.D)},tpv parts s=some l->
  (J5H (erP parts)).run (Jy s)=some (l.map λx=>(x.1,x.2.1.sz,(cel x.2.1 x.2.2).map .p))
 |[],l,h=>by injection h with h;subst h;rfl
 |(off,w,o)::r,l,h=>by
  simp only[tpv]at h;split at h
  ·rename_i v hv;split at h
   ·rename_i z hz;split at h
    ·rename_i ha;split at h
     ·rename_i q hq;injection h with h;subst h;have ih:=JDM hq;simp only[erP,J1q,J5H,run_bind,J0w hv,J07,Ji0 (lns s.sto) hz ha];simp_all [erP]
     ·cases h
    ·cases h
   ·cases h
  ·cases h
theorem Jtr{t:Ty}: ∀{l:List (Nat×(w:Ty)×w.D)} {x:t.D} {k:t.D->Option R} {r:R},Jta t x l k=some r->
  ∃y,J6N (l.map λx=>(x.1,x.2.1.sz,(cel x.2.1 x.2.2).map .p)) ((cel t x).map .p)=some ((cel t y).map .p)/\k y=some r
 |[],x,k,r,h=>⟨x,rfl,h⟩
 |(off,⟨w,z⟩)::q,x,k,r,h=>by
  simp only[Jta]at h;obtain⟨e,h1,h2⟩:=Jbg h;obtain⟨y,h3,h4⟩:=Jtr h2
  grind [J6N,J22,Jb8,spo]
theorem Jk0(L:Nat->Nat): ∀{l:List (Nat×Nat×List TC)} {cs cs':List TC},Jn5 l cs=some cs'->
  J6N (l.map λx=>(x.1,x.2.1,x.2.2.map (J0u L))) (cs.map (J0u L))=some (cs'.map (J0u L))
 |[],cs,cs',h=>by injection h with h;subst h;rfl
 |(off,n,c)::q,cs,cs',h=>by
  simp only[Jn5]at h;split at h
  ·rename_i hn;split at h
   ·rename_i e hs;simp only[J1q,J6N,J6y,hn,if_true,Jb8,hs,J3n];exact Jk0 L h
   ·cases h
  ·cases h
def Jvj(t:Ty)(parts:List (Nat×Ty×TO))(d:Option Nat)(s:TSt)(k:TSt->Option R):Option R:=
 match tpv parts s with
 |some l=>Jta t t.zero l λy=>k (J0K d (.a (.dt t y)) s)
 |none=>match tpc parts s with
  |some l=>match Jn5 l (zcs t)with
   |some cs'=>match mka true t cs' with
    |some v=>k (J0K d v s)
    |none=>none
   |none=>none
  |none=>none
theorem JDk(F:Orc)(new:Nat){t:Ty}{parts:List (Nat×Ty×TO)}{d:Option Nat}{s:TSt}{k:TSt->Option R}{r:R}(h:Jvj t parts d s k=some r):Ok (opR F (.build (cel t t.zero) (erP parts)) new) d s k r:=by
 unfold Jvj at h;split at h
 ·rename_i l hl;obtain⟨y,h1,h2⟩:=Jtr h;refine J29 (v:=.a (.dt t y)) ?_ h2;simp only[opR,run_bind,JDM hl,J07,h1,JjI,val,JZ];rfl
 ·split at h
  ·rename_i l hl;split at h
   ·rename_i cs' hf;split at h
    ·rename_i v hv;refine J29 (v:=v) ?_ h;simp only[opR,run_bind,JvD hl,J07,<-Jf9 (lns s.sto) t,Jk0 (lns s.sto) hf,Jfm (lns s.sto) hv,val,JZ]
    ·cases h
   ·cases h
  ·cases h
def Jvf(agg:Bool)(off:Nat)(t:Ty)(v:TV)(d:Option Nat)(s:TSt)(k:TSt->Option R):Option R:=
 if agg=true\/t.sz=1 then
  match v with
  | .a (.dt t0 x)=>prt t0 x off [] t λy=>k (J0K d (mkv agg t y) s)
  | .a (.m _ cs)=>match sub cs off t.sz with
   |some l=>match mka agg t l with
    |some v=>k (J0K d v s)
    |none=>none
   |none=>none
  |_=>none
 else none
theorem JCX{agg:Bool}{off:Nat}{t:Ty}{v:TV}{d:Option Nat}{s:TSt}{k:TSt->Option R}{r:R}(h:Jvf agg off t v d s k=some r):Ok (val (J9f agg off t.sz (J05 (lns s.sto) v))) d s k r:=by
 unfold Jvf at h;split at h
 ·rename_i ha;split at h
  ·rename_i t0 x;obtain⟨y,h1,h2⟩:=J9U h;refine J29 (v:=mkv agg t y) ?_ h2
   grind [spo,JFz,J9f,JfG,val,JZ]
  ·rename_i cs;split at h
   ·rename_i l hl;split at h
    ·rename_i v hv;refine J29 (v:=v) ?_ h
     grind [e_m,J9f,Jb1,Jfm,val,JZ]
    ·cases h
   ·cases h
  ·cases h
 ·cases h
end
end Go.Am
end
section
namespace Go.Am
section
variable {R:Type}
theorem Job{α:Type} [BEq α] [LawfulBEq α] [DecidableEq α](x y:α):(x==y)=decide (x=y):=by
 grind
def Vl(m:Option AV)(s:TSt)(kk:TV->Option R)(r:R):Prop:= ∃v,m=some (J05 (lns s.sto) v)/\kk v=some r
theorem Vl.ok{m:Option AV}{d:Option Nat}{s:TSt}{k:TSt->Option R}{r:R}(h:Vl m s (λv=>k (J0K d v s)) r):Ok (val m) d s k r:=by obtain⟨v,h1,h2⟩:=h;refine J29 (v:=v) ?_ h2;rw[h1];rfl
def JFM(op:BinOp)(k:IntKind)(a c:Int)(kk:TV->Option R):Option R:=
 match op with
 | .add=>kk (vi k (J1 k a c))
 | .sub=>kk (vi k (JH k a c))
 | .mul=>kk (vi k (J2u k a c))
 | .quo=>(JIo k a c).bind λq=>kk (vi k q)
 | .rem=>(Jgn a c).bind λq=>kk (vi k q)
 | .and=>kk (vi k (JtL k a c))
 | .or=>kk (vi k (orI k a c))
 | .xor=>kk (vi k (JeP k a c))
 | .eql=>kk (vb (eqI a c))
 | .neq=>kk (vb (neI a c))
 | .lss=>kk (vb (ltI a c))
 | .leq=>kk (vb (leI a c))
 | .gtr=>kk (vb (gtI a c))
 | .geq=>kk (vb (geI a c))
 |_=>none
def JEl(op:BinOp)(a c:List UInt8)(kk:TV->Option R):Option R:=
 match op with
 | .add=>(J5B a c).bind λq=>kk (vs q)
 | .eql=>kk (vb (eqS a c))
 | .neq=>kk (vb (neS a c))
 | .lss=>kk (vb (ltS a c))
 | .leq=>kk (vb (leS a c))
 | .gtr=>kk (vb (gtS a c))
 | .geq=>kk (vb (geS a c))
 |_=>none
inductive TBT where
 |plain
 |bool
 |flat (t:Ty)
 |nilp
 |nilf
def erT:TBT->BT
 | .plain=>.plain
 | .bool=>.bool
 | .flat t=>.flat (t.ks.getD [])
 | .nilp=>.nilp
 | .nilf=>.nilf
def JbN(op:BinOp)(x:Bool)(kk:TV->Option R):Option R:=
 match op with
 | .eql=>kk (vb x)
 | .neq=>kk (vb (Jr x))
 |_=>none
def JEV(op:BinOp)(bt:TBT)(x y:TV)(kk:TV->Option R):Option R:=
 match bt with
 | .plain=>match x,y with
  | .a (.c (.d (.i k) a)),.a (.c (.d (.i k') c))=>match op with
   | .shl=>(JgL k a c).bind λq=>kk (vi k q)
   | .shr=>(Jg8 k a c).bind λq=>kk (vi k q)
   |_=>if k=k' then JFM op k a c kk else none
  | .a (.c (.d .s a)),.a (.c (.d .s c))=>JEl op a c kk
  |_,_=>none
 | .bool=>match x,y with
  | .a (.c (.d .b a)),.a (.c (.d .b c))=>JbN op (eqB a c) kk
  |_,_=>none
 | .flat t=>match x,y with
  | .a (.dt g a),.a (.dt e c)=>if h:g=t/\e=t/\t.ks.isSome=true then JbN op (eqT t (h.1▸a) (h.2.1▸c)) kk else none
  |_,_=>none
 | .nilp=>match x with
  | .a (.c .np)=>JbN op true kk
  | .a (.c (.ptr _ _))=>JbN op false kk
  | .a (.c (.cp _ _ _))=>JbN op false kk
  | .a (.c (.ep _ _ _))=>JbN op false kk
  |_=>none
 | .nilf=>match x with
  | .a (.c .nf)=>JbN op true kk
  | .a (.fn _ _ _)=>JbN op false kk
  | .a (.c (.fn _))=>JbN op false kk
  | .a (.c (.d .f _))=>JbN op true kk
  |_=>none
theorem Jjb{op:BinOp}{x:Bool}{s:TSt}{kk:TV->Option R}{r:R}(h:JbN op x kk=some r):Vl (J8S op (some x)) s kk r:=by
 unfold JbN at h;split at h
 ·exact⟨_,rfl,h⟩
 ·exact⟨_,rfl,h⟩
 ·cases h
theorem JGR{op:BinOp}{k:IntKind}{a c:Int}{s:TSt}{kk:TV->Option R}{r:R}(h:JFM op k a c kk=some r):Vl ((Jl3 op k a c).map .p) s kk r:=by
 unfold JFM at h;split at h<;>first
  |exact⟨_,rfl,h⟩
  |(obtain⟨q,h1,h⟩:=J2K.1 h
    refine⟨_,?_,h⟩
    first|unfold JIo at h1|unfold Jgn at h1
    split at h1
    ·cases h1
    ·rename_i e;injection h1 with h1;simp only[Jl3,if_neg e,h1,J3n,e_i])
  |(refine⟨_,?_,h⟩;simp only[Jl3,Job,J3n,e_b,bne,eqI,neI,ltI,leI,gtI,geI];done)
  |cases h
theorem JI9{op:BinOp}{a c:List UInt8}{s:TSt}{kk:TV->Option R}{r:R}(h:JEl op a c kk=some r):Vl ((JkS op a c).map .p) s kk r:=by
 unfold JEl at h;split at h<;>first
  |(obtain⟨q,h1,h⟩:=J2K.1 h
    refine⟨_,?_,h⟩;unfold J5B at h1;split at h1
    ·rename_i e;injection h1 with h1;simp only[JkS,if_pos e,h1,J3n,e_s]
    ·cases h1)
  |(refine⟨_,?_,h⟩;simp only[JkS,Job,J3n,e_b,eqS,neS,ltS,leS,gtS,geS];done)
  |cases h
theorem JHC{op:BinOp}{bt:TBT}{x y:TV}{s:TSt}{kk:TV->Option R}{r:R}(h:JEV op bt x y kk=some r):Vl (JbS op (erT bt) (J05 (lns s.sto) x) (J05 (lns s.sto) y)) s kk r:=by
 unfold JEV at h;split at h
 ·split at h
  ·rename_i k a k' c;simp only[e_i,erT,JbS];split at h
   ·obtain⟨q,h1,h⟩:=J2K.1 h;unfold JgL at h1;split at h1
    ·cases h1
    ·rename_i e;injection h1 with h1;exact⟨_,by simp_all [e_i],h⟩
   ·obtain⟨q,h1,h⟩:=J2K.1 h;unfold Jg8 at h1;split at h1
    ·cases h1
    ·rename_i e;injection h1 with h1;exact⟨_,by simp_all [e_i],h⟩
   grind [JGR]
  ·exact JI9 h
  ·cases h
 ·split at h
  ·rename_i a c;simp only[e_b,erT,JbS,Job];exact Jjb h
  ·cases h
 ·grind [Option.isSome_iff_exists,JFz,erT,JbS,Jjh,Jjb]
 ·split at h<;>first|exact Jjb h|cases h
 ·split at h<;>first|exact Jjb h|cases h
def tUn(op:UnOp)(x:TV)(kk:TV->Option R):Option R:=
 match op,x with
 | .neg,.a (.c (.d (.i k) n))=>kk (vi k (JLn k n))
 | .xor,.a (.c (.d (.i k) n))=>kk (vi k (JEe k n))
 | .not,.a (.c (.d .b x))=>kk (vb (Jr x))
 |_,_=>none
theorem JJI{op:UnOp}{x:TV}{s:TSt}{kk:TV->Option R}{r:R}(h:tUn op x kk=some r):Vl (unP op (J05 (lns s.sto) x)) s kk r:=by unfold tUn at h;split at h<;>first|exact⟨_,rfl,h⟩|cases h
def tMm(mx:Bool)(x y:TV)(kk:TV->Option R):Option R:=
 match x,y with
 | .a (.c (.d (.i k) a)),.a (.c (.d (.i _) c))=>kk (vi k (if mx=true then J1m a c else JaR a c))
 |_,_=>none
theorem JK2{mx:Bool}{x y:TV}{s:TSt}{kk:TV->Option R}{r:R}(h:tMm mx x y kk=some r):Vl (mmP mx (J05 (lns s.sto) x) (J05 (lns s.sto) y)) s kk r:=by
 unfold tMm at h;split at h
 ·exact⟨_,by cases mx<;>rfl,h⟩
 ·cases h
def tls(t:Ty)(v:TV)(s:TSt):Option (List t.D):=
 match v with
 | .a (.c (.d (.l t') l))=>if h:t'=t then some (h▸l)else none
 | .a (.c (.d .s l))=>if h:t=.i .u8 then some (h▸(toByt l:List (Ty.i .u8).D))else none
 | .a (.c (.slr b))=>match s.sto[b]? with
  |some (.arr _ t' rows)=>if h:t'=t then some (h▸rows)else none
  |_=>none
 |_=>none
theorem Jlx{t:Ty}{v:TV}{s:TSt}{l:List t.D}(h:tls t v s=some l):(J2S t.sz (J05 (lns s.sto) v)).run (Jy s)=some (l.map (cel t)):=by
 unfold tls at h;split at h
 ·grind [e_l,J2S,JZ]
 ·split at h
  ·rename_i e;subst e;injection h with h;subst h
   simp only[e_s,J2S,Ty.sz,if_true,JZ,Jl2];rfl
  ·cases h
 ·rename_i b;split at h
  ·rename_i w t' rows hb;split at h
   ·rename_i e;subst e;injection h with h;subst h
    simp only[J55,J2S,J1H,J1S,hb,J3n,J07,J0E,J5W hb,J6y,JeI,and_self,if_true,JZ,JvY]
   ·cases h
  ·cases h
 ·cases h
def JBr(k:CK)(x:TV)(d:Option Nat)(new:Nat)(s:TSt)(kk:TSt->Option R):Option R:=
 match k with
 | .int k=>match x with
  | .a (.c (.d (.i _) n))=>kk (J0K d (vi k (cvI k n)) s)
  |_=>none
 | .same=>match x with
  | .a (.c (.d .s l))=>kk (J0K d (vs l) s)
  |_=>none
 | .toStr=>match tls (.i .u8) x s with
  |some l=>kk (J0K d (vs (toStr l)) s)
  |none=>none
 | .toBytes own=>match x with
  | .a (.c (.d .s l))=>if own=true then kk (J0K d (.a (.c (.slr new))) (wN new (.arr true (.i .u8) (toByt l)) s))else kk (J0K d (vl (.i .u8) (toByt l)) s)
  |_=>none
theorem JF4(F:Orc){k:CK}{x:TO}{v:TV}{d:Option Nat}{new:Nat}{s:TSt}{kk:TSt->Option R}{r:R}(hx:tev x s=some v)(hn:k=.toBytes true->new<s.sto.length)(h:JBr k v d new s kk=some r):Ok (opR F (.conv k (erO x)) new) d s kk r:=by
 unfold JBr at h;split at h
 ·split at h
  ·refine J29 (v:=vi _ _) ?_ h;simp only[opR,run_bind,J0w hx,J07,e_i,JZ,cvI]
  ·cases h
 ·split at h
  ·refine J29 (v:=vs _) ?_ h
   grind [opR,run_bind,J0w,e_s,JZ]
  ·cases h
 ·split at h
  ·rename_i l hl;refine J29 (v:=vs _) ?_ h;have:=Jlx hl;have e:l.map (cel (.i .u8))=l.map (r_i .u8):=rfl;rw[e]at this;simp only[opR,run_bind,J0w hx,J07,this,Jg9,e_s,JZ,Ty.sz];rw[show(J2S 1 (J05 (lns s.sto) v)).run (Jy s)=some (l.map (r_i .u8))from this];simp[Jg9]
  ·cases h
 ·rename_i own;split at h
  ·rename_i l;split at h
   ·rename_i ho;subst ho;refine JCc (x:=.arr true (.i .u8) (toByt l)) (v:=.a (.c (.slr new))) ?_ h;simp only[opR,run_bind,J0w hx,J07,e_s,if_true,JZ,J55,J0E,Jl2];have e:lns (wN new (TB.arr true (Ty.i IntKind.u8) (toByt l)) s).sto new=l.length:=by
     grind [wN,Jwj,lnB,toByt]
    rw[e];rfl
   ·rename_i ho;have:own=false:=by simpa using ho
    subst this;refine J29 (v:=vl _ _) ?_ h;simp only[opR,run_bind,J0w hx,J07,e_s,J8R,if_false,JZ,e_l,Jl2];rfl
  ·cases h
end
end Go.Am
end
section
namespace Go.Am
section
variable {R:Type}
theorem Jzx(p q:List Sp):spo (p++q)=spo p+spo q:=by
 induction p with
 |nil=>simp[spo]
 |cons x p ih=>cases x<;>simp only[JoD,spo,ih]<;>omega
def JuD(off:Nat)(x:TV)(kk:TV->Option R):Option R:=
 match x with
 | .a (.c (.ptr b p))=>kk (.a (.c (.ptr b (p++[.f off]))))
 | .a (.c (.cp t x p))=>kk (.a (.c (.cp t x (p++[.f off]))))
 | .a (.c (.ep b i p))=>kk (.a (.c (.ep b i (p++[.f off]))))
 |_=>none
theorem JDb{off:Nat}{x:TV}{s:TSt}{kk:TV->Option R}{r:R}(h:JuD off x kk=some r):Vl (JiA off (J05 (lns s.sto) x)) s kk r:=by
 unfold JuD at h;split at h<;>first
  |(refine⟨_,?_,h⟩;simp only[J6Y,JaY,Jb9,JiA,Jzx,spo,JhT];done)
  |cases h
def Jup(len esz:Nat)(x i:TV)(kk:TV->Option R):Option R:=
 match i with
 | .a (.c (.d (.i _) n))=>(inb len n).bind λ_=>match x with
  | .a (.c (.ptr b p))=>kk (.a (.c (.ptr b (p++[.a n.toNat esz]))))
  | .a (.c (.cp t x p))=>kk (.a (.c (.cp t x (p++[.a n.toNat esz]))))
  | .a (.c (.ep b i p))=>kk (.a (.c (.ep b i (p++[.a n.toNat esz]))))
  |_=>none
 |_=>none
theorem JDo{len esz:Nat}{x i:TV}{s:TSt}{kk:TV->Option R}{r:R}(h:Jup len esz x i kk=some r):Vl (JiJ len esz (J05 (lns s.sto) x) (J05 (lns s.sto) i)) s kk r:=by
 unfold Jup at h;split at h
 ·obtain⟨_,h1,h⟩:=J2K.1 h;have e:=JA1 h1;split at h<;>first
   |(refine⟨_,?_,h⟩;simp only[J6Y,JaY,Jb9,e_i,JiJ,if_pos e,Jzx,spo,JhT];done)
   |cases h
 ·cases h
def Jvn(t:Ty)(x i:TV)(s:TSt)(kk:TV->Option R):Option R:=
 match i with
 | .a (.c (.d (.i _) n))=>match x with
  | .a (.c (.d (.l t') l))=>if t'=t then(idx l n).bind λy=>kk (.a (.c (.cp t' y [])))else none
  | .a (.c (.slr b))=>match s.sto[b]? with
   |some (.arr _ t' rows)=>if t'=t then(inb rows.length n).bind λ_=>kk (.a (.c (.ep b n.toNat [])))else none
   |_=>none
  |_=>none
 |_=>none
theorem JCT{t:Ty}{x i:TV}{d:Option Nat}{s:TSt}{k:TSt->Option R}{r:R}(h:Jvn t x i s (λv=>k (J0K d v s))=some r):Ok (J6R t.sz (J05 (lns s.sto) x) (J05 (lns s.sto) i)) d s k r:=by
 unfold Jvn at h;split at h
 ·split at h
  ·split at h
   ·rename_i e;subst e;obtain⟨y,h1,h⟩:=J2K.1 h;refine J29 (v:=.a (.c (.cp _ y []))) ?_ h
    grind [e_l,e_i,JaY,J6R,JCP,JZ,spo]
   ·cases h
  ·rename_i b;split at h
   ·rename_i w t' rows hb;split at h
    ·rename_i e;subst e;obtain⟨_,h1,h⟩:=J2K.1 h;have e:=JA1 h1;refine J29 (v:=.a (.c (.ep b _ []))) ?_ h;simp only[J55,e_i,Jb9,J6R,J1H,J1S,hb,J3n,J07,J0E,J5W hb,J6y,JeI,true_and];rw[if_pos e];rfl
    ·cases h
   ·cases h
  ·cases h
 ·cases h
def JAq(x i:TV)(kk:TV->Option R):Option R:=
 match x,i with
 | .a (.c (.d .s l)),.a (.c (.d (.i _) n))=>(JeT l n).bind λu=>kk (vi .u8 u)
 |_,_=>none
theorem JGv(F:Orc){x i:TO}{g e:TV}{d:Option Nat}{new:Nat}{s:TSt}{k:TSt->Option R}{r:R}(hx:tev x s=some g)(hi:tev i s=some e)(h:JAq g e (λv=>k (J0K d v s))=some r):Ok (opR F (.sidx (erO x) (erO i)) new) d s k r:=by
 unfold JAq at h;split at h
 ·rename_i l k' n;obtain⟨u,h1,h⟩:=J2K.1 h;refine J29 (v:=vi .u8 u) ?_ h;simp only[opR,run_bind,J0w hx,J0w hi,J07,e_s,e_i];unfold JeT at h1;split at h1
  ·rename_i j;rw[if_pos j];split at h1
   all_goals simp_all
  ·cases h1
 ·cases h
def JBW(j:Int)(k:Nat->Option R):Nat->Option R
 |0=>none
 |m+1=>if eqI j m=true then k m else JBW j k m
theorem JzQ{j:Int}{k:Nat->Option R}{r:R}: ∀{n:Nat},JBW j k n=some r-> ∃m,m<n/\j=m/\k m=some r
 |0,h=>by cases h
 |n+1,h=>by
  simp only[JBW]at h;split at h
  ·grind [eqI]
  ·obtain⟨m,h1,h2,h3⟩:=JzQ h
   grind
def JBX(agg:Bool)(len:Nat)(t:Ty)(x i:TV)(d:Option Nat)(s:TSt)(k:TSt->Option R):Option R:=
 if agg=true\/t.sz=1 then
  match x,i with
  | .a (.dt (.ar n t') v),.a (.c (.d (.i _) j))=>if h:t'=t/\n=len then(JGj v j).bind λy=>k (J0K d (mkv agg t (h.1▸y)) s)else none
  | .a (.m _ cs),.a (.c (.d (.i _) j))=>JBW j (λm=>match sub cs (m*t.sz) t.sz with
   |some l=>match mka agg t l with
    |some v=>k (J0K d v s)
    |none=>none
   |none=>none) len
  |_,_=>none
 else none
theorem JFt(F:Orc){agg:Bool}{len:Nat}{t:Ty}{x i:TO}{g e:TV}{d:Option Nat}{new:Nat}{s:TSt}{k:TSt->Option R}{r:R}(hx:tev x s=some g)(hi:tev i s=some e)(h:JBX agg len t g e d s k=some r):
  Ok (opR F (.aidx agg len t.sz (erO x) (erO i)) new) d s k r:=by
 unfold JBX at h;split at h
 ·rename_i ha;split at h
  ·rename_i n t' v k' j;split at h
   ·rename_i o;obtain⟨rfl,rfl⟩:=o;obtain⟨y,h1,h⟩:=J2K.1 h;obtain⟨h2,h3⟩:=JEc h1;refine J29 (v:=mkv agg t' y) ?_ h;simp only[opR,run_bind,J0w hx,J0w hi,J07,JFz,e_i,if_pos h2,J9f]
    grind [cel,JhF,J22,JfG,val,JZ]
   ·cases h
  ·rename_i t0 cs k' j;obtain⟨m,h1,e0,h3⟩:=JzQ h;clear h;subst e0;split at h3
   ·rename_i l hl;split at h3
    ·rename_i v hv;refine J29 (v:=v) ?_ h3;have h2:(0:Int)<=m/\(m:Int)<len:=by omega
     simp only[opR,run_bind,J0w hx,J0w hi,J07,e_m,e_i,if_pos h2,J9f,Int.toNat_natCast,Jb1,hl,J3n,Jfm (lns s.sto) hv,val,JZ]
    ·cases h3
   ·cases h3
  ·cases h
 ·cases h
def JBm(x:TV)(i:Nat)(kk:TV->Option R):Option R:=
 match x with
 | .tup vs=>match vs[i]? with
  |some v=>kk (.a v)
  |none=>none
 |_=>none
theorem JGd{x:TV}{i:Nat}{s:TSt}{kk:TV->Option R}{r:R}(h:JBm x i kk=some r):Vl (JsU i (J05 (lns s.sto) x)) s kk r:=by
 unfold JBm at h;split at h
 ·split at h
  ·rename_i v hv;refine⟨_,?_,h⟩;simp_all [J05]
  ·cases h
 ·cases h
def JEs(str:Bool)(x:TV)(s:TSt)(kk:TV->Option R):Option R:=
 match str,x with
 |true,.a (.c (.d .s l))=>kk (vi .i64 (J0 l))
 |false,.a (.c (.d (.l _) l))=>kk (vi .i64 (J0 l))
 |false,.a (.c (.slr b))=>match s.sto[b]? with
  |some (.arr _ _ rows)=>kk (vi .i64 (J0 rows))
  |_=>none
 |false,.a (.c (.slo _ n))=>kk (vi .i64 n)
 |_,_=>none
theorem JGX{str:Bool}{x:TV}{s:TSt}{kk:TV->Option R}{r:R}(h:JEs str x s kk=some r):Vl (JtJ str (J05 (lns s.sto) x)) s kk r:=by
 unfold JEs at h;split at h
 ·exact⟨_,rfl,h⟩
 ·exact⟨_,by simp[e_l,e_i,J0],h⟩
 ·split at h
  ·rename_i hb;exact⟨_,by grind [J55,JtJ,J5W,e_i,J0],h⟩
  ·cases h
 ·exact⟨_,rfl,h⟩
 ·cases h
theorem JnE{s:TSt}{new:Nat}(hn:new<s.sto.length){w:Bool}{t:Ty}{rows:List t.D}:lns (wN new (TB.arr w t rows) s).sto new=rows.length:=by unfold wN;rw[Jwj (by simpa using hn)];rfl
theorem Jlw{m:RM Eff}{d:Option Nat}{s:TSt}{k:TSt->Option R}{r:R}{new:Nat}{t:Ty}{rows:List t.D}(hn:new<s.sto.length)
  (hm:m.run (Jy s)=some ⟨.slr new 0 rows.length,[(new,.arr true t.sz (rows.map (cel t)))]⟩) (h:k (J0K d (.a (.c (.slr new))) (wN new (.arr true t rows) s))=some r):Ok m d s k r:=by
 refine JCc (x:=.arr true t rows) (v:=.a (.c (.slr new))) ?_ h;rw[hm,J55,JnE hn];rfl
def Jl4(own:Bool)(t:Ty)(bytes:Nat)(l c:TV)(d:Option Nat)(new:Nat)(s:TSt)(k:TSt->Option R):Option R:=
 match l,c with
 | .a (.c (.d (.i _) n)),.a (.c (.d (.i _) m))=>(mkS bytes n m t.zero).bind λrows=>
  if own=true then k (J0K d (.a (.c (.slr new))) (wN new (.arr true t rows) s))else k (J0K d (vl t rows) s)
 |_,_=>none
theorem Jyy(F:Orc){own:Bool}{t:Ty}{bytes:Nat}{l c:TO}{e g:TV}{d:Option Nat}{new:Nat}{s:TSt}{k:TSt->Option R}{r:R}(hl:tev l s=some e)(hc:tev c s=some g)(hn:own=true->new<s.sto.length)
  (h:Jl4 own t bytes e g d new s k=some r):Ok (opR F (.mkslice own t.sz bytes (cel t t.zero) (erO l) (erO c)) new) d s k r:=by
 unfold Jl4 at h;split at h
 ·obtain⟨rows,h1,h3⟩:=J2K.1 h;obtain⟨h2,rfl⟩:=JHT h1;clear h;split at h3
  ·rename_i ho;subst ho;refine Jlw (hn rfl) ?_ h3;simp only[opR,run_bind,J0w hl,J0w hc,J07,e_i,if_pos h2,if_true,JZ,Jni,JC9]
  ·rename_i ho;have:own=false:=by simpa using ho
   subst this;refine J29 (v:=vl t _) ?_ h3;simp only[opR,run_bind,J0w hl,J0w hc,J07,e_i,if_pos h2,J8R,if_false,JZ,e_l,JC9]
 ·cases h
def JC4(t:Ty)(bytes:Nat)(x y:TV)(d:Option Nat)(s:TSt)(k:TSt->Option R):Option R:=
 match x with
 | .a (.c (.slr b))=>match s.sto[b]? with
  |some (.arr w t' rows)=>if h:t'=t then
   match tls t' y s with
   |some l=>(JA bytes rows l).bind λm=>k (J0K d (.a (.c (.slr b))) (wN b (.arr w t' m) s))
   |none=>none
   else none
  |_=>none
 |_=>none
theorem JA5{t:Ty}{bytes:Nat}{x y:TV}{d:Option Nat}{s:TSt}{k:TSt->Option R}{r:R}(h:JC4 t bytes x y d s k=some r):Ok (J8b t.sz bytes (J05 (lns s.sto) x) (J05 (lns s.sto) y)) d s k r:=by
 unfold JC4 at h;split at h
 ·rename_i b;split at h
  ·rename_i w t' rows hb;split at h
   ·rename_i g;subst g;split at h
    ·rename_i l hl;obtain⟨m,h1,h⟩:=J2K.1 h;refine JCc (x:=.arr w t' m) (v:=.a (.c (.slr b))) ?_ h;have e:(Jy s).sto[b]?=some (.arr w t'.sz (rows.map (cel t'))):=by rw[J1S,hb];rfl
     have:=JHJ h1 e (Jlx hl);rw[J55,J5W hb,this,J55,JnE (Jw hb)];rfl
    ·cases h
   ·cases h
  ·cases h
 ·cases h
def JBR(t:Ty)(bytes:Nat)(y:TV)(d:Option Nat)(new:Nat)(s:TSt)(k:TSt->Option R):Option R:=
 match tls t y s with
 |some l=>(J1J bytes l).bind λm=>k (J0K d (.a (.c (.slr new))) (wN new (.arr true t m) s))
 |none=>none
theorem JED(F:Orc){t:Ty}{bytes:Nat}{z:List PV}{y:TO}{e:TV}{d:Option Nat}{new:Nat}{s:TSt}{k:TSt->Option R}{r:R}(hy:tev y s=some e)(hn:new<s.sto.length)(h:JBR t bytes e d new s k=some r):Ok (opR F (.appn t.sz bytes z (erO y)) new) d s k r:=by
 unfold JBR at h;split at h
 ·rename_i l hl;obtain⟨m,h1,h3⟩:=J2K.1 h;obtain⟨h2,rfl⟩:=JE8 h1;refine Jlw hn ?_ h3;simp only[opR,run_bind,J0w hy,J07,Jlx hl,J6y,h2,if_true,JZ]
 ·cases h
def JBT(t:Ty)(bytes:Nat)(x y:TV)(d:Option Nat)(s:TSt)(k:TSt->Option R):Option R:=
 match y with
 | .a (.c (.d (.i _) n))=>if 0<=n then JC4 t bytes x (vl t (List.replicate n.toNat t.zero)) d s k else none
 |_=>none
theorem JFq(F:Orc){t:Ty}{bytes:Nat}{x y:TO}{g j:TV}{d:Option Nat}{new:Nat}{s:TSt}{k:TSt->Option R}{r:R}(hx:tev x s=some g)(hy:tev y s=some j)(h:JBT t bytes g j d s k=some r):Ok (opR F (.appz t.sz bytes (cel t t.zero) (erO x) (erO y)) new) d s k r:=by
 unfold JBT at h;split at h
 ·rename_i n;split at h
  ·rename_i o;obtain⟨e,s',h1,h2,h3⟩:=JA5 h;refine⟨e,s',?_,h2,h3⟩;simp only[opR,run_bind,J0w hx,J0w hy,J07,e_i,zrs,if_pos o];simp_all [e_l]
  ·cases h
 ·cases h
def JBd(t:Ty)(bytes:Nat)(x y:TV)(d:Option Nat)(new:Nat)(s:TSt)(k:TSt->Option R):Option R:=
 match x with
 | .a (.c (.sc t' rows))=>if h:t'=t then
   match tls t' y s with
   |some l=>(JJu bytes rows l).bind λm=>k (J0K d (.a (.c (.slr new))) (wN new (.arr true t' m) s))
   |none=>none
  else none
 |_=>none
theorem JFj(F:Orc){t:Ty}{bytes:Nat}{z:List PV}{x y:TO}{e g:TV}{d:Option Nat}{new:Nat}{s:TSt}{k:TSt->Option R}{r:R}(hx:tev x s=some e)(hy:tev y s=some g)(hn:new<s.sto.length)(h:JBd t bytes e g d new s k=some r):
  Ok (opR F (.appc t.sz bytes z (erO x) (erO y)) new) d s k r:=by
 unfold JBd at h;split at h
 ·rename_i t' rows;split at h
  ·rename_i j;subst j;split at h
   ·rename_i l hl;obtain⟨m,h1,h⟩:=J2K.1 h;unfold JJu at h1;split at h1
    ·rename_i h2;injection h1 with h1;subst h1;refine Jlw hn ?_ h;simp only[opR,run_bind,J0w hx,J0w hy,J07];show(Jvx t'.sz bytes (.p (.slc t'.sz (rows.map (cel t')))) _ new).run _=_
     grind [Jvx,run_bind,Jlx,JZ]
    ·cases h1
   ·cases h
  ·cases h
 ·cases h
def tbn(x:Option TO)(s:TSt):Option (Option (IntKind×Int)):=
 match x with
 |none=>some none
 |some o=>match tev o s with
  |some (.a (.c (.d (.i k) n)))=>some (some (k,n))
  |_=>none
def bv(x:Option (IntKind×Int)):Option AV:=x.map λy=>.p (.i y.1 y.2)
theorem JfK{x:Option TO}{s:TSt}{y:Option (IntKind×Int)}(h:tbn x s=some y):(evo (x.map erO)).run (Jy s)=some (bv y):=by
 cases x with
 |none=>injection h with h;subst h;rfl
 |some o=>
  simp only[tbn]at h;split at h
  ·rename_i k n ho;injection h with h;subst h;simp only[J3n,evo,run_bind,J0w ho,J07,JZ,bv,e_i]
  ·cases h
theorem JJE(x:Option (IntKind×Int))(top d:Nat):J6H (bv x) top d=Jgi (x.map (·.2)) top d:=by cases x<;>rfl
theorem JDe(n:Nat)(lo hi:Option (IntKind×Int)):Ji8 n (bv lo) (bv hi)=JeM n (lo.map (·.2)) (hi.map (·.2)):=by
 grind [Ji8,JeM,JJE]
inductive TSK where
 |str
 |sl (t:Ty)
def erK:TSK->SK
 | .str=>.str
 | .sl t=>.sl t.sz
def JG6(t:Ty)(x:TV)(s:TSt)(kk:List t.D->TSt->Option R):Option R:=
 match x with
 | .a (.c (.d (.l t') l))=>if h:t'=t then kk (h▸l) s else none
 | .a (.c (.slr b))=>match s.sto[b]? with
  |some (.arr _ t' rows)=>if h:t'=t then kk (h▸rows) (wS b (.arr false t' rows) s)else none
  |_=>none
 |_=>none
theorem JHL{t:Ty}{x:TV}{s:TSt}{kk:List t.D->TSt->Option R}{r:R}(h:JG6 t x s kk=some r):
  ∃l s' ws,Fzd s s' ws/\kk l s'=some r/\((J05 (lns s.sto) x=.p (.sl t.sz (l.map (cel t)))/\ws=[])\/
   ∃b,J05 (lns s.sto) x=.slr b 0 l.length/\(fz (.slr b 0 l.length)).run (Jy s)=some ([.sl t.sz (l.map (cel t))],ws)):=by
 unfold JG6 at h;split at h
 ·grind [Fzd.refl,e_l]
 ·rename_i b;split at h
  ·rename_i w t' rows hb;split at h
   ·rename_i e;subst e;refine⟨_,_,_,Jp4 hb,h,.inr ⟨b,by rw[J55,J5W hb],?_⟩⟩;simp_all [J1S,J0E]
   ·cases h
  ·cases h
 ·cases h
def Jxg(e:TSK)(x:TV)(lo hi mx:Option (IntKind×Int))(d:Option Nat)(s:TSt)(k:TSt->Option R):Option R:=
 match e with
 | .str=>match x,mx with
  | .a (.c (.d .s l)),none=>(J0s l (lo.map (·.2)) (hi.map (·.2))).bind λq=>k (J0K d (vs q) s)
  |_,_=>none
 | .sl t=>JG6 t x s λl s1=>match mx with
  |none=>(J0s l (lo.map (·.2)) (hi.map (·.2))).bind λq=>k (J0K d (vl t q) s1)
  |some (_,n)=>match lo,hi with
   |none,some (_,h)=>if h=l.length/\n=l.length then k (J0K d (.a (.c (.sc t l))) s1)else none
   |_,_=>none
theorem Jzu{α:Type}{l q:List α}{lo hi:Option Int}(h:J0s l lo hi=some q): ∃c,JeM l.length lo hi=some c/\q=(l.drop c.1).take (c.2-c.1):=by
 grind [J0s]
theorem JDd(F:Orc){n:TSK}{x:TO}{j:TV}{lo hi mx:Option TO}{l g m:Option (IntKind×Int)}{d:Option Nat}{new:Nat}{s:TSt}{k:TSt->Option R}{r:R}(hx:tev x s=some j)(hl:tbn lo s=some l)(o:tbn hi s=some g)(hm:tbn mx s=some m)
  (h:Jxg n j l g m d s k=some r):Ok (opR F (.slice (erK n) (erO x) (lo.map erO) (hi.map erO) (mx.map erO)) new) d s k r:=by
 unfold Jxg at h;split at h
 ·split at h
  ·rename_i l0;obtain⟨q,h1,h⟩:=J2K.1 h;obtain⟨c,hc,rfl⟩:=Jzu h1;refine J29 (v:=vs _) ?_ h;have e0:bv none=none:=rfl;simp only[opR,run_bind,J0w hx,JfK hl,JfK o,JfK hm,J07,e_s,erK,e0,J5z,Jbz,val,JDe,hc,JZ]
  ·cases h
 ·rename_i t;obtain⟨y,s1,ws,f,h,hv⟩:=JHL h
  have e: ∀(res:AV),J5z (.sl t.sz) (.p (.sl t.sz (y.map (cel t)))) (bv l) (bv g) (bv m)=some res->
    (opR F (.slice (erK (.sl t)) (erO x) (lo.map erO) (hi.map erO) (mx.map erO)) new).run (Jy s)=some ⟨res,ws⟩:=by
   intro res hr;simp only[opR,run_bind,J0w hx,JfK hl,JfK o,JfK hm,J07,erK]
   grind [val,JZ,run_bind]
  split at h
  ·obtain⟨q,h2,h⟩:=J2K.1 h;obtain⟨c,hc,rfl⟩:=Jzu h2;refine Jwp (v:=vl t _) f (e _ ?_) h
   grind [bv,J5z,JbF,JDe,e_l,List.map_take,List.map_drop]
  ·split at h
   ·split at h
    ·rename_i w;refine Jwp (v:=.a (.c (.sc t y))) f (e _ ?_) h;simp only[bv,Option.map_none,J3n,J5z,JsW,J6y,w,and_self,if_true];rfl
    ·cases h
   ·cases h
end
end Go.Am
end
section
namespace Go.Am
section
variable {R:Type}
def JCq(t:Ty):List (Nat×TO)->TSt->TSt->(List (Nat×t.D)->TSt->Option R)->Option R
 |[],_,s,k=>k [] s
 |(i,o)::r,s0,s,k=>match tev o s0 with
  |some v=>tfz t v s λz s'=>JCq t r s0 s' λl e=>k ((i,z)::l) e
  |none=>none
theorem Jzg{t:Ty}: ∀{parts:List (Nat×TO)} {s0 s:TSt} {w0:List (Nat×Blk)} {k:List (Nat×t.D)->TSt->Option R} {r:R},Fzd s0 s w0->JCq t parts s0 s k=some r->
  ∃l s' ws,(fzs (parts.map λx=>erO x.2)).run (Jy s0)=some (l.map λx=>cel t x.2,ws)/\Fzd s0 s' (w0++ws)/\l.map (·.1)=parts.map (·.1)/\k l s'=some r
 |[],s0,s,w0,k,r,f,h=>⟨[],s,[],rfl,by simp_all,rfl,h⟩
 |(i,o)::q,s0,s,w0,k,r,f,h=>by
  simp only[JCq]at h;split at h
  ·rename_i v hv;obtain⟨z,s1,w1,h1,e,h⟩:=JDx f h;obtain⟨l,g,w2,h2,j,h3,h⟩:=Jzg e h;refine⟨(i,z)::l,g,w1++w2,?_,by simp_all,by simp[h3],h⟩;simp only[J1q,fzs,run_bind,J0w hv,J07,h1,h2,JZ]
  ·cases h
def JlV{α:Type}:List (Nat×α)->List α->Option (List α)
 |[],rows=>some rows
 |(i,c)::r,rows=>if i<rows.length then JlV r (rows.set i c)else none
theorem JpQ{t:Ty}: ∀{l:List (Nat×t.D)} {rows rows':List t.D},JlV l rows=some rows'->
  J9L t.sz ((l.map (·.1)).zip (l.map λx=>cel t x.2)) (rows.map (cel t))=some (rows'.map (cel t))/\rows'.length=rows.length
 |[],rows,rows',h=>by injection h with h;simp_all
 |(i,c)::q,rows,rows',h=>by
  simp only[JlV]at h;split at h
  ·rename_i e;obtain⟨h1,h2⟩:=JpQ h;simp_all [J22]
  ·cases h
def JBg(own:Bool)(t:Ty)(n:Nat)(parts:List (Nat×TO))(d:Option Nat)(new:Nat)(s:TSt)(k:TSt->Option R):Option R:=
 JCq t parts s s λl s1=>match JlV l (List.replicate n t.zero)with
  |some rows=>if own=true then k (J0K d (.a (.c (.slr new))) (wN new (.arr true t rows) s1))else k (J0K d (vl t rows) s1)
  |none=>none
theorem JES(F:Orc){own:Bool}{t:Ty}{n:Nat}{parts:List (Nat×TO)}{d:Option Nat}{new:Nat}{s:TSt}{k:TSt->Option R}{r:R}(hn:own=true->new<s.sto.length)
  (h:JBg own t n parts d new s k=some r):Ok (opR F (.lits own t.sz n (cel t t.zero) (parts.map λx=>(x.1,erO x.2))) new) d s k r:=by
 unfold JBg at h;obtain⟨l,s1,ws,h1,f,h2,h3⟩:=Jzg (Fzd.refl s) h;rw[JhY]at f;clear h;split at h3
 ·rename_i rows hp;obtain⟨q1,q2⟩:=JpQ hp;rw[Jni]at q2;rw[JC9]at q1;have e1:(parts.map λx=>(x.1,erO x.2)).map (·.2)=parts.map λx=>erO x.2:=by simp
  have e2:(parts.map λx=>(x.1,erO x.2)).map (·.1)=l.map (·.1):=by rw[h2];simp
  split at h3
  ·rename_i ho;subst ho;have e:new<s1.sto.length:=by
    have:=congrArg (λst=>st.sto.length) f.2.2.1
    grind [Jy,Jbc]
   refine⟨⟨J05 (lns (wN new (.arr true t rows) s1).sto) (.a (.c (.slr new))),ws++[(new,.arr true t.sz (rows.map (cel t)))]⟩,_,?_,J99 ?_ d _,h3⟩
   ·grind [J55,JnE,opR,run_bind,JZ]
   ·rw[JGE,f.2.2.1,J21];rfl
  ·rename_i ho;have:own=false:=by simpa using ho
   subst this;refine Jwp (v:=vl t rows) f ?_ h3
   grind [opR,run_bind,JZ,e_l]
 ·cases h3
def J9A(s:TSt):Nat->Nat->Bool
 |_,0=>true
 |new,k+1=>(match s.sto[new]? with
  |some .dead=>true
  |_=>false)&&J9A s (new+1) k
theorem JvJ{s:TSt}: ∀{k new:Nat},J9A s new k=true->(Jcp new k).run (Jy s)=some ()
 |0,_,_=>rfl
 |k+1,new,h=>by
  simp only[J9A,J04]at h;obtain⟨h1,h2⟩:=h;split at h1
  ·rename_i hd;simp only[Jcp,J1H,J1S,hd,J3n,J07,J0E];exact JvJ h2
  ·cases h1
theorem J8a{s:TSt}: ∀{k new:Nat},J9A s new k=true-> ∀j,j<k->s.sto[new+j]?=some .dead
 |0,_,_,j,hj=>by omega
 |k+1,new,h,j,hj=>by
  simp only[J9A,J04]at h;obtain⟨h1,h2⟩:=h;cases j with
  |zero=>
   grind
  |succ j=>
   have:=J8a h2 j (by omega)
   grind
theorem JoQ{m:RM Eff}{d:Option Nat}{s:TSt}{k:TSt->Option R}{r:R}{new:Nat}{x:TB}(hd:s.sto[new]?=some .dead)(e:lnB x=0)
  (hm:m.run (Jy s)=some ⟨.ptr new 0,[(new,J0E (lns s.sto) x)]⟩) (h:k (J0K d (.a (.c (.ptr new []))) (wS new x s))=some r):Ok m d s k r:=by
 refine Jmz (x:=x) (v:=.a (.c (.ptr new []))) (e.trans (J9K hd).symm) ?_ h;rw[hm];rfl
def Jzj(t:Ty)(d:Option Nat)(new:Nat)(s:TSt)(k:TSt->Option R):Option R:=k (J0K d (.a (.c (.ptr new []))) (wS new (.box t t.zero) s))
theorem JAD(F:Orc){t:Ty}{d:Option Nat}{new:Nat}{s:TSt}{k:TSt->Option R}{r:R}(hd:s.sto[new]?=some .dead)(h:Jzj t d new s k=some r):Ok (opR F (.newbox (cel t t.zero)) new) d s k r:=
 JoQ hd (x:=.box t t.zero) rfl rfl h
def JFH(t:Ty)(x:TV)(d:Option Nat)(new:Nat)(s:TSt)(k:TSt->Option R):Option R:=
 match tdv t x with
 |some z=>if agv x=true\/t.sz=1 then k (J0K d (.a (.c (.ptr new []))) (wS new (.box t z) s))else none
 |none=>match tcs x with
  |some cs=>if cs.length=t.sz then k (J0K d (.a (.c (.ptr new []))) (wS new (.mbox t cs) s))else none
  |none=>none
theorem JGZ(F:Orc){t:Ty}{x:TO}{v:TV}{d:Option Nat}{new:Nat}{s:TSt}{k:TSt->Option R}{r:R}(hd:s.sto[new]?=some .dead)(hx:tev x s=some v)(h:JFH t v d new s k=some r):Ok (opR F (.box t.sz (erO x)) new) d s k r:=by
 unfold JFH at h;split at h
 ·rename_i z hz;split at h
  ·rename_i ha;refine JoQ hd (x:=.box t z) rfl ?_ h;simp only[opR,run_bind,J0w hx,J07,Ji0 (lns s.sto) hz ha,J6y,J22,if_true,JZ,J0E]
  ·cases h
 ·split at h
  ·rename_i cs hc;split at h
   ·rename_i hn;refine JoQ hd (x:=.mbox t cs) rfl ?_ h;simp only[opR,run_bind,J0w hx,J07,JhN (lns s.sto) hc,J6y,hn,if_true,JZ,J0E]
   ·cases h
  ·cases h
def Jan:List (Nat×Ty)->Nat->TSt->TSt
 |[],_,s=>s
 |(_,t)::r,n,s=>Jan r (n+1) (wS n (.arr true t []) s)
def JkE:List (Nat×Ty)->Nat->List TC->List TC
 |[],_,cs=>cs
 |(off,_)::r,n,cs=>JkE r (n+1) (cs.set off (.slr n))
def Jah(os:List (Nat×Ty)):List (Nat×Nat):=os.map λx=>(x.1,x.2.sz)
theorem JkT: ∀{os:List (Nat×Ty)} {new:Nat} {s:TSt},(∀j,j<os.length->s.sto[new+j]?=some .dead)->
  lns (Jan os new s).sto=lns s.sto/\Jy (Jan os new s)=⟨(Jy s).env,upd (J56 (Jah os) new) (Jy s).sto⟩/\(∀b,(∀j,j<os.length->b≠new+j)->(Jan os new s).sto[b]?=s.sto[b]?)
 |[],_,s,_=>⟨rfl,rfl,λ_ _=>rfl⟩
 |(off,t)::q,new,s,h=>by
  have hd:s.sto[new]?=some .dead:=h 0 (by simp);have hl:lnB (.arr true t [])=lns s.sto new:=(J9K hd).symm;have e:=Jf7 hl;have ho: ∀c,c≠new->(wS new (.arr true t []) s).sto[c]?=s.sto[c]?:=λc hc=>by grind [wS]
  obtain⟨h1,h2,h3⟩:=JkT (os:=q) (new:=new+1) (s:=wS new (.arr true t []) s) (λj hj=>by
   rw[ho _ (by omega)];have:=h (j+1) (by simp;omega)
   grind)
  refine⟨h1.trans e,?_,λb hb=>?_⟩
  ·simp only[Jan];rw[h2,Jgv hl];simp only[Jah,J1q,J56];rfl
  ·simp only[Jan];rw[h3 b (λj hj=>by have:=hb (j+1) (by simp;omega);omega),ho b (by have:=hb 0 (by simp);omega)]
theorem Jna{L:Nat->Nat}: ∀{os:List (Nat×Ty)} {new:Nat} {cs:List TC},(∀j,j<os.length->L (new+j)=0)->(JkE os new cs).map (J0u L)=Jb6 (Jah os) new (cs.map (J0u L))
 |[],_,_,_=>rfl
 |(off,t)::q,new,cs,h=>by
  simp only[JkE,Jah,J1q,Jb6];rw[Jna (os:=q) (new:=new+1) (λj hj=>by have:=h (j+1) (by simp;omega);grind),List.map_set];have:J0u L (.slr new)=.slr new 0 0:=by simp only[J0u];rw[show L new=0 from h 0 (by simp)]
  rw[this];rfl
def Jk5(t:Ty)(os:List (Nat×Ty))(d:Option Nat)(new:Nat)(s:TSt)(k:TSt->Option R):Option R:=k (J0K d (.a (.c (.ptr (new+os.length) []))) (wS (new+os.length) (.mbox t (JkE os new (zcs t))) (Jan os new s)))
theorem Jyw(F:Orc){t:Ty}{os:List (Nat×Ty)}{d:Option Nat}{new:Nat}{s:TSt}{k:TSt->Option R}{r:R}(hd:J9A s new (os.length+1)=true)(h:Jk5 t os d new s k=some r):
  Ok (opR F (.newboxo (cel t t.zero) (Jah os)) new) d s k r:=by
 unfold Jk5 at h;generalize hc:zcs t=cs at h
 ·have g:=J8a hd;obtain⟨h1,h2,h3⟩:=JkT (os:=os) (new:=new) (s:=s) (λj hj=>g j (by omega));have hl:lnB (.mbox t (JkE os new cs))=lns (Jan os new s).sto (new+os.length):=by rw[h1,J9K (g os.length (by omega))];rfl
  have e:=Jf7 hl;have el:(Jah os).length=os.length:=by simp[Jah]
  refine⟨⟨J05 (lns (wS (new+os.length) (.mbox t (JkE os new cs)) (Jan os new s)).sto) (.a (.c (.ptr (new+os.length) []))),J56 (Jah os) new++[(new+os.length,.box (Jb6 (Jah os) new ((cel t t.zero).map .p)))]⟩,_,?_,J99 ?_ d _,h⟩
  ·simp only[opR,JZ,el];rfl
  ·rw[Jgv hl,h2,J21];simp only[J0E];rw[Jna (λj hj=>by rw[h1];grind [J9K]),<-hc,Jf9];rfl
def Jnh(t:Ty)(parts:List (Nat×Ty×TO))(os:List (Nat×Ty))(d:Option Nat)(new:Nat)(s:TSt)(k:TSt->Option R):Option R:=
 match tpc parts s with
 |some l=>match Jn5 l (JkE os new (zcs t))with
  |some cs'=>match mka true t cs' with
   |some v=>k (J0K d v (Jan os new s))
   |none=>none
  |none=>none
 |none=>none
theorem JAz(F:Orc){t:Ty}{parts:List (Nat×Ty×TO)}{os:List (Nat×Ty)}{d:Option Nat}{new:Nat}{s:TSt}{k:TSt->Option R}{r:R}(hd:J9A s new os.length=true)(h:Jnh t parts os d new s k=some r):
  Ok (opR F (.buildo (cel t t.zero) (erP parts) (Jah os)) new) d s k r:=by
 unfold Jnh at h;split at h
 ·rename_i l hl;have e:=J8a hd;obtain⟨h1,h2,h3⟩:=JkT (os:=os) (new:=new) (s:=s) (λj hj=>e j (by omega));split at h
  ·rename_i cs' hf;split at h
   ·rename_i v hv;refine⟨⟨J05 (lns (Jan os new s).sto) v,J56 (Jah os) new⟩,_,?_,J99 h2 d _,h⟩;have e1:=Jna (L:=lns s.sto) (os:=os) (new:=new) (cs:=zcs t) (λj hj=>J9K (e j (by omega)));rw[Jf9]at e1;have e2:=Jk0 (lns s.sto) hf
    grind [opR,run_bind,JvD,Jfm,JZ]
   ·cases h
  ·cases h
 ·cases h
def JDG(t:Ty)(d:Option Nat)(new:Nat)(s:TSt)(k:TSt->Option R):Option R:=k (J0K d (.a (.c (.slr new))) (wN new (.arr true t []) s))
theorem JCC(F:Orc){t:Ty}{x:Opd}{d:Option Nat}{new:Nat}{s:TSt}{k:TSt->Option R}{r:R}(hn:new<s.sto.length)(h:JDG t d new s k=some r):Ok (opR F (.mkarr t.sz x) new) d s k r:=
 Jlw (rows:=[]) hn rfl h
def tyB:Option TB->Ty
 |some (.box t _)=>t
 |some (.mbox t _)=>t
 |_=>.u
def Jo6(t:Ty)(x:TV)(d:Option Nat)(new:Nat)(s:TSt)(k:TSt->Option R):Option R:=
 match x with
 | .a (.c (.ptr b p))=>match Jgy p,(match s.sto[b]? with
   |some (.box t0 y)=>JkB t0 y
   |some (.mbox _ cs)=>some cs
   |_=>none)with
  |some off,some cs=>match spl cs off [.slr new]with
   |some cs'=>k (J0K d uv (wS b (.mbox (tyB s.sto[b]?) cs') (wS new (.arr true t []) s)))
   |none=>none
  |_,_=>none
 |_=>none
theorem JAy(F:Orc){t:Ty}{x:TO}{v:TV}{d:Option Nat}{new:Nat}{s:TSt}{k:TSt->Option R}{r:R}(hd:s.sto[new]?=some .dead)(hx:tev x s=some v)(h:Jo6 t v d new s k=some r):Ok (opR F (.storen t.sz (erO x)) new) d s k r:=by
 unfold Jo6 at h;split at h
 ·rename_i b p;split at h
  ·rename_i off cs ho hc;split at h
   ·rename_i cs' hs;have hl:lnB (.arr true t [])=lns s.sto new:=(J9K hd).symm;have j:b≠new/\lns s.sto b=0/\(Jy s).sto[b]?=some (.box (cs.map (J0u (lns s.sto)))):=by
     split at hc
     ·rename_i t0 y hb;refine⟨λe=>?_,Jje hb,?_⟩
      ·simp_all
      ·rw[J1S,hb,JfH _ hc];rfl
     ·rename_i t0 w hb;injection hc with hc;subst hc;refine⟨λe=>?_,JuR hb,?_⟩
      ·simp_all
      ·rw[J1S,hb];rfl
     ·cases hc
    obtain⟨q,n,hb⟩:=j;have e1:=Jf7 hl;have g:lnB (.mbox (tyB s.sto[b]?) cs')=lns (wS new (.arr true t []) s).sto b:=by rw[e1,n];rfl
    refine⟨⟨J05 (lns (wS b (.mbox (tyB s.sto[b]?) cs') (wS new (.arr true t []) s)).sto) uv,(new,.arr true t.sz [])::[(b,.box (cs'.map (J0u (lns s.sto))))]⟩,_,?_,J99 ?_ d _,h⟩
    ·have e2:J0u (lns s.sto) (.slr new)=.slr new 0 0:=by grind [J0u,J9K]
     have o:spl (cs.map (J0u (lns s.sto))) (spo p) [.slr new 0 0]=some (cs'.map (J0u (lns s.sto))):=by rw[<-e2,JfD ho];have:=Jb8 (J0u (lns s.sto)) cs off [TC.slr new];simp_all
     simp only[opR,run_bind,J0w hx,J07,J6Y,J42,J1H,hb,cellsOf,JFL,List.length_nil,JeI,if_true,o,JZ];rfl
    ·rw[Jgv g,Jgv hl,e1];rfl
   ·cases h
  ·cases h
 ·cases h
def JBw(c:Bool)(a b:Option TV)(kk:TV->Option R):Option R:=
 match a,b with
 |some (.a (.c (.d t x))),some (.a (.c (.d t' y)))=>if h:t'=t then kk (.a (.c (.d t (JL9 c x (h▸y)))))else none
 |some x,some y=>if c=true then kk x else kk y
 |some x,none=>if c=true then kk x else none
 |none,some y=>if c=true then none else kk y
 |none,none=>none
theorem JGb(F:Orc){c a b:TO}{x:Bool}{d:Option Nat}{new:Nat}{s:TSt}{k:TSt->Option R}{r:R}(hc:tev c s=some (vb x))(h:JBw x (tev a s) (tev b s) (λv=>k (J0K d v s))=some r):Ok (opR F (.pick (erO c) (erO a) (erO b)) new) d s k r:=by
 have e: ∃v,(if x=true then tev a s else tev b s)=some v/\k (J0K d v s)=some r:=by
  unfold JBw at h;split at h
  ·rename_i t y t' z ha hb;split at h
   ·rename_i g;subst g;refine⟨_,?_,h⟩;rw[ha,hb];cases x<;>rfl
   ·cases h
  all_goals grind
 obtain⟨v,h1,h2⟩:=e;refine J29 (v:=v) ?_ h2;simp only[opR,run_bind,J0w hc,J07,e_b]
 grind [run_bind,J0w,JZ]
def tcl:List TO->TSt->Option (List TC)
 |[],_=>some []
 |o::r,s=>match tev o s with
  |some (.a (.c x))=>match tcl r s with
   |some l=>some (x::l)
   |none=>none
  |_=>none
theorem JCV{s:TSt}: ∀{xs:List TO} {l:List TC},tcl xs s=some l->(evs (xs.map erO)).run (Jy s)=some (l.map (J0u (lns s.sto)))
 |[],l,h=>by injection h with h;subst h;rfl
 |o::q,l,h=>by
  simp only[tcl]at h;split at h
  ·rename_i x hx;split at h
   ·rename_i l' hl;injection h with h;subst h;simp only[J1q,evs,run_bind,J0w hx,J07,JCV hl,JZ];rfl
   ·cases h
  ·cases h
def JEZ(x:TV)(kk:TV->Option R):Option R:=
 match x with
 | .a (.c (.ptr b p))=>kk (.a (.c (.ptr b p)))
 | .a (.c (.cp t y p))=>kk (.a (.c (.cp t y p)))
 | .a (.c (.ep b i p))=>kk (.a (.c (.ep b i p)))
 | .a (.fn f a c)=>kk (.a (.fn f a c))
 | .a (.c (.fn f))=>kk (.a (.c (.fn f)))
 |_=>none
theorem JH2(F:Orc){x:TO}{v:TV}{d:Option Nat}{new:Nat}{s:TSt}{k:TSt->Option R}{r:R}(hx:tev x s=some v)(h:JEZ v (λv=>k (J0K d v s))=some r):Ok (opR F (.nilchk (erO x)) new) d s k r:=by
 unfold JEZ at h;split at h<;>first
  |(refine J29 (v:=_) ?_ h
    simp only[opR,run_bind,J0w hx,J07,J6Y,JaY,Jb9,JEQ,JIk,JZ];done)
  |cases h
end
end Go.Am
end
section
namespace Go.Am
section
variable {R:Type}
def JFJ(keep:Bool)(v:TV)(s:TSt)(kk:TA->TSt->Option R):Option R:=
 match v with
 | .a x=>if keep=true then kk x s else
  match x with
  | .c (.slr b)=>match s.sto[b]? with
   |some (.arr _ t' rows)=>kk (.c (.d (.l t') rows)) (wS b (.arr false t' rows) s)
   |_=>none
  | .c (.slo _ _)=>none
  | .m t cs=>fzC t cs s λx s'=>kk (.dt t x) s'
  |x=>kk x s
 | .tup _=>none
def JmS:List (TV×Bool)->TSt->(List TA->TSt->Option R)->Option R
 |[],s,kk=>kk [] s
 |(v,keep)::r,s,kk=>JFJ keep v s λx s=>JmS r s λl s=>kk (x::l) s
theorem JHG{keep:Bool}{v:TV}{s0 s:TSt}{w0:List (Nat×Blk)}{kk:TA->TSt->Option R}{r:R}(f:Fzd s0 s w0)(h:JFJ keep v s kk=some r):
  ∃x s' ws,(if keep=true then RM.ret (J05 (lns s0.sto) v,[])else J93 (J05 (lns s0.sto) v)).run (Jy s0)=some (J1t (lns s0.sto) x,ws)/\Fzd s0 s' (w0++ws)/\kk x s'=some r:=by
 unfold JFJ at h;split at h
 ·rename_i x;split at h
  ·rename_i hk;subst hk;exact⟨x,s,[],rfl,by simp_all,h⟩
  ·rename_i hk;have:keep=false:=by simpa using hk
   subst this;simp only[J8R,if_false];split at h
   ·rename_i b;split at h
    ·rename_i w t' rows hb;obtain⟨w',e⟩:=f.2.2.2.1 b _ rows w hb;refine⟨_,_,[(b,.arr false t'.sz (rows.map (cel t')))],?_,f.trans (Jp4 hb),h⟩;simp only[J55,J93,fz,run_bind,J1H,J1S,e,J3n,J07,J0E,J5W e,J6y,JeI,if_true,JvY,JZ];rfl
    ·cases h
   ·cases h
   ·obtain⟨y,s',ws,h1,h2,h3⟩:=JhA f h;refine⟨_,s',ws,?_,h2,h3⟩;simp only[e_m,J93,fz,run_bind,h1,J07,JZ];rfl
   ·rename_i j k g;refine⟨x,s,[],?_,by simp_all,h⟩;cases x with
    |c x=>
     cases x with
     |slr b=>simp_all
     |slo b n=>simp_all
     |_=>rfl
    |m t cs=>simp_all
    |_=>rfl
 ·cases h
theorem JkN: ∀{vs:List (TV×Bool)} {s0 s:TSt} {w0:List (Nat×Blk)} {kk:List TA->TSt->Option R} {r:R},Fzd s0 s w0->JmS vs s kk=some r->
  ∃xs s' ws,(J3N (vs.map (·.2)) (vs.map λx=>J05 (lns s0.sto) x.1)).run (Jy s0)=some (xs.map (J1t (lns s0.sto)),ws)/\Fzd s0 s' (w0++ws)/\kk xs s'=some r
 |[],s0,s,w0,kk,r,f,h=>⟨[],s,[],rfl,by simp_all,h⟩
 |(v,keep)::q,s0,s,w0,kk,r,f,h=>by simp only[JmS]at h;obtain⟨x,s1,w1,h1,e,h⟩:=JHG f h;obtain⟨xs,g,w2,h2,j,h⟩:=JkN e h;refine⟨x::xs,g,w1++w2,?_,by simp_all,h⟩;cases keep<;>simp_all [J3N]
theorem Jch: ∀(vs:List AV),J3N [] vs=J7l vs
 |[]=>rfl
 |x::r=>by simp only[J3N,J7l,Jch r]
theorem J95: ∀(m:List Bool) (vs:List AV),(∀x∈m,x=false)->J3N m vs=J7l vs
 |[],vs,_=>Jch vs
 |b::m,[],_=>rfl
 |b::m,x::r,h=>by have:b=false:=h b (by simp);subst this;simp only[J3N,J7l,J95 m r (λx hx=>h x (by simp[hx]))]
def JuM(b:Nat)(l:List Nat):List Nat:=if l.any (λx=>x==b)=true then l else l++[b]
def Jtd(x:TC)(l:List Nat):Option (List Nat):=
 match x with
 | .ptr b _=>some (JuM b l)
 | .slr b=>some (JuM b l)
 | .slo b _=>some (JuM b l)
 | .ep _ _ _=>none
 | .epo _ _ _ _=>none
 |_=>some l
def Jey:List TC->List Nat->Option (List Nat)
 |[],l=>some l
 |x::r,l=>match Jtd x l with
  |some l=>Jey r l
  |none=>none
def JAt(x:TA)(l:List Nat):Option (List Nat):=
 match x with
 | .c x=>Jtd x l
 | .dt _ _=>some l
 | .m _ cs=>Jey cs l
 | .fn _ a c=>match Jey a l with
  |some l=>Jey c l
  |none=>none
def Jfr:List TA->List Nat->Option (List Nat)
 |[],l=>some l
 |x::r,l=>match JAt x l with
  |some l=>Jfr r l
  |none=>none
def JdT(s:TSt):List Nat->List Nat->Option (List Nat)
 |[],acc=>some acc
 |b::r,acc=>match s.sto[b]? with
  |some (.mbox _ cs)=>match Jey cs acc with
   |some acc=>JdT s r acc
   |none=>none
  |some _=>JdT s r acc
  |none=>none
theorem Jxm(b:Nat)(l:List Nat):JbB (.whole b) (l.map .whole)=(JuM b l).map .whole:=by
 grind [JbB,JuM]
section
variable (L:Nat->Nat)
theorem Jtq{x:TC}{l l':List Nat}(h:Jtd x l=some l'):J11 (J0u L x) (l.map .whole)=l'.map .whole:=by
 unfold Jtd at h;split at h<;>first
  |(injection h with h;subst h;simp only[J0u,J11,Jxm];done)
  |(cases h;done)
  |skip
 injection h with h;subst h;rename_i j k o q g;cases x with
 |ptr b p=>simp_all
 |slr b=>simp_all
 |slo b n=>simp_all
 |ep b i p=>simp_all
 |epo b e i p=>grind
 |_=>rfl
theorem Jd2: ∀{xs:List TC} {l l':List Nat},Jey xs l=some l'->J11.entsOfL (xs.map (J0u L)) (l.map .whole)=l'.map .whole
 |[],l,l',h=>by injection h with h;subst h;rfl
 |x::r,l,l',h=>by
  simp only[Jey]at h;split at h
  ·rename_i e h1;simp only[J1q,J11.entsOfL,Jtq L h1];exact Jd2 h
  ·cases h
theorem JFA{x:TA}{l l':List Nat}(h:JAt x l=some l'):J11 (J1t L x) (l.map .whole)=l'.map .whole:=by
 cases x with
 |c x=>exact Jtq L h
 |dt t x=>injection h with h;subst h;rfl
 |m t cs=>exact Jd2 L h
 |fn f a c=>
  simp only[JAt]at h;split at h
  all_goals simp_all [J1t,Jd2]
theorem JdM: ∀{xs:List TA} {l l':List Nat},Jfr xs l=some l'->J11.entsOfL (xs.map (J1t L)) (l.map .whole)=l'.map .whole
 |[],l,l',h=>by injection h with h;subst h;rfl
 |x::r,l,l',h=>by
  simp only[Jfr]at h;split at h
  ·rename_i e h1;simp only[J1q,J11.entsOfL,JFA L h1];exact JdM h
  ·cases h
end
theorem Jka{s0 s1:TSt}{ws:List (Nat×Blk)}(f:Fzd s0 s1 ws){b:Nat}{y:TB}(h:s1.sto[b]?=some y):(JeD ws b).run (Jy s0)=some (J0E (lns s0.sto) y):=by
 have h1:(Jy s1).sto[b]?=some (J0E (lns s0.sto) y):=by rw[J1S,h,f.2.1];rfl
 rw[f.2.2.1]at h1
 grind [Jbc,J9W,JeD,J1H,JZ]
theorem J9D{s0 s1:TSt}{ws:List (Nat×Blk)}(f:Fzd s0 s1 ws): ∀{r acc l:List Nat},JdT s1 r acc=some l->(J4e ws (r.map .whole) (acc.map .whole)).run (Jy s0)=some (l.map .whole)
 |[],acc,l,h=>by injection h with h;subst h;rfl
 |b::r,acc,l,h=>by
  simp only[JdT]at h;split at h
  ·rename_i cs hb;split at h
   ·rename_i e ha;simp only[J1q,J4e,run_bind,Jka f hb,J07,J0E,Jd2 (lns s0.sto) ha];exact J9D f h
   ·cases h
  ·rename_i x hn hb;simp only[J1q,J4e,run_bind,Jka f hb,J07];cases x with
   |mbox t cs=>simp_all
   |box t x=>simp only[J0E];rw[JpT];exact J9D f h
   |_=>exact J9D f h
  ·cases h
end
end Go.Am
end
section
namespace Go.Am
def kCs(K:List Nat)(L:Nat->Nat):TC->TC
 | .slr c=>if K.any (λx=>x==c)=true then .slo c (L c)else .slr c
 | .ep c i p=>if K.any (λx=>x==c)=true then .epo c (L c) i p else .ep c i p
 |x=>x
def kAs(K:List Nat)(L:Nat->Nat):TA->TA
 | .c x=>.c (kCs K L x)
 | .dt t x=>.dt t x
 | .m t cs=>.m t (cs.map (kCs K L))
 | .fn f a c=>.fn f (a.map (kCs K L)) (c.map (kCs K L))
def kVs(K:List Nat)(L:Nat->Nat):TV->TV
 | .a x=>.a (kAs K L x)
 | .tup vs=>.tup (vs.map (kAs K L))
def kBs(K:List Nat)(L:Nat->Nat):TB->TB
 | .mbox t cs=>.mbox t (cs.map (kCs K L))
 |x=>x
section
variable {K:List Nat} {L L':Nat->Nat} (h: ∀c,K.any (λx=>x==c)=false->L' c=L c)
include h
theorem JJe(x:TC):J0u L' (kCs K L x)=J0u L x:=by cases x<;>grind [kCs,J0u]
theorem JGK(xs:List TC):(xs.map (kCs K L)).map (J0u L')=xs.map (J0u L):=by
 grind [List.map_congr_left,JJe]
theorem JLg(x:TA):J1t L' (kAs K L x)=J1t L x:=by cases x<;>simp only[kAs,J1t,JJe h,JGK h]
theorem JLo(x:TV):J05 L' (kVs K L x)=J05 L x:=by cases x<;>simp only[kVs,J05,JLg h,Jok,Function.comp_def]
theorem JLc(x:TB):J0E L' (kBs K L x)=J0E L x:=by cases x<;>simp only[kBs,J0E,JGK h]
end
theorem JHV(K:List Nat)(L:Nat->Nat)(x:TB):lnB (kBs K L x)=lnB x:=by cases x<;>rfl
theorem JHF(sto:List TB)(K:List Nat)(L:Nat->Nat)(c:Nat):lns (sto.map (kBs K L)) c=lns sto c:=by
 unfold lns;rw[J79];cases sto[c]? with
 |none=>rfl
 |some x=>exact JHV K L x
def JiN(ws:List (Nat×Bool×TB))(sto:List TB):List TB:=ws.foldl (λσ x=>σ.set x.1 x.2.2) sto
def JbM(ws:List (Nat×Bool×TB))(s:TSt):TSt:=
 match ws with
 |[]=>s
 |ws=>
  let K:=(ws.filter λx=> !x.2.1).map (·.1)
  ⟨s.env.map λy=>(y.1,kVs K (lns s.sto) y.2),JiN ws (s.sto.map (kBs K (lns s.sto)))⟩
theorem JjW: ∀{ws:List (Nat×Bool×TB)} {sto:List TB} {c:Nat},c∉ws.map (·.1)->(JiN ws sto)[c]?=sto[c]?
 |[],_,_,_=>rfl
 |x::ws,sto,c,h=>by simp only[J1q,J40,not_or]at h;show(JiN ws (sto.set x.1 x.2.2))[c]?=_;rw[JjW h.2,Jx6 (λe=>h.1 e.symm)]
theorem JzT: ∀{ws:List (Nat×Bool×TB)} {sto:List TB},(ws.map (·.1)).Nodup-> ∀x∈ws,x.1<sto.length->(JiN ws sto)[x.1]?=some x.2.2
 |[],_,_,x,hx,_=>by cases hx
 |y::ws,sto,hn,x,hx,hl=>by
  simp only[J1q,List.nodup_cons]at hn;show(JiN ws (sto.set y.1 y.2.2))[x.1]?=_;rcases J40.1 hx with rfl|hx
  ·grind [JjW]
  ·exact JzT hn.2 x hx (by simpa using hl)
theorem JuB(f:TB->Blk): ∀(ws:List (Nat×Bool×TB)) (sto:List TB),(JiN ws sto).map f=upd (ws.map λx=>(x.1,f x.2.2)) (sto.map f)
 |[],_=>rfl
 |x::ws,sto=>by show(JiN ws (sto.set x.1 x.2.2)).map f=upd (ws.map λx=>(x.1,f x.2.2)) ((sto.map f).set x.1 (f x.2.2));rw[JuB f ws,List.map_set]
theorem JHY{ws:List (Nat×Bool×TB)}{s:TSt}(hn:(ws.map (·.1)).Nodup)(hl: ∀x∈ws,x.1<s.sto.length)(hf: ∀x∈ws,x.2.1=true->lnB x.2.2=lns s.sto x.1):
  Jy (JbM ws s)=⟨(Jy s).env,upd (ws.map λx=>(x.1,J0E (lns (JbM ws s).sto) x.2.2)) (Jy s).sto⟩/\ ∀x∈ws,lns (JbM ws s).sto x.1=lnB x.2.2:=by
 cases ws with
 |nil=>exact⟨rfl,λx hx=>by cases hx⟩
 |cons h ws0=>
  generalize hw:h::ws0=ws at*;have e:JbM ws s=⟨s.env.map λy=>(y.1,kVs ((ws.filter λx=> !x.2.1).map (·.1)) (lns s.sto) y.2),JiN ws (s.sto.map (kBs ((ws.filter λx=> !x.2.1).map (·.1)) (lns s.sto)))⟩:=by subst hw;rfl
  have g: ∀x∈ws,lns (JbM ws s).sto x.1=lnB x.2.2:=λx hx=>by rw[e];unfold lns;rw[JzT hn x hx (by grind)];rfl
  have hk: ∀c,((ws.filter λx=> !x.2.1).map (·.1)).any (λx=>x==c)=false->lns (JbM ws s).sto c=lns s.sto c:=by
   intro c hc;by_cases hm:c∈ws.map (·.1)
   ·obtain⟨x,hx,rfl⟩:=J9G.1 hm
    grind
   ·rw[e];have:=JHF s.sto ((ws.filter λx=> !x.2.1).map (·.1)) (lns s.sto) c
    grind [lns,JjW]
  refine⟨?_,g⟩;generalize hL:lns (JbM ws s).sto=L' at*;unfold Jy;rw[hL,e]
  grind [J5R,List.map_congr_left,JLo,JuB,JLc]
theorem JzW(b:Nat): ∀(ids:List Nat) (k:Nat),J2k (.whole b) (ids.map .whole) k=J4W b ids k
 |[],_=>rfl
 |x::r,k=>by
  simp only[J1q,J2k,J4W];by_cases h:x=b
  ·subst h;simp
  ·simp[h,JzW b r (k+1)]
def Jt7(ids:List Nat):TC->Option TC
 | .ptr b p=>(J4W b ids 0).bind λk=>some (.ptr k p)
 | .slr b=>(J4W b ids 0).bind λk=>some (.slr k)
 | .slo b n=>(J4W b ids 0).bind λk=>some (.slo k n)
 | .ep _ _ _=>none
 | .epo _ _ _ _=>none
 |x=>some x
def JgA(ids:List Nat):List TC->Option (List TC)
 |[]=>some []
 |x::r=>match Jt7 ids x,JgA ids r with
  |some y,some l=>some (y::l)
  |_,_=>none
def JlS(ids:List Nat):TA->Option TA
 | .c x=>match Jt7 ids x with
  |some y=>some (.c y)
  |none=>none
 | .dt t x=>some (.dt t x)
 | .m t cs=>match JgA ids cs with
  |some l=>some (.m t l)
  |none=>none
 | .fn f a c=>match JgA ids a,JgA ids c with
  |some a,some c=>some (.fn f a c)
  |_,_=>none
def Jm7(ids:List Nat):List TA->Option (List TA)
 |[]=>some []
 |x::r=>match JlS ids x,Jm7 ids r with
  |some y,some l=>some (y::l)
  |_,_=>none
def JwE(ids:List Nat):TB->Option TB
 | .box t x=>some (.box t x)
 | .mbox t cs=>match JgA ids cs with
  |some l=>some (.mbox t l)
  |none=>none
 | .arr w t rows=>some (.arr w t rows)
 | .dead=>none
def J9R(ids:List Nat)(s:TSt):List Nat->Option (List TB)
 |[]=>some []
 |b::r=>match s.sto[b]? with
  |some x=>match JwE ids x,J9R ids s r with
   |some y,some l=>some (y::l)
   |_,_=>none
  |none=>none
section
variable {ids:List Nat} {L L':Nat->Nat} (hL: ∀b k,J4W b ids 0=some k->L' k=L b)
include hL
theorem JvG{x y:TC}(h:Jt7 ids x=some y):ren (λe=>J2k e (ids.map .whole) 0) (J0u L x)=some (J0u L' y):=by
 cases x<;>simp only[Jt7]at h<;>first
  |(obtain⟨k,hk,h⟩:=J2K.1 h
    injection h with h;subst h;simp only[J0u,ren,JzW,hk,J3n]
    try rw[hL _ _ hk]
    done)
  |(injection h with h;subst h;rfl)
  |cases h
theorem Jgc: ∀{xs g:List TC},JgA ids xs=some g->ren.renL (λe=>J2k e (ids.map .whole) 0) (xs.map (J0u L))=some (g.map (J0u L'))
 |[],g,h=>by injection h with h;subst h;rfl
 |x::r,g,h=>by
  simp only[JgA]at h;split at h
  ·rename_i y l hy hl;injection h with h;subst h;simp only[J1q,ren.renL,JvG hL hy,Jgc hl]
  ·cases h
theorem JFl{x y:TA}(h:JlS ids x=some y):ren (λe=>J2k e (ids.map .whole) 0) (J1t L x)=some (J1t L' y):=by
 cases x with
 |c x=>
  simp only[JlS]at h;split at h
  ·rename_i y hy;injection h with h;subst h;exact JvG hL hy
  ·cases h
 |dt t x=>injection h with h;subst h;rfl
 |m t cs=>
  grind [JlS,J1t,ren,Jgc]
 |fn f a c=>
  grind [JlS,J1t,ren,Jgc]
theorem Jq7: ∀{xs g:List TA},Jm7 ids xs=some g->ren.renL (λe=>J2k e (ids.map .whole) 0) (xs.map (J1t L))=some (g.map (J1t L'))
 |[],g,h=>by injection h with h;subst h;rfl
 |x::r,g,h=>by
  simp only[Jm7]at h;split at h
  ·rename_i y l hy hl;injection h with h;subst h;simp only[J1q,ren.renL,JFl hL hy,Jq7 hl]
  ·cases h
theorem JlW{s0 s1:TSt}{ws:List (Nat×Blk)}(f:Fzd s0 s1 ws)(g:lns s0.sto=L): ∀{j:List Nat} {bl:List TB},J9R ids s1 j=some bl->
  (J5r ws (λe=>J2k e (ids.map .whole) 0) (j.map .whole)).run (Jy s0)=some (bl.map (J0E L'))
 |[],bl,h=>by injection h with h;subst h;rfl
 |b::r,bl,h=>by
  simp only[J9R]at h;split at h
  ·rename_i x hb;split at h
   ·rename_i y l hy hl;injection h with h;subst h;have ih:=JlW f g hl;have k:=Jka f hb;rw[g]at k;simp only[J1q,J5r,JgF,run_bind,k,J07];cases x with
    |dead=>cases hy
    |box t x=>injection hy with hy;grind [Jqa,J8z,J0E,JZ]
    |mbox t cs=>
     grind [JwE,J0E,Jgc,JZ]
    |arr w t rows=>injection hy with hy;grind [J0E,JZ]
   ·cases h
  ·cases h
end
theorem JjL{ids:List Nat}{s:TSt}: ∀{e:List Nat} {bl:List TB},J9R ids s e=some bl->bl.length=e.length/\ ∀(k b:Nat),e[k]?=some b->lns bl k=lns s.sto b
 |[],bl,h=>by injection h with h;simp_all
 |b::r,bl,h=>by
  simp only[J9R]at h;split at h
  ·rename_i x hb;split at h
   ·rename_i y l hy hl;injection h with h;subst h;obtain⟨h1,h2⟩:=JjL hl;refine⟨by simp[h1],λk c hk=>?_⟩;cases k with
    |zero=>
     simp at hk;subst hk;unfold lns;rw[hb];show lnB y=lnB x;cases x with
     |dead=>cases hy
     |box t x=>injection hy with hy;subst hy;rfl
     |mbox t cs=>
      simp only[JwE]at hy;split at hy
      ·injection hy with hy;subst hy;rfl
      ·cases hy
     |arr w t rows=>injection hy with hy;subst hy;rfl
    |succ k=>
     grind [lns]
   ·cases h
  ·cases h
def J5C(ids:List Nat)(new m k:Nat):Option Nat:=if k<ids.length then ids[k]? else if k<m then some (new+(k-ids.length))else none
def JBl(ids:List Nat)(new m:Nat):TC->Option TC
 | .ptr k p=>(J5C ids new m k).bind λb=>some (.ptr b p)
 | .slr k=>(J5C ids new m k).bind λb=>some (.slr b)
 | .slo k n=>(J5C ids new m k).bind λb=>some (.slo b n)
 | .ep k i p=>(J5C ids new m k).bind λb=>some (.ep b i p)
 | .epo k e i p=>(J5C ids new m k).bind λb=>some (.epo b e i p)
 |x=>some x
def Jkn(ids:List Nat)(new m:Nat):List TC->Option (List TC)
 |[]=>some []
 |x::r=>match JBl ids new m x,Jkn ids new m r with
  |some y,some l=>some (y::l)
  |_,_=>none
def JAk(ids:List Nat)(new m:Nat):TA->Option TA
 | .c x=>match JBl ids new m x with
  |some y=>some (.c y)
  |none=>none
 | .dt t x=>some (.dt t x)
 | .m t cs=>match Jkn ids new m cs with
  |some l=>some (.m t l)
  |none=>none
 | .fn f a c=>match Jkn ids new m a,Jkn ids new m c with
  |some a,some c=>some (.fn f a c)
  |_,_=>none
def JsY(ids:List Nat)(new m:Nat):List TA->Option (List TA)
 |[]=>some []
 |x::r=>match JAk ids new m x,JsY ids new m r with
  |some y,some l=>some (y::l)
  |_,_=>none
def JF6(ids:List Nat)(new m:Nat):TV->Option TV
 | .a x=>match JAk ids new m x with
  |some y=>some (.a y)
  |none=>none
 | .tup vs=>match JsY ids new m vs with
  |some l=>some (.tup l)
  |none=>none
def Jkx(ids:List Nat)(new m:Nat):TB->Option TB
 | .box t x=>some (.box t x)
 | .mbox t cs=>match Jkn ids new m cs with
  |some l=>some (.mbox t l)
  |none=>none
 | .arr w t rows=>some (.arr w t rows)
 | .dead=>none
section
variable {ids:List Nat} {new m:Nat} {L Lp:Nat->Nat} (hL: ∀k b,J5C ids new m k=some b->Lp b=L k)
theorem JK0{k b o:Nat}(h:J5C ids new m k=some b):bk (ids.map .whole) new (.ptr k o)=some (.ptr b o):=by
 grind [J5C,bk]
theorem JJs{k b i n:Nat}(h:J5C ids new m k=some b):bk (ids.map .whole) new (.slr k i n)=some (.slr b i n):=by
 grind [J5C,bk]
theorem JKg{k b e i o:Nat}(h:J5C ids new m k=some b):bk (ids.map .whole) new (.ep k e i o)=some (.ep b e i o):=by
 grind [J5C,bk]
include hL
theorem JzI{x y:TC}(h:JBl ids new m x=some y):bk (ids.map .whole) new (J0u L x)=some (J0u Lp y):=by
 cases x<;>simp only[JBl]at h<;>first
  |(obtain⟨b,hb,h⟩:=J2K.1 h
    injection h with h;subst h;simp only[J0u,JK0 hb,JJs hb,JKg hb,hL _ _ hb]
    done)
  |(injection h with h;subst h;rfl)
theorem Jj0: ∀{xs e:List TC},Jkn ids new m xs=some e->bk.bkL (ids.map .whole) new (xs.map (J0u L))=some (e.map (J0u Lp))
 |[],e,h=>by injection h with h;subst h;rfl
 |x::r,e,h=>by
  simp only[Jkn]at h;split at h
  ·rename_i y l hy hl;injection h with h;subst h;simp only[J1q,bk.bkL,JzI hL hy,Jj0 hl]
  ·cases h
theorem Jz0{x y:TA}(h:JAk ids new m x=some y):bk (ids.map .whole) new (J1t L x)=some (J1t Lp y):=by cases x<;>grind [JAk,JzI,J1t,bk,Jj0]
theorem Jwl: ∀{xs e:List TA},JsY ids new m xs=some e->bk.bkL (ids.map .whole) new (xs.map (J1t L))=some (e.map (J1t Lp))
 |[],e,h=>by injection h with h;subst h;rfl
 |x::r,e,h=>by
  simp only[JsY]at h;split at h
  ·rename_i y l hy hl;injection h with h;subst h;simp only[J1q,bk.bkL,Jz0 hL hy,Jwl hl]
  ·cases h
theorem JGV{x y:TV}(h:JF6 ids new m x=some y):bk (ids.map .whole) new (J05 L x)=some (J05 Lp y):=by cases x<;>grind [JF6,Jz0,J05,bk,Jwl]
end
end Go.Am
end
section
namespace Go.Am
structure TG where
 go: ∀{R:Type},FuncId->List TA->List TB->(TV->List (Bool×TB)->Option R)->Option R
def JeW(out:List (Bool×TB)):Nat->Nat:=lns (out.map (·.2))
structure GOk(F:Orc)(G:TG):Prop where
 ok: ∀{R:Type} {f:FuncId} {xs:List TA} {bl:List TB} {kk:TV->List (Bool×TB)->Option R} {r:R},G.go f xs bl kk=some r->
  ∃v out,F f (xs.map (J1t (lns bl))) (bl.map (J0E (lns bl)))=some (J05 (JeW out) v,out.map λx=>J0E (JeW out) x.2)/\
   (∀(k:Nat) x,out[k]?=some (true,x)->k<bl.length->lnB x=lns bl k)/\kk v out=some r
def Jaz(ids:List Nat)(new m:Nat):Nat->List (Bool×TB)->Option (List (Nat×Bool×TB))
 |_,[]=>some []
 |k,(s,x)::r=>match J5C ids new m k,Jkx ids new m x,Jaz ids new m (k+1) r with
  |some b,some y,some l=>some ((b,s&&decide (k<ids.length),y)::l)
  |_,_,_=>none
section
variable {R:Type}
def JCj(e:Bool)(a b n:Nat):Bool:=if e=true then decide (a<=b/\b<=a+n)else decide (b=a+n)
theorem JD2{e:Bool}{a b n:Nat}(h:JCj e a b n=true):(if e=true then a<=b/\b<=a+n else b=a+n)/\a<=b/\b<=a+n:=by
 grind [JCj]
def Jjk(G:TG)(f:FuncId)(args:List (TV×Bool))(e:Bool)(n:Nat)(d:Option Nat)(new:Nat)(s:TSt)(kk:TSt->Option R):Option R:=
 JmS args s λxs s1=>
 match Jfr xs []with
 |none=>none
 |some g=>match JdT s1 g g with
  |none=>none
  |some h=>match JdT s1 h h with
   |none=>none
   |some ids=>if J53 ids=true then
    match Jm7 ids xs,J9R ids s1 ids with
    |some k,some bl=>G.go f k bl λv out=>
     if JCj e ids.length out.length n=true then
      match JF6 ids new out.length v,Jaz ids new out.length 0 out with
      |some j,some ws=>if J53 (ws.map (·.1))=true then kk (J0K d j (JbM ws s1))else none
      |_,_=>none
     else none
    |_,_=>none
    else none
theorem Jxt{ids:List Nat}{new m:Nat}{x y:TB}(h:Jkx ids new m x=some y):lnB y=lnB x:=by
 cases x with
 |dead=>cases h
 |box t x=>injection h with h;subst h;rfl
 |mbox t cs=>
  simp only[Jkx]at h;split at h
  ·injection h with h;subst h;rfl
  ·cases h
 |arr w t rows=>injection h with h;subst h;rfl
theorem Jto{ids:List Nat}{new m:Nat}: ∀{k:Nat} {out:List (Bool×TB)} {ws:List (Nat×Bool×TB)},Jaz ids new m k out=some ws->
  ws.length=out.length/\ ∀(j:Nat) s x,out[j]?=some (s,x)-> ∃b y,J5C ids new m (k+j)=some b/\Jkx ids new m x=some y/\ws[j]?=some (b,s&&decide (k+j<ids.length),y)
 |k,[],ws,h=>by injection h with h;simp_all
 |k,(s,x)::r,ws,h=>by
  simp only[Jaz]at h;split at h
  ·rename_i b y l hb hy hl;injection h with h;subst h;obtain⟨h1,h2⟩:=Jto hl;refine⟨by simp[h1],λj s' e hj=>?_⟩;cases j<;>grind
  ·cases h
theorem JGa{l:List Nat}(h:J53 l=true):l.Nodup:=Jcm h
theorem JyL{ids:List Nat}(h:J53 ids=true):J53 ((ids.map Ent.whole).map Ent.id)=true:=by rw[Jok,show Ent.id∘Ent.whole=id from rfl,List.map_id];exact h
theorem Juo{ids:List Nat}{new m:Nat}{L Lp:Nat->Nat}(hL: ∀k b,J5C ids new m k=some b->Lp b=L k){ws0:List (Nat×Blk)}{st:St}: ∀{j:Nat} {es:List Nat} {out:List (Bool×TB)} {ws:List (Nat×Bool×TB)},
  (∀(i:Nat) b,es[i]?=some b->ids[j+i]?=some b)->j+es.length=ids.length->es.length<=out.length->Jaz ids new m j out=some ws->
  (J3A ws0 (ids.map .whole) new (es.map .whole) (out.map λx=>J0E L x.2)).run st=some ((ws.take es.length).map λx=>(x.1,J0E Lp x.2.2))
 |j,[],out,ws,_,_,_,h=>by simp[J3A]
 |j,b::es,[],ws,_,_,hl,h=>by simp at hl
 |j,b::es,(s,x)::out,ws,he,hj,hl,h=>by
  simp only[Jaz]at h;split at h
  ·rename_i e y l hb hy n;injection h with h;subst h;have ih:=Juo hL (ws0:=ws0) (st:=st) (j:=j+1) (es:=es) (out:=out) (ws:=l) (λi c hc=>by
    have:=he (i+1) c (by simpa using hc)
    grind) (by grind) (by simpa using hl) n
   have g:e=b:=by
    have q:=he 0 b (by simp)
    grind [J5C]
   subst g;simp only[J1q,J3A,run_bind];have o:(Jai ws0 (ids.map .whole) new (.whole e) (J0E L x)).run st=some (e,J0E Lp y):=by cases x<;>grind [Jfx,Jai,Ji4,J8z,JZ,Jkx,JfC,Jj0,Jwf]
   simp_all
  ·cases h
theorem Jvz{ids:List Nat}{new m:Nat}{L Lp:Nat->Nat}(hL: ∀k b,J5C ids new m k=some b->Lp b=L k): ∀{j:Nat} {out:List (Bool×TB)} {ws:List (Nat×Bool×TB)},
  Jaz ids new m (ids.length+j) out=some ws->J36 (ids.map .whole) new (new+j) (out.map λx=>J0E L x.2)=some (ws.map λx=>(x.1,J0E Lp x.2.2))
 |j,[],ws,h=>by injection h with h;subst h;rfl
 |j,(s,x)::out,ws,h=>by
  simp only[Jaz]at h;split at h
  ·rename_i n y l hb hy g;injection h with h;subst h;have ih:=Jvz hL (j:=j+1) g;have e:n=new+j:=by
    grind [J5C]
   subst e;cases x with
   |dead=>cases hy
   |box t x=>injection hy with hy;grind [Jfx,J36,Ji4,J8z]
   |mbox t cs=>
    grind [Jkx,JfC,J36,Jj0]
   |arr w t rows=>injection hy with hy;grind [Jwf,J36]
  ·cases h
theorem Jll{ids:List Nat}{new m:Nat}: ∀{n k:Nat} {out:List (Bool×TB)} {ws:List (Nat×Bool×TB)},Jaz ids new m k out=some ws->Jaz ids new m (k+n) (out.drop n)=some (ws.drop n)
 |0,k,out,ws,h=>h
 |n+1,k,[],ws,h=>by injection h with h;subst h;rfl
 |n+1,k,(s,x)::out,ws,h=>by
  simp only[Jaz]at h;split at h
  ·rename_i b y l hb hy hl;injection h with h;subst h;have:=Jll (n:=n) hl
   grind
  ·cases h
theorem Jcf{F:Orc}{G:TG}(hG:GOk F G){f:FuncId}{args:List (TV×Bool)}{A:Bool}{n:Nat}{d:Option Nat}{new:Nat}{s:TSt}{kk:TSt->Option R}{r:R}
  (hd:J9A s new n=true) (h:Jjk G f args A n d new s kk=some r):
  ∃xs ws B es z blks v res E fresh,(J3N (args.map (·.2)) (args.map λx=>J05 (lns s.sto) x.1)).run (Jy s)=some (xs,ws)/\
   (J4e ws (J11.entsOfL xs []) (J11.entsOfL xs [])).run (Jy s)=some B/\(J4e ws B B).run (Jy s)=some es/\J53 (es.map Ent.id)=true/\
   ren.renL (λe=>J2k e es 0) xs=some z/\(J5r ws (λe=>J2k e es 0) es).run (Jy s)=some blks/\F f z blks=some res/\
   (if A=true then es.length<=res.2.length/\res.2.length<=es.length+n else res.2.length=es.length+n)/\bk es new res.1=some v/\J36 es new new (res.2.drop es.length)=some fresh/\
   (J3A ws es new es res.2).run (Jy s)=some E/\ ∃s',put d ⟨v,ws++E++fresh⟩ (Jy s)=Jy s'/\kk s'=some r:=by
 unfold Jjk at h;obtain⟨xs,s1,ws,h1,q,h⟩:=JkN (Fzd.refl s) h;rw[JhY]at q;split at h
 ·cases h
 ·rename_i i0 T;split at h
  ·cases h
  ·rename_i i1 P;split at h
   ·cases h
   ·rename_i ids L;split at h
    ·rename_i V;split at h
     ·rename_i ys bl S K;obtain⟨v,out,hF,Z,h⟩:=hG.ok h;split at h
      ·rename_i hlen;split at h
       ·rename_i N g U o;split at h
        ·rename_i M;have e0:J11.entsOfL (xs.map (J1t (lns s.sto))) []=i0.map .whole:=JdM (lns s.sto) (l:=[]) T;have e1:=J9D q P;have e2:=J9D q L;obtain⟨ae,W⟩:=JjL K;have hL: ∀b k,J4W b ids 0=some k->lns bl k=lns s.sto b:=by intro b k hk;obtain⟨_,hk⟩:=JdB hk;rw[W k b (by simpa using hk),q.2.1]
         have e3:=Jq7 hL S;have e4:=JlW hL q rfl K;obtain⟨b1,b2⟩:=Jto o
         have a4: ∀(j:Nat),JeW out j=match out[j]? with
           |some x=>lnB x.2
           |none=>0:=by
          intro j;unfold JeW lns;rw[J79];cases out[j]?<;>rfl
         have O: ∀(k b:Nat),ids[k]?=some b->b<s1.sto.length:=by
          have af: ∀(C:List Nat) (bl:List TB),J9R ids s1 C=some bl-> ∀(k b:Nat),C[k]?=some b->b<s1.sto.length:=by
           intro C
           induction C with
           |nil=>simp_all
           |cons c C ih=>
            grind [J9R]
          grind
         have a2:s1.sto.length=s.sto.length:=by
          have:=congrArg (λst=>st.sto.length) q.2.2.1
          grind [Jy,Jbc]
         obtain⟨a1,J,a0⟩:=JD2 hlen;have Y:=J8a hd;have a9: ∀x∈g,∃(j:Nat) (Q:Bool) (y:TB),out[j]?=some (Q,y)/\J5C ids new out.length j=some x.1/\Jkx ids new out.length y=some x.2.2/\x.2.1=(Q&&decide (j<ids.length)):=by
          intro x hx;obtain⟨j,hj⟩:=J8Q hx;have w:j<out.length:=by grind
          obtain⟨b,y,q1,q2,q3⟩:=b2 j (out[j]'w).1 (out[j]'w).2 (zQ9 w);rw[hj]at q3;injection q3 with q3;rw[JeI]at q1 q3;exact⟨j,_,_,zQ9 w,by simp_all,by simp_all,by rw[q3];rfl⟩
         have H: ∀x∈g,x.1<s1.sto.length:=by
          grind [J5C,Jw]
         have I: ∀x∈g,x.2.1=true->lnB x.2.2=lns s1.sto x.1:=by
          grind [Jxt,J5C]
         obtain⟨w1,w2⟩:=JHY (JGa M) H I;have D: ∀k b,J5C ids new out.length k=some b->lns (JbM g s1).sto b=JeW out k:=by
          grind [J5C,Jxt]
         have e5:=JGV D U;have e6:=Juo D (ws0:=ws) (st:=Jy s) (j:=0) (es:=ids) (out:=out) (ws:=g) (λi b hb=>by grind) (by omega) J o;have e7:=Jvz D (j:=0) (out:=out.drop ids.length) (ws:=g.drop ids.length) (by have:=Jll (n:=ids.length) o;grind);rw[JhT]at e7;refine⟨xs.map (J1t (lns s.sto)),ws,i1.map .whole,ids.map .whole,_,_,J05 (lns (JbM g s1).sto) N,_,_,(g.drop ids.length).map (λx=>(x.1,J0E (lns (JbM g s1).sto) x.2.2)),h1,?_,e2,JyL V,e3,e4,hF,?_,e5,?_,e6,J0K d N (JbM g s1),?_,h⟩
         ·grind
         ·grind
         ·grind [List.map_drop]
         ·refine J99 ?_ d N;rw[w1,q.2.2.1];simp[J21]
        ·cases h
       ·cases h
      ·cases h
     ·cases h
    ·cases h
end
end Go.Am
end
section
namespace Go.Am
inductive TOp where
 |mv (x:TO)
 |mkarr (t:Ty) (x:TO)
 |pick (c a b:TO)
 |newbox (t:Ty)
 |box (t:Ty) (x:TO)
 |build (t:Ty) (parts:List (Nat×Ty×TO))
 |lits (own:Bool) (t:Ty) (n:Nat) (parts:List (Nat×TO))
 |load (agg:Bool) (t:Ty) (x:TO)
 |store (t:Ty) (x v:TO)
 |nilchk (x:TO)
 |bin (op:BinOp) (bt:TBT) (x y:TO)
 |un (op:UnOp) (x:TO)
 |conv (k:CK) (x:TO)
 |mkslice (own:Bool) (t:Ty) (bytes:Nat) (l c:TO)
 |slice (k:TSK) (x:TO) (lo hi mx:Option TO)
 |faddr (off:Nat) (x:TO)
 |field (agg:Bool) (off:Nat) (t:Ty) (x:TO)
 |iaddr (t:Ty) (x i:TO)
 |aaddr (len esz:Nat) (x i:TO)
 |sidx (x i:TO)
 |aidx (agg:Bool) (len:Nat) (t:Ty) (x i:TO)
 |extr (x:TO) (i:Nat)
 |call (f:FuncId) (args:List TO) (k:Nat)
 |callo (f:FuncId) (args:List (TO×Bool)) (k:Nat)
 |callv (g:TO) (args:List TO) (k:Nat)
 |len (str:Bool) (x:TO)
 |alen (n:Nat)
 |app (t:Ty) (bytes:Nat) (x y:TO)
 |appn (t:Ty) (bytes:Nat) (y:TO)
 |appz (t:Ty) (bytes:Nat) (x y:TO)
 |appc (t:Ty) (bytes:Nat) (x y:TO)
 |mm (mx:Bool) (x y:TO)
 |mkfn (f:FuncId) (first caps:List TO)
 |newboxo (t:Ty) (os:List (Nat×Ty))
 |buildo (t:Ty) (parts:List (Nat×Ty×TO)) (os:List (Nat×Ty))
 |storen (t:Ty) (x:TO)
def zer(t:Ty):List PV:=cel t t.zero
def erp:TOp->AOp
 | .mv x=>.mv (erO x)
 | .mkarr t x=>.mkarr t.sz (erO x)
 | .pick c a b=>.pick (erO c) (erO a) (erO b)
 | .newbox t=>.newbox (zer t)
 | .box t x=>.box t.sz (erO x)
 | .build t parts=>.build (zer t) (erP parts)
 | .lits own t n parts=>.lits own t.sz n (zer t) (parts.map λx=>(x.1,erO x.2))
 | .load agg t x=>.load agg t.sz (erO x)
 | .store t x v=>.store t.sz (erO x) (erO v)
 | .nilchk x=>.nilchk (erO x)
 | .bin op bt x y=>.bin op (erT bt) (erO x) (erO y)
 | .un op x=>.un op (erO x)
 | .conv k x=>.conv k (erO x)
 | .mkslice own t bytes l c=>.mkslice own t.sz bytes (zer t) (erO l) (erO c)
 | .slice k x lo hi mx=>.slice (erK k) (erO x) (lo.map erO) (hi.map erO) (mx.map erO)
 | .faddr off x=>.faddr off (erO x)
 | .field agg off t x=>.field agg off t.sz (erO x)
 | .iaddr t x i=>.iaddr t.sz (erO x) (erO i)
 | .aaddr len esz x i=>.aaddr len esz (erO x) (erO i)
 | .sidx x i=>.sidx (erO x) (erO i)
 | .aidx agg len t x i=>.aidx agg len t.sz (erO x) (erO i)
 | .extr x i=>.extr (erO x) i
 | .call f args k=>.call f (args.map erO) k
 | .callo f args k=>.callo f (args.map (·.2)) (args.map λx=>erO x.1) k
 | .callv g args k=>.callv (erO g) (args.map erO) k
 | .len str x=>.len str (erO x)
 | .alen n=>.alen n
 | .app t bytes x y=>.app t.sz bytes (zer t) (erO x) (erO y)
 | .appn t bytes y=>.appn t.sz bytes (zer t) (erO y)
 | .appz t bytes x y=>.appz t.sz bytes (zer t) (erO x) (erO y)
 | .appc t bytes x y=>.appc t.sz bytes (zer t) (erO x) (erO y)
 | .mm mx x y=>.mm mx (erO x) (erO y)
 | .mkfn f first caps=>.mkfn f (first.map erO) (caps.map erO)
 | .newboxo t os=>.newboxo (zer t) (Jah os)
 | .buildo t parts os=>.buildo (zer t) (erP parts) (Jah os)
 | .storen t x=>.storen t.sz (erO x)
def J1L:TOp->Nat
 | .newbox _| .box _ _| .mkarr _ _| .appn _ _ _| .appc _ _ _ _=>1
 | .lits own _ _ _=>if own=true then 1 else 0
 | .mkslice own _ _ _ _=>if own=true then 1 else 0
 | .conv (.toBytes own) _=>if own=true then 1 else 0
 | .call _ _ k| .callv _ _ k| .callo _ _ k=>k
 | .newboxo _ os=>os.length+1
 | .buildo _ _ os=>os.length
 | .storen _ _=>1
 |_=>0
theorem JfY(op:TOp):J7T (erp op)=J1L op:=by
 cases op<;>try rfl
 ·rename_i k x;cases k<;>rfl
 all_goals simp[erp,J1L,Jah]
def Ji5:List (TO×Bool)->TSt->Option (List (TV×Bool))
 |[],_=>some []
 |(o,x)::r,s=>match tev o s,Ji5 r s with
  |some v,some l=>some ((v,x)::l)
  |_,_=>none
theorem Jb2{s:TSt}: ∀{xs:List (TO×Bool)} {l:List (TV×Bool)},Ji5 xs s=some l->
  (evs (xs.map λx=>erO x.1)).run (Jy s)=some (l.map λx=>J05 (lns s.sto) x.1)/\l.map (·.2)=xs.map (·.2)
 |[],l,h=>by injection h with h;simp_all
 |(o,x)::q,l,h=>by
  simp only[Ji5]at h;split at h
  ·rename_i v l' hv hl;injection h with h;subst h;obtain⟨h1,h2⟩:=Jb2 hl;exact⟨by simp only[J1q,evs,run_bind,J0w hv,J07,h1,JZ],by simp[h2]⟩
  ·cases h
section
variable {R:Type}
def top(G:TG)(op:TOp)(d:Option Nat)(new:Nat)(s:TSt)(k:TSt->Option R):Option R:=
 match op with
 | .mv x=>match tev x s with
  |some v=>k (J0K d v s)
  |none=>none
 | .mkarr t _=>JDG t d new s k
 | .pick c a b=>match tev c s with
  |some (.a (.c (.d .b x)))=>JBw x (tev a s) (tev b s) λv=>k (J0K d v s)
  |_=>none
 | .newbox t=>Jzj t d new s k
 | .box t x=>match tev x s with
  |some v=>JFH t v d new s k
  |none=>none
 | .build t parts=>Jvj t parts d s k
 | .lits own t n parts=>JBg own t n parts d new s k
 | .load agg t x=>match tev x s with
  |some v=>JAK agg t v d s k
  |none=>none
 | .store t x y=>match tev x s,tev y s with
  |some v,some u=>Jvp t v u d s k
  |_,_=>none
 | .nilchk x=>match tev x s with
  |some v=>JEZ v λv=>k (J0K d v s)
  |none=>none
 | .bin op bt x y=>match tev x s,tev y s with
  |some v,some u=>JEV op bt v u λv=>k (J0K d v s)
  |_,_=>none
 | .un op x=>match tev x s with
  |some v=>tUn op v λv=>k (J0K d v s)
  |none=>none
 | .conv c x=>match tev x s with
  |some v=>JBr c v d new s k
  |none=>none
 | .mkslice own t bytes l c=>match tev l s,tev c s with
  |some v,some u=>Jl4 own t bytes v u d new s k
  |_,_=>none
 | .slice e x lo hi mx=>match tev x s,tbn lo s,tbn hi s,tbn mx s with
  |some v,some a,some b,some c=>Jxg e v a b c d s k
  |_,_,_,_=>none
 | .faddr off x=>match tev x s with
  |some v=>JuD off v λv=>k (J0K d v s)
  |none=>none
 | .field agg off t x=>match tev x s with
  |some v=>Jvf agg off t v d s k
  |none=>none
 | .iaddr t x i=>match tev x s,tev i s with
  |some v,some u=>Jvn t v u s λv=>k (J0K d v s)
  |_,_=>none
 | .aaddr len esz x i=>match tev x s,tev i s with
  |some v,some u=>Jup len esz v u λv=>k (J0K d v s)
  |_,_=>none
 | .sidx x i=>match tev x s,tev i s with
  |some v,some u=>JAq v u λv=>k (J0K d v s)
  |_,_=>none
 | .aidx agg len t x i=>match tev x s,tev i s with
  |some v,some u=>JBX agg len t v u d s k
  |_,_=>none
 | .extr x i=>match tev x s with
  |some v=>JBm v i λv=>k (J0K d v s)
  |none=>none
 | .call f args n=>match Ji5 (args.map λx=>(x,false)) s with
  |some l=>Jjk G f l false n d new s k
  |none=>none
 | .callo f args n=>match Ji5 args s with
  |some l=>Jjk G f l true n d new s k
  |none=>none
 | .callv g args n=>match tev g s,Ji5 (args.map λx=>(x,false)) s with
  |some (.a (.fn f a c)),some l=>Jjk G f (a.map (λx=>(.a (.c x),false))++l++c.map (λx=>(.a (.c x),false))) false n d new s k
  |some (.a (.c (.fn f))),some l=>Jjk G f l false n d new s k
  |_,_=>none
 | .len str x=>match tev x s with
  |some v=>JEs str v s λv=>k (J0K d v s)
  |none=>none
 | .alen n=>k (J0K d (vi .i64 n) s)
 | .app t bytes x y=>match tev x s,tev y s with
  |some v,some u=>JC4 t bytes v u d s k
  |_,_=>none
 | .appn t bytes y=>match tev y s with
  |some u=>JBR t bytes u d new s k
  |none=>none
 | .appz t bytes x y=>match tev x s,tev y s with
  |some v,some u=>JBT t bytes v u d s k
  |_,_=>none
 | .appc t bytes x y=>match tev x s,tev y s with
  |some v,some u=>JBd t bytes v u d new s k
  |_,_=>none
 | .mm mx x y=>match tev x s,tev y s with
  |some v,some u=>tMm mx v u λv=>k (J0K d v s)
  |_,_=>none
 | .mkfn f first caps=>match tcl first s,tcl caps s with
  |some a,some c=>k (J0K d (.a (.fn f a c)) s)
  |_,_=>none
 | .newboxo t os=>Jk5 t os d new s k
 | .buildo t parts os=>Jnh t parts os d new s k
 | .storen t x=>match tev x s with
  |some v=>Jo6 t v d new s k
  |none=>none
theorem Jkz{F:Orc}{f:FuncId}{vs xs g:List AV}{ws:List (Nat×Blk)}{h es:List Ent}{blks:List Blk}{v:AV}{res:Res}{j fresh:List (Nat×Blk)}{n new:Nat}{st:St}
  (h1:(J7l vs).run st=some (xs,ws)) (h2:(J4e ws (J11.entsOfL xs []) (J11.entsOfL xs [])).run st=some h) (h3:(J4e ws h h).run st=some es) (h4:J53 (es.map Ent.id)=true)
  (h5:ren.renL (λe=>J2k e es 0) xs=some g) (r:(J5r ws (λe=>J2k e es 0) es).run st=some blks) (o:F f g blks=some res) (q:res.2.length=es.length+n)
  (w:bk es new res.1=some v) (h10:J36 es new new (res.2.drop es.length)=some fresh) (k:(J3A ws es new es res.2).run st=some j):
  (J5Q F f vs n new).run st=some ⟨v,ws++j++fresh⟩:=by
 simp_all [J5Q]
theorem JE6{F:Orc}{f:FuncId}{xs g:List AV}{ws:List (Nat×Blk)}{h es:List Ent}{blks:List Blk}{v:AV}{res:Res}{j fresh:List (Nat×Blk)}{n new:Nat}{st:St}
  (h2:(J4e ws (J11.entsOfL xs []) (J11.entsOfL xs [])).run st=some h) (h3:(J4e ws h h).run st=some es) (h4:J53 (es.map Ent.id)=true)
  (h5:ren.renL (λe=>J2k e es 0) xs=some g) (r:(J5r ws (λe=>J2k e es 0) es).run st=some blks) (o:F f g blks=some res) (q:es.length<=res.2.length/\res.2.length<=es.length+n)
  (w:bk es new res.1=some v) (h10:J36 es new new (res.2.drop es.length)=some fresh) (k:(J3A ws es new es res.2).run st=some j):
  (J3d F f (xs,ws) n new).run st=some ⟨v,ws++j++fresh⟩:=by
 simp_all [J3d]
theorem Jgr(args:List TO):(args.map λx=>(x,false)).map (λx:TO×Bool=>erO x.1)=args.map erO:=by simp_all
theorem JJi{F:Orc}{G:TG}(D:GOk F G){op:TOp}{d:Option Nat}{new:Nat}{s:TSt}{k:TSt->Option R}{r:R}(hd:J9A s new (J1L op)=true)(h:top G op d new s k=some r):Ok (opR F (erp op) new) d s k r:=by
 have O: ∀j,j<J1L op->new+j<s.sto.length:=λj hj=>Jw (J8a hd j hj);unfold top at h;split at h
 ·split at h
  ·rename_i x _ v hv;refine J29 (v:=v) ?_ h;simp only[erp,opR,run_bind,J0w hv,J07,JZ]
  ·cases h
 ·exact JCC F (by simp_all [J1L]) h
 ·split at h
  ·rename_i hc;exact JGb F hc h
  ·cases h
 ·exact JAD F (by have:=J8a hd 0 (by simp[J1L]);simp_all) h
 ·split at h
  ·rename_i hv;exact JGZ F (by have:=J8a hd 0 (by simp[J1L]);simp_all) hv h
  ·cases h
 ·exact JDk F new h
 ·rename_i own t n parts;exact JES F (λho=>by simp_all [J1L]) h
 ·split at h
  ·rename_i hv;obtain⟨e,s',h1,h2,h3⟩:=JG9 h;exact⟨e,s',by grind [erp,opR,run_bind,J0w],h2,h3⟩
  ·cases h
 ·split at h
  ·rename_i hv hu;obtain⟨e,s',h1,h2,h3⟩:=JCF h;exact⟨e,s',by grind [erp,opR,run_bind,J0w],h2,h3⟩
  ·cases h
 ·split at h
  ·rename_i hv;exact JH2 F hv h
  ·cases h
 ·split at h
  ·rename_i hv hu;obtain⟨e,s',h1,h2,h3⟩:=(JHC h).ok;exact⟨e,s',by grind [erp,opR,run_bind,J0w],h2,h3⟩
  ·cases h
 ·split at h
  ·rename_i hv;obtain⟨e,s',h1,h2,h3⟩:=(JJI h).ok;exact⟨e,s',by grind [erp,opR,run_bind,J0w],h2,h3⟩
  ·cases h
 ·split at h
  ·rename_i hv;exact JF4 F hv (λho=>by simp_all [J1L]) h
  ·cases h
 ·split at h
  ·rename_i hv hu;exact Jyy F hv hu (λho=>by simp_all [J1L]) h
  ·cases h
 ·split at h
  ·rename_i h1 h2 h3 h4;exact JDd F h1 h2 h3 h4 h
  ·cases h
 ·split at h
  ·rename_i hv;obtain⟨e,s',h1,h2,h3⟩:=(JDb h).ok;exact⟨e,s',by grind [erp,opR,run_bind,J0w],h2,h3⟩
  ·cases h
 ·split at h
  ·rename_i hv;obtain⟨e,s',h1,h2,h3⟩:=JCX h;exact⟨e,s',by grind [erp,opR,run_bind,J0w],h2,h3⟩
  ·cases h
 ·split at h
  ·rename_i hv hu;obtain⟨e,s',h1,h2,h3⟩:=JCT h;exact⟨e,s',by grind [erp,opR,run_bind,J0w],h2,h3⟩
  ·cases h
 ·split at h
  ·rename_i hv hu;obtain⟨e,s',h1,h2,h3⟩:=(JDo h).ok;exact⟨e,s',by grind [erp,opR,run_bind,J0w],h2,h3⟩
  ·cases h
 ·split at h
  ·rename_i hv hu;exact JGv F hv hu h
  ·cases h
 ·split at h
  ·rename_i hv hu;exact JFt F hv hu h
  ·cases h
 ·split at h
  ·rename_i hv;obtain⟨e,s',h1,h2,h3⟩:=(JGd h).ok;exact⟨e,s',by grind [erp,opR,run_bind,J0w],h2,h3⟩
  ·cases h
 ·rename_i f args n;split at h
  ·rename_i l hl;obtain⟨e1,e2⟩:=Jb2 hl;rw[Jgr]at e1;obtain⟨xs,ws,A,es,w,blks,v,res,y,fresh,q1,q2,q3,L,K,J,H,M,E,C,B,s',q,o⟩:=Jcf D hd h;rw[J95 _ _ (λx hx=>by simp_all)]at q1
   refine⟨_,s',?_,q,o⟩
   grind [erp,opR,run_bind,Jkz,J1L]
  ·cases h
 ·rename_i f args n;split at h
  ·rename_i l hl;obtain⟨e1,e2⟩:=Jb2 hl;obtain⟨xs,ws,A,es,w,blks,v,res,y,fresh,q1,q2,q3,L,K,J,H,M,E,C,B,s',q,o⟩:=Jcf D hd h;rw[e2]at q1;refine⟨_,s',?_,q,o⟩;simp_all [erp,JE6,J1L]
  ·cases h
 ·rename_i g args n;split at h
  ·rename_i f a c l I hl;obtain⟨e1,e2⟩:=Jb2 hl;rw[Jgr]at e1;obtain⟨xs,ws,A,es,w,blks,v,res,y,fresh,q1,q2,q3,L,K,J,H,M,E,C,B,s',q,o⟩:=Jcf D hd h;have N: ∀z:List TC,(z.map (λx=>((TV.a (.c x),false):TV×Bool))).map (λx=>J05 (lns s.sto) x.1)=z.map (J0u (lns s.sto)):=λz=>by rw[Jok];rfl
   rw[J95 _ _ (λx hx=>by
    grind),Jkk,Jkk,N,N]at q1
   refine⟨_,s',?_,q,o⟩;simp only[erp,opR,run_bind,J0w I,J07,JEQ,e1]
   grind [Jkz,J1L]
  ·rename_i f l I hl;obtain⟨e1,e2⟩:=Jb2 hl;rw[Jgr]at e1;obtain⟨xs,ws,A,es,w,blks,v,res,y,fresh,q1,q2,q3,L,K,J,H,M,E,C,B,s',q,o⟩:=Jcf D hd h;rw[J95 _ _ (λx hx=>by simp_all)]at q1
   refine⟨_,s',?_,q,o⟩;simp only[erp,opR,run_bind,J0w I,J07,JIk,e1,JhY,JbW]
   grind [Jkz,J1L]
  ·cases h
 ·split at h
  ·rename_i hv;obtain⟨e,s',h1,h2,h3⟩:=(JGX h).ok;exact⟨e,s',by grind [erp,opR,run_bind,J0w],h2,h3⟩
  ·cases h
 ·rename_i n;exact J29 (v:=vi .i64 n) rfl h
 ·split at h
  ·rename_i hv hu;obtain⟨e,s',h1,h2,h3⟩:=JA5 h;exact⟨e,s',by grind [erp,opR,run_bind,J0w],h2,h3⟩
  ·cases h
 ·split at h
  ·rename_i hu;exact JED F hu (by simp_all [J1L]) h
  ·cases h
 ·split at h
  ·rename_i hv hu;exact JFq F hv hu h
  ·cases h
 ·split at h
  ·rename_i hv hu;exact JFj F hv hu (by simp_all [J1L]) h
  ·cases h
 ·split at h
  ·rename_i hv hu;obtain⟨e,s',h1,h2,h3⟩:=(JK2 h).ok;exact⟨e,s',by grind [erp,opR,run_bind,J0w],h2,h3⟩
  ·cases h
 ·rename_i f first caps
  split at h
  ·rename_i a c ha hc;refine J29 (v:=.a (.fn f a c)) ?_ h;simp_all [erp,JCV,JEQ]
  ·cases h
 ·exact Jyw F hd h
 ·exact JAz F hd h
 ·split at h
  ·rename_i hv;exact JAy F (by have:=J8a hd 0 (by simp[J1L]);simp_all) hv h
  ·cases h
structure J8X where
 op:TOp
 dst:Option Nat
 g:Option (Nat×Bool)
def eri(i:J8X):J1w:=⟨erp i.op,i.dst,i.g⟩
def rbE(g:Nat)(v:TV):List (Nat×TV)->List (Nat×TV)
 |[]=>[]
 |(m,u)::r=>if m=g then(m,v)::r else(m,u)::rbE g v r
def rb(g:Nat)(v:TV)(s:TSt):TSt:=⟨rbE g v s.env,s.sto⟩
theorem JvL{g:Nat}{v:TV}{s:TSt}(h:tlk g s.env=some v):rb g v s=s:=by
 have e: ∀env:List (Nat×TV),tlk g env=some v->rbE g v env=env:=by
  intro env
  induction env with
  |nil=>intro h;cases h
  |cons x r ih=>
   grind [tlk,rbE]
 simp_all [rb]
def JBu(G:TG)(i:J8X)(new:Nat)(s:TSt)(k:TSt->Option R):Option R:=
 match i.g with
 |none=>if J9A s new (J1L i.op)=true then top G i.op i.dst new s k else none
 |some (g,e)=>match tlk g s.env with
  |some (.a (.c (.d .b x)))=>if x=e then
   (if J9A s new (J1L i.op)=true then top G i.op i.dst new (rb g (vb e) s) k else none)
   else k (J0K i.dst uv (rb g (vb !e) s))
  |some (.tup [])=>k (J0K i.dst uv s)
  |_=>none
theorem Jzc{F:Orc}{G:TG}(w:GOk F G){i:J8X}{new:Nat}{s:TSt}{k:TSt->Option R}{r:R}(h:JBu G i new s k=some r):Ok (J1C F (eri i) new) i.dst s k r:=by
 have q: ∀{s:TSt},J9A s new (J1L i.op)=true->top G i.op i.dst new s k=some r->Ok (opD F (erp i.op) new) i.dst s k r:=by
  intro s hd h;obtain⟨e,s',h1,h2,h3⟩:=JJi w hd h;refine⟨e,s',?_,h2,h3⟩
  grind [opD,run_bind,JfY,JvJ]
 unfold JBu at h;split at h
 ·grind [J1C,eri]
 ·rename_i g j o;split at h
  ·rename_i x hx;have hl:lk g (Jy s).env=some (.p (.b x)):=by show lk g (J5R _ s.env)=_;rw[JcP,hx];rfl
   split at h
   ·rename_i hw;subst hw;rw[JvL hx]at h;split at h
    ·rename_i hd;obtain⟨e,s',h1,h2,h3⟩:=q hd h;refine⟨e,s',?_,h2,h3⟩
     grind [J1C,eri,J87]
    ·cases h
   ·rename_i hw;have n:x= !j:=by clear hl hx h;cases x<;>cases j<;>first|rfl|grind
    subst n;rw[JvL hx]at h;refine J29 (v:=uv) ?_ h;simp only[J1C,eri,o,J87,hl,J07];rw[if_neg hw];rfl
  ·rename_i hx;have hl:lk g (Jy s).env=some (.tup []):=by show lk g (J5R _ s.env)=_;rw[JcP,hx];rfl
   refine J29 (v:=uv) ?_ h;simp only[J1C,eri,o,J87,hl,J07,JZ];rfl
  ·cases h
def JAb(G:TG):List J8X->Nat->TSt->(TSt->Option R)->Option R
 |[],_,s,k=>k s
 |i::r,new,s,k=>JBu G i new s λs=>JAb G r (new+J1L i.op) s k
theorem Jzv{F:Orc}{G:TG}(g:GOk F G): ∀{ins:List J8X} {new:Nat} {s:TSt} {k:TSt->Option R} {r:R},JAb G ins new s k=some r-> ∃s',J3l F (ins.map eri) new (Jy s)=some (Jy s')/\k s'=some r
 |[],new,s,k,r,h=>⟨s,rfl,h⟩
 |i::q,new,s,k,r,h=>by
  simp only[JAb]at h;obtain⟨e,s1,h1,h2,h⟩:=Jzc g h;obtain⟨j,h3,h4⟩:=Jzv g h
  grind [J3l,eri,JfY]
def JlI:List J8X->Nat
 |[]=>0
 |i::r=>J1L i.op+JlI r
theorem Jk2: ∀ins:List J8X,news (ins.map eri)=JlI ins
 |[]=>rfl
 |i::r=>by
  simp only[J1q,news,JlI,Jk2 r]
  grind [eri,JfY]
def Jt3(n:Nat)(s:TSt):TSt:=if n=0 then s else⟨s.env,s.sto++List.replicate n .dead⟩
theorem Jwc(sto:List TB)(n:Nat):lns (sto++List.replicate n .dead)=lns sto:=by
 funext c
 unfold lns;rcases zQ3 c sto.length with h|h
 ·grind
 ·rw[JeV h,JcE h,List.getElem?_replicate];split<;>rfl
theorem JuP(n:Nat)(s:TSt):Jy (Jt3 n s)=⟨(Jy s).env,room n (Jy s).sto⟩:=by
 unfold Jt3 room;split
 ·rfl
 ·unfold Jy;rw[Jwc];simp only[Jkk,JC9];rfl
end
end Go.Am
end
section
namespace Go.Am
def Rb{α:Type}(S:Nat->Prop)(m:RM α)(st:St):Prop:= ∀b,Loc.blk b∈m.reads st->S b
section
variable {α β:Type} {S:Nat->Prop} {st:St}
theorem J0n(a:α):Rb S (.ret a) st:=λb h=>by simp[RM.reads]at h
theorem JY:Rb S (.fail:RM α) st:=λb h=>by simp[RM.reads]at h
theorem J0e{m:RM α}{f:α->RM β}(h:Rb S m st)(hf: ∀a,m.run st=some a->Rb S (f a) st):Rb S (m.bind f) st:=by
 intro b hb;rw[J65]at hb;rcases J2h.1 hb with hb|hb
 ·exact h b hb
 ·cases hm:m.run st with
  |none=>rw[hm]at hb;simp at hb
  |some a=>rw[hm]at hb;exact hf a hm b (by simpa using hb)
theorem J8j{b:Nat}{k:Blk->RM α}(hb:S b)(h: ∀v,st.sto[b]?=some v->Rb S (k v) st):Rb S (.blk b k) st:=by
 intro c hc;simp only[RM.reads,J40]at hc;rcases hc with hc|hc
 ·injection hc with hc;subst hc;exact hb
 ·cases hv:st.sto[b]? with
  |none=>rw[hv]at hc;simp at hc
  |some v=>rw[hv]at hc;exact h v hv c hc
theorem Jz6{n:Nat}{k:AV->RM α}(h: ∀v,lk n st.env=some v->Rb S (k v) st):Rb S (.slot n k) st:=by
 intro c hc;simp only[RM.reads,J40]at hc;rcases hc with hc|hc
 ·cases hc
 ·cases hv:lk n st.env with
  |none=>rw[hv]at hc;simp at hc
  |some v=>rw[hv]at hc;exact h v hv c hc
theorem Jl9(x:Option AV):Rb S (val x) st:=by cases x<;>first|exact JY|exact J0n _
theorem J7d(x:Opd):Rb S (ev x) st:=by cases x<;>first|exact J0n _|exact Jz6 λv _=>J0n v
theorem Jts: ∀xs:List Opd,Rb S (evs xs) st
 |[]=>J0n _
 |x::r=>J0e (J7d x) λv _=>J0e (Jts r) λvs _=>J0n _
theorem JwO(x:Option Opd):Rb S (evo x) st:=by
 cases x with
 |none=>exact J0n _
 |some x=>exact J0e (J7d x) λv _=>J0n _
end
def J5T:AV->List Nat
 | .ptr b _=>[b]
 | .slr b _ _=>[b]
 | .ep b _ _ _=>[b]
 |_=>[]
def avR:AV->List Nat
 | .agg cs=>cs.flatMap J5T
 |x=>J5T x
section
variable {S:Nat->Prop} {st:St}
theorem JIg{x:AV}(h: ∀b∈J5T x,S b):Rb S (fz.fz1 x) st:=by
 cases x with
 |slr b i n=>
  refine J8j (h b (by simp[J5T])) λv _=>?_;cases v with
  |arr w esz rows=>dsimp only;split<;>first|exact J0n _|exact JY
  |_=>exact JY
 |p c=>exact J0n _
 |_=>exact JY
theorem JE5: ∀{xs:List AV},(∀b∈xs.flatMap J5T,S b)->Rb S (fz.fzL xs) st
 |[],_=>J0n _
 |x::r,h=>J0e (JIg λb hb=>h b (by simp[hb])) λa _=>J0e (JE5 λb hb=>h b (by simp only[List.flatMap_cons,J2h];exact .inr hb)) λc _=>J0n _
theorem Jmv{x:AV}(h: ∀b∈avR x,S b):Rb S (fz x) st:=by
 cases x with
 |slr b i n=>
  refine J8j (h b (by simp[avR,J5T])) λv _=>?_;cases v with
  |arr w esz rows=>dsimp only;split<;>first|exact J0n _|exact JY
  |_=>exact JY
 |p c=>exact J0n _
 |data cs=>exact J0n _
 |agg cs=>exact JE5 h
 |_=>exact JY
theorem JJO{x:AV}{a:List PV×List (Nat×Blk)}(h:(fz.fz1 x).run st=some a): ∀y∈a.2,y.1∈J5T x:=by
 cases x with
 |slr b i n=>
  simp only[fz.fz1,J1H]at h;obtain⟨v,_,h⟩:=J2K.1 h;cases v with
  |arr w esz rows=>
   dsimp only at h;split at h
   ·injection h with h;subst h;simp[J5T]
   ·cases h
  |_=>cases h
 |p c=>injection h with h;subst h;simp
 |_=>cases h
theorem JCt: ∀{xs:List AV} {a:List PV×List (Nat×Blk)},(fz.fzL xs).run st=some a-> ∀y∈a.2,y.1∈xs.flatMap J5T
 |[],a,h,y,hy=>by injection h with h;subst h;simp at hy
 |x::r,a,h,y,hy=>by
  simp only[fz.fzL]at h;obtain⟨c,h1,h⟩:=bind_some h;obtain⟨e,h2,h⟩:=bind_some h;injection h with h;subst h;simp only[J2h]at hy;simp only[List.flatMap_cons,J2h];rcases hy with hy|hy
  ·exact .inl (JJO h1 y hy)
  ·exact .inr (JCt h2 y hy)
theorem JmM{x:AV}{a:List PV×List (Nat×Blk)}(h:(fz x).run st=some a): ∀y∈a.2,y.1∈avR x:=by
 cases x with
 |slr b i n=>
  simp only[fz,J1H]at h;obtain⟨v,_,h⟩:=J2K.1 h;cases v with
  |arr w esz rows=>
   dsimp only at h;split at h
   ·injection h with h;subst h;simp[avR,J5T]
   ·cases h
  |_=>cases h
 |p c=>injection h with h;subst h;simp
 |data cs=>injection h with h;subst h;simp
 |agg cs=>exact JCt h
 |_=>cases h
theorem JnG{esz:Nat}{x:AV}(h: ∀b∈avR x,S b):Rb S (J2S esz x) st:=by
 unfold J2S;split
 ·split<;>first|exact J0n _|exact JY
 ·split<;>first|exact J0n _|exact JY
 ·refine J8j (h _ (by simp[avR,J5T])) λv _=>?_;split
  ·split<;>first|exact J0n _|exact JY
  ·exact JY
 ·exact JY
theorem JHs{agg:Bool}{size:Nat}{x:AV}(h: ∀b∈avR x,S b):Rb S (J4z agg size x) st:=by
 unfold J4z;split
 ·split<;>first|exact Jl9 _|exact JY
 ·refine J8j (h _ (by simp[avR,J5T])) λv _=>?_;split
  ·split<;>first|exact Jl9 _|exact JY
  ·exact JY
 ·refine J8j (h _ (by simp[avR,J5T])) λv _=>?_;split
  ·split
   ·split
    ·split<;>first|exact Jl9 _|exact JY
    ·exact JY
   ·exact JY
  ·exact JY
 ·exact JY
theorem Jln{x:Option AV}{e:Eff}(h:(val x).run st=some e):e.ws=[]:=by
 cases x with
 |none=>cases h
 |some v=>injection h with h;subst h;rfl
theorem JHk{agg:Bool}{size:Nat}{x:AV}{e:Eff}(h:(J4z agg size x).run st=some e):e.ws=[]:=by
 unfold J4z at h;split at h
 ·split at h<;>first|exact Jln h|cases h
 ·simp only[J1H]at h;obtain⟨v,_,h⟩:=J2K.1 h;split at h
  ·split at h<;>first|exact Jln h|cases h
  ·cases h
 ·simp only[J1H]at h;obtain⟨v,_,h⟩:=J2K.1 h;split at h
  ·split at h
   ·split at h
    ·split at h<;>first|exact Jln h|cases h
    ·cases h
   ·cases h
  ·cases h
 ·cases h
theorem JFO{size:Nat}{x v:AV}(h: ∀b∈avR x,S b)(hv: ∀b∈avR v,S b):Rb S (J42 size x v) st:=by
 unfold J42;split
 ·refine J8j (h _ (by simp[avR,J5T])) λy _=>?_;split
  ·split
   ·split
    ·split<;>first|exact J0n _|exact JY
    ·exact JY
   ·exact JY
  ·exact JY
 ·refine J8j (h _ (by simp[avR,J5T])) λy _=>?_;split
  ·split
   ·split
    ·refine J0e (Jmv hv) λa _=>?_;split
     ·split<;>first|exact J0n _|exact JY
     ·exact JY
    ·exact JY
   ·exact JY
  ·exact JY
 ·exact JY
theorem JGq{size:Nat}{x v:AV}{e:Eff}(h:(J42 size x v).run st=some e): ∀y∈e.ws,y.1∈avR x++avR v:=by
 unfold J42 at h;split at h
 ·simp only[J1H]at h;obtain⟨w,_,h⟩:=J2K.1 h;split at h
  ·split at h
   ·split at h
    ·split at h
     ·injection h with h;subst h;simp[avR,J5T]
     ·cases h
    ·cases h
   ·cases h
  ·cases h
 ·simp only[J1H]at h;obtain⟨w,_,h⟩:=J2K.1 h;split at h
  ·split at h
   ·split at h
    ·obtain⟨a,h1,h⟩:=bind_some h;split at h
     ·split at h
      ·injection h with h;subst h;intro y hy;simp only[J2h,JaO]at hy⊢;rcases hy with hy|rfl
       ·exact .inr (JmM h1 y hy)
       ·exact .inl (by simp[avR,J5T])
      ·cases h
     ·cases h
    ·cases h
   ·cases h
  ·cases h
 ·cases h
theorem JE9{esz:Nat}{x i:AV}(h: ∀b∈avR x,S b):Rb S (J6R esz x i) st:=by
 unfold J6R;split
 ·split
  ·split<;>first|exact J0n _|exact JY
  ·exact JY
 ·refine J8j (h _ (by simp[avR,J5T])) λv _=>?_;split
  ·split<;>first|exact J0n _|exact JY
  ·exact JY
 ·exact JY
theorem JGg{esz:Nat}{x i:AV}{e:Eff}(h:(J6R esz x i).run st=some e):e.ws=[]:=by
 unfold J6R at h;split at h
 ·split at h
  ·split at h
   ·injection h with h;subst h;rfl
   ·cases h
  ·cases h
 ·simp only[J1H]at h;obtain⟨v,_,h⟩:=J2K.1 h;split at h
  ·split at h
   ·injection h with h;subst h;rfl
   ·cases h
  ·cases h
 ·cases h
theorem JJQ{esz bytes:Nat}{x y:AV}(h: ∀b∈avR x,S b)(hy: ∀b∈avR y,S b):Rb S (J8b esz bytes x y) st:=by
 unfold J8b;split
 ·refine J8j (h _ (by simp[avR,J5T])) λv _=>?_;split
  ·refine J0e (JnG hy) λnew _=>?_;split<;>first|exact J0n _|exact JY
  ·exact JY
 ·exact JY
theorem JIY{esz bytes:Nat}{x y:AV}{e:Eff}(h:(J8b esz bytes x y).run st=some e): ∀z∈e.ws,z.1∈avR x:=by
 unfold J8b at h;split at h
 ·simp only[J1H]at h;obtain⟨v,_,h⟩:=J2K.1 h;split at h
  ·obtain⟨new,_,h⟩:=bind_some h;split at h
   ·injection h with h;subst h;simp[avR,J5T]
   ·cases h
  ·cases h
 ·cases h
theorem Jz9: ∀{k new:Nat},(∀j,j<k->S (new+j))->Rb S (Jcp new k) st
 |0,_,_=>J0n _
 |k+1,new,h=>J8j (h 0 (by omega)) λv _=>by
  cases v with
  |dead=>exact Jz9 λj hj=>by have:=h (j+1) (by omega);rwa[Nat.add_comm j 1,<-Jxl]at this
  |_=>exact JY
theorem JCM: ∀{xs:List Opd},(∀x∈xs,∀v,(ev x).run st=some v-> ∀b∈avR v,S b)->Rb S (fzs xs) st
 |[],_=>J0n _
 |x::r,h=>J0e (J7d x) λv hv=>J0e (Jmv (h x (by simp) v hv)) λa _=>J0e (JCM λy hy=>h y (by simp[hy])) λc _=>J0n _
theorem Ju6: ∀{xs:List Opd} {a:List (List PV)×List (Nat×Blk)},(∀x∈xs,∀v,(ev x).run st=some v-> ∀b∈avR v,S b)->(fzs xs).run st=some a-> ∀y∈a.2,S y.1
 |[],a,_,h,y,hy=>by injection h with h;subst h;simp at hy
 |x::r,a,g,h,y,hy=>by
  simp only[fzs]at h;obtain⟨v,j,h⟩:=bind_some h;obtain⟨c,h1,h⟩:=bind_some h;obtain⟨e,h2,h⟩:=bind_some h;injection h with h;subst h;simp only[J2h]at hy;rcases hy with hy|hy
  ·exact g x (by simp) v j _ (JmM h1 y hy)
  ·exact Ju6 (λz hz=>g z (by simp[hz])) h2 y hy
theorem JzR{x:AV}(h: ∀b∈avR x,S b):Rb S (J93 x) st:=by
 cases x with
 |slr b i n=>refine J0e (Jmv h) λa _=>?_;split<;>first|exact J0n _|exact JY
 |agg cs=>exact J0e (Jmv h) λa _=>J0n _
 |tup cs=>exact JY
 |_=>exact J0n _
theorem Jzt{x:AV}{a:AV×List (Nat×Blk)}(h:(J93 x).run st=some a): ∀y∈a.2,y.1∈avR x:=by
 cases x with
 |slr b i n=>
  simp only[J93]at h;obtain⟨c,h1,h⟩:=bind_some h;split at h
  ·injection h with h;subst h;exact JmM h1
  ·cases h
 |agg cs=>simp only[J93]at h;obtain⟨c,h1,h⟩:=bind_some h;injection h with h;subst h;exact JmM h1
 |tup cs=>cases h
 |_=>injection h with h;subst h;simp
theorem Jdc: ∀{m:List Bool} {xs:List AV},(∀x∈xs,∀b∈avR x,S b)->Rb S (J3N m xs) st
 |_,[],_=>by unfold J3N;exact J0n _
 |[],x::r,h=>J0e (JzR (h x (by simp))) λa _=>J0e (Jdc λy hy=>h y (by simp[hy])) λc _=>J0n _
 |true::m,x::r,h=>J0e (Jdc λy hy=>h y (by simp[hy])) λc _=>J0n _
 |false::m,x::r,h=>J0e (JzR (h x (by simp))) λa _=>J0e (Jdc λy hy=>h y (by simp[hy])) λc _=>J0n _
theorem Jd4: ∀{m:List Bool} {xs:List AV} {a:List AV×List (Nat×Blk)},(∀x∈xs,∀b∈avR x,S b)->(J3N m xs).run st=some a-> ∀y∈a.2,S y.1
 |m,[],a,_,h,y,hy=>by unfold J3N at h;injection h with h;subst h;simp at hy
 |[],x::r,a,g,h,y,hy=>by
  simp only[J3N]at h;obtain⟨c,h1,h⟩:=bind_some h;obtain⟨e,h2,h⟩:=bind_some h;injection h with h;subst h;simp only[J2h]at hy;rcases hy with hy|hy
  ·exact g x (by simp) _ (Jzt h1 y hy)
  ·exact Jd4 (λz hz=>g z (by simp[hz])) h2 y hy
 |true::m,x::r,a,g,h,y,hy=>by simp only[J3N]at h;obtain⟨e,h2,h⟩:=bind_some h;injection h with h;subst h;exact Jd4 (λz hz=>g z (by simp[hz])) h2 y hy
 |false::m,x::r,a,g,h,y,hy=>by
  simp only[J3N]at h;obtain⟨c,h1,h⟩:=bind_some h;obtain⟨e,h2,h⟩:=bind_some h;injection h with h;subst h;simp only[J2h]at hy;rcases hy with hy|hy
  ·exact g x (by simp) _ (Jzt h1 y hy)
  ·exact Jd4 (λz hz=>g z (by simp[hz])) h2 y hy
theorem JzV{ws:List (Nat×Blk)}{b:Nat}(h:S b):Rb S (JeD ws b) st:=J8j h λv _=>by split<;>exact J0n _
theorem Jnj{ws:List (Nat×Blk)}: ∀{r:List Nat} {acc:List Ent},(∀b∈r,S b)->Rb S (J4e ws (r.map .whole) acc) st
 |[],acc,_=>J0n _
 |b::r,acc,h=>by simp only[J1q,J4e];refine J0e (JzV (h b (by simp))) λx _=>?_;cases x<;>exact Jnj λc hc=>h c (by simp[hc])
theorem JpS{ws:List (Nat×Blk)}{ρ:Ent->Option Nat}: ∀{r:List Nat},(∀b∈r,S b)->Rb S (J5r ws ρ (r.map .whole)) st
 |[],_=>J0n _
 |b::r,h=>by
  simp only[J1q,J5r,JgF];refine J0e (J0e (JzV (h b (by simp))) λx _=>?_) λx _=>J0e (JpS λc hc=>h c (by simp[hc])) λl _=>J0n _;cases x with
  |box cs=>dsimp only;split<;>first|exact J0n _|exact JY
  |arr w e rows=>exact J0n _
  |dead=>exact JY
theorem Jml{ws:List (Nat×Blk)}{es:List Ent}{new:Nat}: ∀{r:List Nat} {l:List Blk},Rb S (J3A ws es new (r.map .whole) l) st
 |[],l=>by cases l<;>exact J0n _
 |b::r,[]=>JY
 |b::r,x::l=>by
  simp only[J1q,J3A];refine J0e ?_ λy _=>J0e Jml λg _=>J0n _;cases x with
  |box cs=>simp only[Jai];split<;>first|exact J0n _|exact JY
  |arr w e rows=>exact J0n _
  |dead=>exact JY
theorem Jmg{ws:List (Nat×Blk)}{es:List Ent}{new:Nat}: ∀{r:List Nat} {l:List Blk} {g:List (Nat×Blk)},(J3A ws es new (r.map .whole) l).run st=some g-> ∀y∈g,y.1∈r
 |[],l,g,h,y,hy=>by
  have:g=[]:=by cases l<;>(injection h with h;exact h.symm)
  subst this;simp at hy
 |b::r,[],g,h,_,_=>by cases h
 |b::r,x::l,g,h,y,hy=>by
  simp only[J1q,J3A]at h;obtain⟨z,h1,h⟩:=bind_some h;obtain⟨j,h2,h⟩:=bind_some h;injection h with h;subst h;rcases J40.1 hy with rfl|hy
  ·cases x with
   |box cs=>
    simp only[Jai]at h1;split at h1
    ·injection h1 with h1;subst h1;simp
    ·cases h1
   |arr w e rows=>injection h1 with h1;subst h1;simp
   |dead=>cases h1
  ·exact JwG _ (Jmg h2 y hy)
theorem JgB{es:List Ent}{new:Nat}: ∀{l:List Blk} {k:Nat} {g:List (Nat×Blk)},J36 es new k l=some g-> ∀y∈g,∃j,j<l.length/\y.1=k+j
 |[],k,g,h,y,hy=>by injection h with h;subst h;simp at hy
 | .dead::l,k,g,h,_,_=>by cases h
 | .box cs::l,k,g,h,y,hy=>by
  simp only[J36]at h;split at h
  ·rename_i c n _ hz;injection h with h;subst h;rcases J40.1 hy with rfl|hy
   ·exact⟨0,by simp,rfl⟩
   ·obtain⟨j,hj,e⟩:=JgB hz y hy;exact⟨j+1,by simp;omega,by omega⟩
  ·cases h
 | .arr w e rows::l,k,g,h,y,hy=>by
  simp only[J36]at h;split at h
  ·rename_i n hz;injection h with h;subst h;rcases J40.1 hy with rfl|hy
   ·exact⟨0,by simp,rfl⟩
   ·obtain⟨j,hj,e⟩:=JgB hz y hy;exact⟨j+1,by simp;omega,by omega⟩
  ·cases h
theorem JjV(e x:Ent)(l:List Ent)(h:e∈l):e∈JbB x l:=by unfold JbB;split<;>simp[h]
mutual
theorem JG4: ∀(x:AV) (l:List Ent) (e:Ent),e∈l->e∈J11 x l
 | .ptr b off,l,e,h=>JjV e _ l h
 | .slr b i n,l,e,h=>JjV e _ l h
 | .ep b g i off,l,e,h=>JjV e _ l h
 | .fn f a c,l,e,h=>entsL_sub c _ e (entsL_sub a l e h)
 | .agg cs,l,e,h=>entsL_sub cs l e h
 | .tup cs,l,e,h=>entsL_sub cs l e h
 | .p _,l,e,h=>h
 | .data _,l,e,h=>h
 | .cp _ _,l,e,h=>h
 | .unk,l,e,h=>h
theorem entsL_sub: ∀(xs:List AV) (l:List Ent) (e:Ent),e∈l->e∈J11.entsOfL xs l
 |[],l,e,h=>h
 |x::r,l,e,h=>entsL_sub r _ e (JG4 x l e h)
end
theorem Jv5{ws:List (Nat×Blk)}: ∀{r acc l:List Ent},(J4e ws r acc).run st=some l-> ∀e∈acc,e∈l:=by
 intro r
 induction r with
 |nil=>intro acc l h e he;injection h with h;subst h;exact he
 |cons x r ih=>
  intro acc l h e he;cases x with
  |whole b=>
   simp only[J4e]at h;obtain⟨y,_,h⟩:=bind_some h;cases y with
   |box cs=>exact ih h e (entsL_sub cs acc e he)
   |_=>exact ih h e he
  |elem b g i=>exact ih h e he
theorem JpZ{F:Orc}{f:FuncId}{xs:List AV}{ws:List (Nat×Blk)}{e0 g ids:List Nat}{n new:Nat}(k: ∀b∈ids,S b)(hw: ∀y∈ws,S y.1)(hn: ∀j,j<n->S (new+j))
  (o:J11.entsOfL xs []=e0.map .whole) (h1:(J4e ws (e0.map .whole) (e0.map .whole)).run st=some (g.map .whole)) (h2:(J4e ws (g.map .whole) (g.map .whole)).run st=some (ids.map .whole)):
  Rb S (J3d F f (xs,ws) n new) st/\(∀e,(J3d F f (xs,ws) n new).run st=some e-> ∀y∈e.ws,S y.1):=by
 have s1: ∀b∈g,S b:=λb hb=>by have:=Jv5 h2 (.whole b) (J9G.2 ⟨b,hb,rfl⟩);obtain⟨c,hc,e⟩:=J9G.1 this;injection e with e;subst e;exact k c hc
 have s0: ∀b∈e0,S b:=λb hb=>by have:=Jv5 h1 (.whole b) (J9G.2 ⟨b,hb,rfl⟩);obtain⟨c,hc,e⟩:=J9G.1 this;injection e with e;subst e;exact s1 c hc
 constructor
 ·unfold J3d;simp only[o];refine J0e (Jnj s0) λa ha=>?_;rw[h1]at ha;injection ha with ha;subst ha
  refine J0e (Jnj s1) λa ha=>?_;rw[h2]at ha;injection ha with ha;subst ha
  split
  ·split
   ·exact JY
   ·refine J0e (JpS k) λbl _=>?_;split
    ·exact JY
    ·split
     ·split
      ·exact J0e Jml λ_ _=>J0n _
      ·exact JY
     ·exact JY
  ·exact JY
 ·intro e h y hy;unfold J3d at h;simp only[o]at h;obtain⟨a,ha,h⟩:=bind_some h;rw[h1]at ha;injection ha with ha;subst ha
  obtain⟨a,ha,h⟩:=bind_some h;rw[h2]at ha;injection ha with ha;subst ha
  split at h
  ·split at h
   ·cases h
   ·obtain⟨bl,_,h⟩:=bind_some h;split at h
    ·cases h
    ·split at h
     ·rename_i hlen;split at h
      ·rename_i v fresh _ hf;obtain⟨q,hb,h⟩:=bind_some h;injection h with h;subst h;simp only[J2h]at hy;rcases hy with(hy|hy)|hy
       ·exact hw y hy
       ·exact k _ (Jmg hb y hy)
       ·obtain⟨j,hj,e⟩:=JgB hf y hy;rw[e];exact hn j (by simp only[JkW,J6y]at hj hlen;omega)
      ·cases h
     ·cases h
  ·cases h
end
def tcR:TC->List Nat
 | .ptr b _=>[b]
 | .slr b=>[b]
 | .slo b _=>[b]
 | .ep b _ _=>[b]
 | .epo b _ _ _=>[b]
 |_=>[]
def tvR:TV->List Nat
 | .a (.c x)=>tcR x
 | .a (.m _ cs)=>cs.flatMap tcR
 |_=>[]
theorem JJr(L:Nat->Nat)(x:TC):J5T (J0u L x)=tcR x:=by cases x<;>rfl
theorem J52(L:Nat->Nat)(v:TV):avR (J05 L v)=tvR v:=by
 cases v with
 |a x=>
  cases x with
  |c x=>cases x<;>rfl
  |dt t x=>rfl
  |m t cs=>
   show(cs.map (J0u L)).flatMap J5T=cs.flatMap tcR;rw[List.flatMap_map]
   congr 1
   funext x;exact JJr L x
  |fn f a c=>rfl
 |tup vs=>rfl
def rng(new:Nat):Nat->List Nat
 |0=>[]
 |k+1=>new::rng (new+1) k
theorem J7E: ∀{k new j:Nat},j<k->new+j∈rng new k
 |0,_,_,h=>by omega
 |k+1,new,j,h=>by
  cases j with
  |zero=>simp[rng]
  |succ j=>simp only[rng,J40];right;rw[show new+(j+1)=new+1+j by omega];exact J7E (by omega)
def J7H{α β:Type}(m:Option α)(f:α->Option β):Option β:=match m with
 |some x=>f x
 |none=>none
theorem J23{α β:Type}{m:Option α}{f:α->Option β}{b:β}(h:J7H m f=some b): ∃a,m=some a/\f a=some b:=by
 cases m with
 |none=>cases h
 |some a=>exact⟨a,rfl,h⟩
def JEC(l:List (TV×Bool))(s:TSt):Option (List Nat):=JmS l s λxs s1=>J7H (Jfr xs []) λe=>J7H (JdT s1 e e) λg=>JdT s1 g g
def tcU(l:List (TV×Bool))(n new:Nat)(s:TSt):Option (List Nat×List Nat):=J7H (JEC l s) λids=>some (rng new n++(l.flatMap λx=>tvR x.1)++ids,rng new n++(l.flatMap λx=>tvR x.1)++ids)
def tpR(s:TSt):List (Nat×TO)->Option (List Nat)
 |[]=>some []
 |(_,o)::r=>J7H (tev o s) λv=>J7H (tpR s r) λl=>some (tvR v++l)
def uw(op:TOp)(new:Nat)(s:TSt):Option (List Nat×List Nat):=
 match op with
 | .load _ _ x=>J7H (tev x s) λv=>some (tvR v,[])
 | .newbox _=>some ([new],[new])
 | .store _ x y=>J7H (tev x s) λv=>J7H (tev y s) λu=>some (tvR v++tvR u,tvR v++tvR u)
 | .iaddr _ x _=>J7H (tev x s) λv=>some (tvR v,[])
 | .lits own t n ps=>J7H (tpR s ps) λl=>some (rng new (J1L (.lits own t n ps))++l,rng new (J1L (.lits own t n ps))++l)
 | .appn _ _ y=>J7H (tev y s) λv=>some (new::tvR v,[new])
 | .app _ _ x y=>J7H (tev x s) λv=>J7H (tev y s) λu=>some (tvR v++tvR u,tvR v)
 | .slice _ x _ _ _=>J7H (tev x s) λv=>some (tvR v,tvR v)
 | .call _ args n=>J7H (Ji5 (args.map λx=>(x,false)) s) λl=>tcU l n new s
 | .callo _ args n=>J7H (Ji5 args s) λl=>tcU l n new s
 | .mkslice own t bytes l c=>some (rng new (J1L (.mkslice own t bytes l c)),rng new (J1L (.mkslice own t bytes l c)))
 | .conv k x=>J7H (tev x s) λv=>some (rng new (J1L (.conv k x))++tvR v,rng new (J1L (.conv k x)))
 |_=>none
theorem J7t{F:Orc}{op:TOp}{new:Nat}{st:St}{S:Nat->Prop}(hd: ∀j,j<J1L op->S (new+j))(h:Rb S (opR F (erp op) new) st):Rb S (opD F (erp op) new) st:=by unfold opD;rw[JfY];exact J0e (Jz9 hd) λ_ _=>h
theorem J60{F:Orc}{op:AOp}{new:Nat}{st:St}{e:Eff}(h:(opD F op new).run st=some e):(opR F op new).run st=some e:=by unfold opD at h;obtain⟨_,_,h⟩:=bind_some h;exact h
def UW(F:Orc)(op:AOp)(new:Nat)(st:St)(U W:List Nat):Prop:=Rb (· ∈U) (opD F op new) st/\ ∀e,(opD F op new).run st=some e-> ∀y∈e.ws,y.1∈W
theorem J6b{x:TO}{s:TSt}{v:TV}(h:tev x s=some v){a:AV}(ha:(ev (erO x)).run (Jy s)=some a):a=J05 (lns s.sto) v:=by rw[J0w h]at ha;injection ha with ha;exact ha.symm
theorem JzY{l:List (TV×Bool)}{s:TSt}{ids:List Nat}(h:JEC l s=some ids): ∃(xs:List AV) (ws:List (Nat×Blk)) (e g:List Nat),(J3N (l.map (·.2)) (l.map λx=>J05 (lns s.sto) x.1)).run (Jy s)=some (xs,ws)/\
  J11.entsOfL xs []=e.map .whole/\(J4e ws (e.map .whole) (e.map .whole)).run (Jy s)=some (g.map .whole)/\(J4e ws (g.map .whole) (g.map .whole)).run (Jy s)=some (ids.map .whole):=by
 unfold JEC at h;obtain⟨xs,s1,ws,h1,j,h⟩:=JkN (Fzd.refl s) h;rw[JhY]at j;obtain⟨e,h2,h⟩:=J23 h;obtain⟨g,h3,h4⟩:=J23 h;exact⟨_,ws,e,g,h1,JdM (lns s.sto) (l:=[]) h2,J9D j h3,J9D j h4⟩
theorem JFQ{F:Orc}{f:FuncId}{vs:List AV}{n new:Nat}{st:St}{S:Nat->Prop}{a:List AV×List (Nat×Blk)}(ha:(J7l vs).run st=some a)(hr:Rb S (J7l vs) st)
  (h: ∀(_:Unit),Rb S (J3d F f a n new) st):Rb S (J5Q F f vs n new) st:=by
 unfold J5Q;refine J0e hr λk g=>?_;rw[ha]at g;injection g with g;subst g
 have h:=h ();unfold J3d at h;intro b hb;refine h b ?_
 revert hb
 simp only[J65];intro hb;rcases J2h.1 hb with hb|hb
 ·exact J2h.2 (.inl hb)
 ·refine J2h.2 (.inr ?_)
  revert hb
  cases(J4e a.2 (J11.entsOfL a.1 []) (J11.entsOfL a.1 [])).run st with
  |none=>intro hb;exact hb
  |some j=>
   simp only[J3n,Option.getD_some,J65];intro hb;rcases J2h.1 hb with hb|hb
   ·exact J2h.2 (.inl hb)
   ·refine J2h.2 (.inr ?_)
    revert hb
    cases(J4e a.2 j j).run st with
    |none=>intro hb;exact hb
    |some es=>
     simp only[J3n,Option.getD_some];split
     ·split
      ·intro hb;exact hb
      ·simp only[J65];intro hb;rcases J2h.1 hb with hb|hb
       ·exact J2h.2 (.inl hb)
       ·refine J2h.2 (.inr ?_)
        revert hb
        cases(J5r a.2 (λe=>J2k e es 0) es).run st with
        |none=>intro hb;exact hb
        |some bl=>
         simp only[J3n,Option.getD_some];split
         ·intro hb;exact hb
         ·split
          ·rename_i hlen;rw[if_pos (by omega)];intro hb;exact hb
          ·intro hb;simp[RM.reads]at hb
     ·intro hb;exact hb
theorem JKx(F:Orc){op:TOp}{new:Nat}{s:TSt}{U W:List Nat}(h:uw op new s=some (U,W)):UW F (erp op) new (Jy s) U W:=by
 unfold uw at h;split at h
 ·rename_i agg t x;obtain⟨v,hv,h⟩:=J23 h;injection h with h;injection h with h1 h2;subst h1 h2;refine⟨J7t (op:=.load agg t x) (λj hj=>by simp[J1L]at hj) (J0e (J7d _) λa ha=>?_),λe he y hy=>?_⟩
  ·rw[J6b hv ha];exact JHs λb hb=>by rw[J52]at hb;exact hb
  ·have he:=J60 he;simp only[erp,opR]at he;obtain⟨a,ha,he⟩:=bind_some he;rw[JHk he]at hy;simp at hy
 ·rename_i t;injection h with h;injection h with h1 h2;subst h1 h2;refine⟨J7t (op:=.newbox t) (λj hj=>by simp[J1L]at hj;subst hj;simp) (J0n _),λe he y hy=>?_⟩;have he:=J60 he;injection he with he;subst he;simp only[JaO]at hy;subst hy;simp
 ·rename_i t x y;obtain⟨v,hv,h⟩:=J23 h;obtain⟨u,hu,h⟩:=J23 h;injection h with h;injection h with h1 h2;subst h1 h2;refine⟨J7t (op:=.store t x y) (λj hj=>by simp[J1L]at hj) (J0e (J7d _) λa ha=>J0e (J7d _) λc hc=>?_),λe he z hz=>?_⟩
  ·rw[J6b hv ha,J6b hu hc];exact JFO (λb hb=>by rw[J52]at hb;simp[hb]) (λb hb=>by rw[J52]at hb;simp[hb])
  ·have he:=J60 he;simp only[erp,opR]at he;obtain⟨a,ha,he⟩:=bind_some he;obtain⟨c,hc,he⟩:=bind_some he;have:=JGq he z hz;rwa[J6b hv ha,J6b hu hc,J52,J52]at this
 ·rename_i t x i;obtain⟨v,hv,h⟩:=J23 h;injection h with h;injection h with h1 h2;subst h1 h2;refine⟨J7t (op:=.iaddr t x i) (λj hj=>by simp[J1L]at hj) (J0e (J7d _) λa ha=>J0e (J7d _) λc hc=>?_),λe he y hy=>?_⟩
  ·rw[J6b hv ha];exact JE9 λb hb=>by rw[J52]at hb;exact hb
  ·have he:=J60 he;simp only[erp,opR]at he;obtain⟨a,ha,he⟩:=bind_some he;obtain⟨c,hc,he⟩:=bind_some he;rw[JGg he]at hy;simp at hy
 ·rename_i own t n ps;obtain⟨l,hl,h⟩:=J23 h;injection h with h;injection h with h1 h2;subst h1 h2;have C: ∀x∈ps.map (λx=>erO x.2),∀v,(ev x).run (Jy s)=some v-> ∀b∈avR v,b∈rng new (J1L (.lits own t n ps))++l:=by
   have D: ∀(ps:List (Nat×TO)) (l:List Nat),tpR s ps=some l-> ∀x∈ps.map (λx=>erO x.2),∀v,(ev x).run (Jy s)=some v-> ∀b∈avR v,b∈l:=by
    intro ps
    induction ps with
    |nil=>intro l _ x hx;simp at hx
    |cons p ps ih=>
     intro l hl x hx v hv b hb;obtain⟨i,o⟩:=p;simp only[tpR]at hl;obtain⟨u,hu,hl⟩:=J23 hl;obtain⟨q,hq,hl⟩:=J23 hl;injection hl with hl;subst hl;simp only[J1q,J40]at hx;rcases hx with rfl|hx
     ·rw[J6b hu hv,J52]at hb;simp[hb]
     ·simp[ih q hq x hx v hv b hb]
   intro x hx v hv b hb;exact J2h.2 (.inr (D ps l hl x hx v hv b hb))
  have e1:(ps.map λx=>(x.1,erO x.2)).map (·.2)=ps.map λx=>erO x.2:=by simp
  refine⟨J7t (op:=.lits own t n ps) (λj hj=>J2h.2 (.inl (J7E hj))) ?_,λe he y hy=>?_⟩
  ·simp only[erp,opR,e1];refine J0e (JCM C) λa _=>?_;split
   ·split<;>exact J0n _
   ·exact JY
  ·have he:=J60 he;simp only[erp,opR,e1]at he;obtain⟨a,ha,he⟩:=bind_some he;split at he
   ·split at he
    ·rename_i ho;injection he with he;subst he;simp only[J2h,JaO]at hy;rcases hy with hy|rfl
     ·exact Ju6 C ha y hy
     ·exact J2h.2 (.inl (by have:=J7E (k:=J1L (.lits own t n ps)) (new:=new) (j:=0) (by simp[J1L,ho]);simpa using this))
    ·injection he with he;subst he;exact Ju6 C ha y hy
   ·cases he
 ·rename_i t bytes y;obtain⟨v,hv,h⟩:=J23 h;injection h with h;injection h with h1 h2;subst h1 h2;refine⟨J7t (op:=.appn t bytes y) (λj hj=>by simp[J1L]at hj;subst hj;simp) (J0e (J7d _) λa ha=>?_),λe he z hz=>?_⟩
  ·rw[J6b hv ha];refine J0e (JnG λb hb=>by rw[J52]at hb;simp[hb]) λrows _=>?_;split<;>first|exact J0n _|exact JY
  ·have he:=J60 he;simp only[erp,opR]at he;obtain⟨a,ha,he⟩:=bind_some he;obtain⟨rows,_,he⟩:=bind_some he;split at he
   ·injection he with he;subst he;simp only[JaO]at hz;subst hz;simp
   ·cases he
 ·rename_i t bytes x y;obtain⟨v,hv,h⟩:=J23 h;obtain⟨u,hu,h⟩:=J23 h;injection h with h;injection h with h1 h2;subst h1 h2;refine⟨J7t (op:=.app t bytes x y) (λj hj=>by simp[J1L]at hj) (J0e (J7d _) λa ha=>J0e (J7d _) λc hc=>?_),λe he z hz=>?_⟩
  ·rw[J6b hv ha,J6b hu hc];exact JJQ (λb hb=>by rw[J52]at hb;simp[hb]) (λb hb=>by rw[J52]at hb;simp[hb])
  ·have he:=J60 he;simp only[erp,opR]at he;obtain⟨a,ha,he⟩:=bind_some he;obtain⟨c,hc,he⟩:=bind_some he;have:=JIY he z hz;rwa[J6b hv ha,J52]at this
 ·rename_i G x lo hi mx;obtain⟨v,hv,h⟩:=J23 h;injection h with h;injection h with h1 h2;subst h1 h2;refine⟨J7t (op:=.slice G x lo hi mx) (λj hj=>by simp[J1L]at hj) (J0e (J7d _) λa ha=>J0e (JwO _) λ_ _=>J0e (JwO _) λ_ _=>J0e (JwO _) λ_ _=>?_),λe he z hz=>?_⟩
  ·have e:=J6b hv ha;split
   ·refine J0e (Jmv λb hb=>?_) λy _=>?_
    ·rw[e,J52]at hb;exact hb
    ·split
     ·split<;>first|exact J0n _|exact JY
     ·exact JY
   ·exact Jl9 _
  ·have he:=J60 he;simp only[erp,opR]at he;obtain⟨a,ha,he⟩:=bind_some he;obtain⟨_,_,he⟩:=bind_some he;obtain⟨_,_,he⟩:=bind_some he;obtain⟨_,_,he⟩:=bind_some he;have e0:=J6b hv ha;split at he
   ·obtain⟨y,hy,he⟩:=bind_some he;split at he
    ·split at he
     ·injection he with he;subst he;have:=JmM hy z hz;rwa[e0,J52]at this
     ·cases he
    ·cases he
   ·rw[Jln he]at hz;simp at hz
 ·rename_i f args n;obtain⟨l,hl,h⟩:=J23 h;unfold tcU at h;obtain⟨ids,hi,h⟩:=J23 h;injection h with h;injection h with h1 h2;subst h1 h2;obtain⟨xs,ws,H,I,q1,q2,q3,B⟩:=JzY hi;obtain⟨e1,e2⟩:=Jb2 hl;rw[Jgr]at e1;rw[J95 _ _ (λx hx=>by rw[e2,Jok]at hx;obtain⟨y,_,rfl⟩:=J9G.1 hx;rfl)]at q1
  have g: ∀x∈l.map (λx=>J05 (lns s.sto) x.1),∀b∈avR x,b∈rng new n++(l.flatMap λx=>tvR x.1)++ids:=by intro x hx b hb;obtain⟨y,hy,rfl⟩:=J9G.1 hx;rw[J52]at hb;simp only[J2h];exact .inl (.inr (List.mem_flatMap.2 ⟨y,hy,hb⟩))
  have E:Rb (· ∈rng new n++(l.flatMap λx=>tvR x.1)++ids) (J7l (l.map λx=>J05 (lns s.sto) x.1)) (Jy s):=by rw[<-Jch];exact Jdc g
  have r: ∀y∈ws,y.1∈rng new n++(l.flatMap λx=>tvR x.1)++ids:=by rw[<-Jch]at q1;exact Jd4 (S:=(· ∈rng new n++(l.flatMap λx=>tvR x.1)++ids)) g q1
  obtain⟨w,A⟩:=JpZ (F:=F) (f:=f) (S:=(· ∈rng new n++(l.flatMap λx=>tvR x.1)++ids)) (n:=n) (new:=new) (λb hb=>by simp[hb]) r
   (λj hj=>by simp only[J2h];exact .inl (.inl (J7E hj))) q2 q3 B
  refine⟨J7t (op:=.call f args n) (λj hj=>by simp only[J2h];exact .inl (.inl (J7E hj))) (J0e (Jts _) λa ha=>?_),λe he y hy=>?_⟩
  ·rw[e1]at ha;injection ha with ha;subst ha
   exact JFQ q1 E λ_=>w
  ·have he:=J60 he;simp only[erp,opR]at he;obtain⟨a,ha,he⟩:=bind_some he;rw[e1]at ha;injection ha with ha;subst ha
   obtain⟨ar,h1,h2⟩:=Jzy he;rw[q1]at h1;injection h1 with h1;subst h1
   exact A e h2 y hy
 ·rename_i f args n;obtain⟨l,hl,h⟩:=J23 h;unfold tcU at h;obtain⟨ids,hi,h⟩:=J23 h;injection h with h;injection h with h1 h2;subst h1 h2;obtain⟨xs,ws,H,I,q1,q2,q3,B⟩:=JzY hi;obtain⟨e1,e2⟩:=Jb2 hl;have g: ∀x∈l.map (λx=>J05 (lns s.sto) x.1),∀b∈avR x,b∈rng new n++(l.flatMap λx=>tvR x.1)++ids:=by intro x hx b hb;obtain⟨y,hy,rfl⟩:=J9G.1 hx;rw[J52]at hb;simp only[J2h];exact .inl (.inr (List.mem_flatMap.2 ⟨y,hy,hb⟩))
  rw[e2]at q1;have r: ∀y∈ws,y.1∈rng new n++(l.flatMap λx=>tvR x.1)++ids:=Jd4 (S:=(· ∈rng new n++(l.flatMap λx=>tvR x.1)++ids)) g q1;obtain⟨w,A⟩:=JpZ (F:=F) (f:=f) (S:=(· ∈rng new n++(l.flatMap λx=>tvR x.1)++ids)) (n:=n) (new:=new) (λb hb=>by simp[hb]) r
   (λj hj=>by simp only[J2h];exact .inl (.inl (J7E hj))) q2 q3 B
  refine⟨J7t (op:=.callo f args n) (λj hj=>by simp only[J2h];exact .inl (.inl (J7E hj))) (J0e (Jts _) λa ha=>?_),λe he y hy=>?_⟩
  ·rw[e1]at ha;injection ha with ha;subst ha
   refine J0e (Jdc g) λa ha=>?_;rw[q1]at ha;injection ha with ha;subst ha
   exact w
  ·have he:=J60 he;simp only[erp,opR]at he;obtain⟨a,ha,he⟩:=bind_some he;rw[e1]at ha;injection ha with ha;subst ha
   obtain⟨a,ha,he⟩:=bind_some he;rw[q1]at ha;injection ha with ha;subst ha
   exact A e he y hy
 ·rename_i own t bytes l c;injection h with h;injection h with h1 h2;subst h1 h2;refine⟨J7t (op:=.mkslice own t bytes l c) (λj hj=>J7E hj) (J0e (J7d _) λa ha=>J0e (J7d _) λd hd=>?_),λe he y hy=>?_⟩
  ·split
   ·split
    ·split<;>exact J0n _
    ·exact JY
   ·exact JY
  ·have he:=J60 he;simp only[erp,opR]at he;obtain⟨a,ha,he⟩:=bind_some he;obtain⟨d,hd,he⟩:=bind_some he;split at he
   ·split at he
    ·split at he
     ·rename_i ho;injection he with he;subst he;simp only[JaO]at hy;subst hy;have:=J7E (k:=J1L (.mkslice own t bytes l c)) (new:=new) (j:=0) (by simp[J1L,ho]);simpa using this
     ·injection he with he;subst he;simp at hy
    ·cases he
   ·cases he
 ·rename_i k x;obtain⟨v,hv,h⟩:=J23 h;injection h with h;injection h with h1 h2;subst h1 h2;refine⟨J7t (op:=.conv k x) (λj hj=>J2h.2 (.inl (J7E hj))) (J0e (J7d _) λa ha=>?_),λe he y hy=>?_⟩
  ·have hr: ∀b∈avR a,b∈rng new (J1L (.conv k x))++tvR v:=λb hb=>by rw[J6b hv ha,J52]at hb;simp[hb]
   split
   ·exact J0n _
   ·exact J0n _
   ·refine J0e (JnG hr) λrows _=>?_;split<;>first|exact J0n _|exact JY
   ·split<;>exact J0n _
   ·exact JY
  ·have he:=J60 he;simp only[erp,opR]at he;obtain⟨a,ha,he⟩:=bind_some he;split at he
   ·injection he with he;subst he;simp at hy
   ·injection he with he;subst he;simp at hy
   ·obtain⟨rows,_,he⟩:=bind_some he;split at he
    ·injection he with he;subst he;simp at hy
    ·cases he
   ·split at he
    ·rename_i ho;injection he with he;subst he;simp only[JaO]at hy;subst hy;simp[J1L,ho,rng]
    ·injection he with he;subst he;simp at hy
   ·cases he
 ·cases h
abbrev Jdd:=Option (List Nat×List Nat)
section
variable {R:Type}
def JJw(i:J8X)(s:TSt):Bool:=match i.g with
 |none=>false
 |some (g,e)=>if i.dst=some g then false else match tlk g s.env with
  |some (.a (.c (.d .b x)))=>if x=e then false else true
  |some (.tup [])=>true
  |_=>false
def uwI(i:J8X)(new:Nat)(s s':TSt):Jdd:=if JJw i s'=true then some ([],[])else uw i.op new s
def JsT(G:TG):List J8X->Nat->TSt->List Jdd->(TSt->List Jdd->Option R)->Option R
 |[],_,s,l,k=>k s l
 |i::r,new,s,l,k=>JBu G i new s λs'=>JsT G r (new+J1L i.op) s' (l++[uwI i new s s']) k
def Jcq:Jdd->(List Nat×List Nat)->Prop
 |none,_=>True
 |some (U,W),x=>(∀b∈x.1,b∈U)/\ ∀b∈x.2,b∈W
def Jt9(l:List Jdd):List (Nat×Nat)->Bool
 |[]=>true
 |(i,j)::r=>(match l[i]?,l[j]? with
  |some (some a),some (some b)=>J6Q a.2 b.1&&J6Q a.2 b.2&&J6Q a.1 b.2
  |_,_=>false)&&Jt9 l r
theorem Ja5{b:Nat}: ∀{l:List Loc},b∈J4Y l->Loc.blk b∈l
 | .blk c::r,h=>by
  simp only[J4Y,J40]at h;rcases h with rfl|h
  ·simp
  ·simp[Ja5 h]
 | .slot n::r,h=>by simp only[J4Y]at h;simp[Ja5 h]
theorem Jcq.snoc{l:List Jdd}{l0:Log}{x:Jdd}{y:List Nat×List Nat}(hl:l.length=l0.length)(ho: ∀(j:Nat) a b,l[j]?=some a->l0[j]?=some b->Jcq a b)(hx:Jcq x y)(j:Nat)(a:Jdd)(b:List Nat×List Nat)(ha:(l++[x])[j]?=some a)(hb:(l0++[y])[j]?=some b):Jcq a b:=by
 rcases zQ3 j l.length with hj|hj
 ·rw[JkM hj]at ha;rw[JkM (by omega)]at hb;exact ho j a b ha hb
 ·rw[JeV hj]at ha;rw[JeV (by omega)]at hb;have e:j-l.length=0:=by have:=Jw ha;simp at this;omega
  rw[e]at ha;rw[<-hl,e]at hb;simp at ha hb;subst ha hb;exact hx
theorem JHR{F:Orc}{i:J8X}{new:Nat}{s s':TSt}{e:Eff}(h:(J1C F (eri i) new).run (Jy s)=some e)(hp:put i.dst e (Jy s)=Jy s'):Jcq (uwI i new s s') (J4Y ((J1C F (eri i) new).reads (Jy s)),e.ws.map (·.1)):=by
 unfold uwI;split
 ·rename_i hn;unfold JJw at hn;split at hn
  ·cases hn
  ·rename_i g j q;split at hn
   ·cases hn
   ·rename_i hd;have r:lk g (Jy s').env=lk g (Jy s).env:=by
     rw[<-hp];unfold put;split
     ·rename_i d o;show lk g ((d,e.val)::(Jy s).env)=_;simp only[lk];rw[if_neg (λe0=>hd (by rw[o,e0]))]
     ·rfl
    have k: ∀v,tlk g s'.env=some v->lk g (Jy s).env=some (J05 (lns s'.sto) v):=λv hv=>by rw[<-r];show lk g (J5R _ s'.env)=_;rw[JcP,hv];rfl
    split at hn
    ·rename_i x hx;split at hn
     ·cases hn
     ·rename_i hw;have hl:=k _ hx;rw[e_b]at hl;have hi:J1C F (eri i) new=.slot g fun
       | .p (.b x)=>if x=j then opD F (eri i).op new else .ret ⟨J3v,[]⟩
       | .tup []=>.ret ⟨J3v,[]⟩
       |_=>.fail:=by unfold J1C;rw[show(eri i).g=i.g from rfl,q];rfl
      rw[hi]at h⊢;refine⟨λb hb=>?_,λb hb=>?_⟩
      ·have:=Ja5 hb;simp only[RM.reads,hl,J40,if_neg hw]at this;rcases this with this|this
       ·cases this
       ·simp at this
      ·simp only[J87,hl,J07,if_neg hw,JZ]at h;injection h with h;subst h;exact hb
    ·rename_i hx;have hl:=k _ hx;have hl:lk g (Jy s).env=some (.tup []):=hl;have hi:J1C F (eri i) new=.slot g fun
      | .p (.b x)=>if x=j then opD F (eri i).op new else .ret ⟨J3v,[]⟩
      | .tup []=>.ret ⟨J3v,[]⟩
      |_=>.fail:=by unfold J1C;rw[show(eri i).g=i.g from rfl,q];rfl
     rw[hi]at h⊢;refine⟨λb hb=>?_,λb hb=>?_⟩
     ·have:=Ja5 hb;simp only[RM.reads,hl,J40]at this;rcases this with this|this
      ·cases this
      ·simp at this
     ·simp only[J87,hl,J07,JZ]at h;injection h with h;subst h;exact hb
    ·cases hn
 ·cases hu:uw i.op new s with
  |none=>trivial
  |some n=>
   obtain⟨U,W⟩:=n;obtain⟨h1,h2⟩:=JKx F hu;have hr:Rb (· ∈U) (J1C F (eri i) new) (Jy s):=by
    unfold J1C;split
    ·exact h1
    ·refine Jz6 λv hv=>?_;split
     ·split
      ·exact h1
      ·exact J0n _
     ·exact J0n _
     ·exact JY
   refine⟨λb hb=>hr b (Ja5 hb),λb hb=>?_⟩;obtain⟨y,hy,rfl⟩:=J9G.1 hb;unfold J1C at h;split at h
   ·exact h2 e h y hy
   ·simp only[J87]at h;obtain⟨v,hv,h⟩:=J2K.1 h;split at h
    ·split at h
     ·exact h2 e h y hy
     ·injection h with h;subst h;simp at hy
    ·injection h with h;subst h;simp at hy
    ·cases h
theorem JvI{F:Orc}{G:TG}(n:GOk F G): ∀{ins:List J8X} {new:Nat} {s:TSt} {l:List Jdd} {l0:Log} {k:TSt->List Jdd->Option R} {r:R},l.length=l0.length->(∀(j:Nat) a b,l[j]?=some a->l0[j]?=some b->Jcq a b)->
  JsT G ins new s l k=some r-> ∃s' l' g,J50 F (ins.map eri) new (Jy s) l0=some (Jy s',l')/\k s' g=some r/\g.length=l'.length/\ ∀(j:Nat) a b,g[j]?=some a->l'[j]?=some b->Jcq a b
 |[],new,s,l,l0,k,r,hl,ho,h=>⟨s,l0,l,rfl,h,hl,ho⟩
 |i::q,new,s,l,l0,k,r,hl,ho,h=>by simp only[JsT]at h;obtain⟨e,s1,h1,h2,h⟩:=Jzc n h;obtain⟨o,l',g,h3,h4,h5,v⟩:=JvI n (l0:=l0++[(J4Y ((J1C F (eri i) new).reads (Jy s)),e.ws.map (·.1))]) (by rw[J57,J57,hl];rfl) (Jcq.snoc hl ho (JHR h1 h2)) h;refine⟨o,l',g,?_,h4,h5,v⟩;simp only[J1q,J50,h1];rw[show put (eri i).dst e (Jy s)=Jy s1 from h2,show J7T (eri i).op=J1L i.op from JfY _,h3]
theorem Jk4{a b e g:List Nat}(h:J6Q e g=true)(ha: ∀x∈a,x∈e)(hb: ∀x∈b,x∈g):J6Q a b=true:=by unfold J6Q at h⊢;rw[JCi]at h⊢;intro x hx;have:=h x (ha x hx);simp only[JuL,List.contains_eq_mem,decide_eq_false_iff_not]at this⊢;exact λhm=>this (hb x hm)
theorem JvW{l:List Jdd}{l':Log}(hl:l.length=l'.length)(ho: ∀(j:Nat) a b,l[j]?=some a->l'[j]?=some b->Jcq a b): ∀{ps:List (Nat×Nat)},Jt9 l ps=true->Jcv l' ps=true
 |[],_=>rfl
 |(i,j)::r,h=>by
  simp only[Jt9,J04]at h;obtain⟨h1,h2⟩:=h;simp only[Jcv,J04];refine⟨?_,JvW hl ho h2⟩;split at h1
  ·rename_i a b ha hb;have hi:i<l'.length:=by have:=Jw ha;omega
   have hj:j<l'.length:=by have:=Jw hb;omega
   have e:=ho i _ _ ha (zQ9 hi);have g:=ho j _ _ hb (zQ9 hj);rw[zQ9 hi,zQ9 hj];simp only[J04]at h1⊢;exact⟨⟨Jk4 h1.1.1 e.2 g.1,Jk4 h1.1.2 e.2 g.2⟩,Jk4 h1.2 e.1 g.2⟩
  ·cases h1
def JFc(G:TG)(pairs:List (Nat×Nat))(ins:List J8X)(s:TSt)(k:TSt->Option R):Option R:=
 match pairs with
 |[]=>JAb G ins s.sto.length (Jt3 (JlI ins) s) k
 |p::ps=>JsT G ins s.sto.length (Jt3 (JlI ins) s) [] λs' l=>if Jt9 l (p::ps)=true then k s' else none
theorem JHX{F:Orc}{G:TG}(e:GOk F G){pairs:List (Nat×Nat)}{ins:List J8X}{s:TSt}{k:TSt->Option R}{r:R}(h:JFc G pairs ins s k=some r): ∃s',region F pairs (ins.map eri) (Jy s)=some (Jy s')/\k s'=some r:=by
 have hlen:(Jy s).sto.length=s.sto.length:=by simp[Jy]
 unfold JFc at h;split at h
 ·obtain⟨s',h1,h2⟩:=Jzv e h;refine⟨s',?_,h2⟩;simp only[region,Jk2];rw[JuP]at h1;rw[hlen];exact h1
 ·obtain⟨s',l',g,h1,h2,h3,h4⟩:=JvI e (l0:=[]) rfl (λj a b ha hb=>by simp at ha) h;split at h2
  ·rename_i hp;refine⟨s',?_,h2⟩;simp only[region,Jk2];rw[JuP]at h1;rw[hlen,h1];simp only[JvW h3 h4 hp,if_true]
  ·cases h2
end
end Go.Am
end
section
namespace Go.Am
def Jer(m:Nat)(ids:List Nat)(s:TSt):TC->Option TC
 | .ptr b p=>if b<m then some (.ptr b p)else match J4W b ids m with
  |some k=>some (.ptr k p)
  |none=>none
 | .slr b=>if b<m then some (.slr b)else match J4W b ids m with
  |some k=>some (.slr k)
  |none=>match s.sto[b]? with
   |some (.arr _ t rows)=>some (.d (.l t) rows)
   |_=>none
 | .slo b n=>if b<m then some (.slo b n)else match J4W b ids m with
  |some k=>some (.slo k n)
  |none=>none
 | .ep b i p=>if b<m then some (.ep b i p)else match J4W b ids m with
  |some k=>some (.ep k i p)
  |none=>none
 | .epo b e i p=>if b<m then some (.epo b e i p)else match J4W b ids m with
  |some k=>some (.epo k e i p)
  |none=>none
 |x=>some x
def JgR(m:Nat)(ids:List Nat)(s:TSt):List TC->Option (List TC)
 |[]=>some []
 |x::r=>match Jer m ids s x,JgR m ids s r with
  |some y,some l=>some (y::l)
  |_,_=>none
def Jjf(m:Nat)(ids:List Nat)(s:TSt):TA->Option TA
 | .c x=>match Jer m ids s x with
  |some y=>some (.c y)
  |none=>none
 | .dt t x=>some (.dt t x)
 | .m t cs=>match JgR m ids s cs with
  |some l=>match asm t l with
   |some x=>some (.dt t x)
   |none=>if l.any JBv=true then some (.m t l)else none
  |none=>none
 | .fn f a c=>match JgR m ids s a,JgR m ids s c with
  |some a,some c=>some (.fn f a c)
  |_,_=>none
def JiL(m:Nat)(ids:List Nat)(s:TSt):List TA->Option (List TA)
 |[]=>some []
 |x::r=>match Jjf m ids s x,JiL m ids s r with
  |some y,some l=>some (y::l)
  |_,_=>none
def JBO(m:Nat)(ids:List Nat)(s:TSt):TV->Option TV
 | .a x=>match Jjf m ids s x with
  |some y=>some (.a y)
  |none=>none
 | .tup vs=>match JiL m ids s vs with
  |some l=>some (.tup l)
  |none=>none
def Jmd(m:Nat)(ids:List Nat)(s:TSt):TB->Option TB
 | .mbox t cs=>match JgR m ids s cs with
  |some l=>some (mkb t l)
  |none=>none
 |x=>some x
def JbG(m:Nat)(ids:List Nat)(s:TSt):List TB->Option (List TB)
 |[]=>some []
 |x::r=>match Jmd m ids s x,JbG m ids s r with
  |some y,some l=>some (y::l)
  |_,_=>none
def JsZ(m:Nat)(s:TSt):List (Nat×TV)->Option (List (Nat×TV))
 |[]=>some []
 |(k,x)::r=>match JBO m [] s x,JsZ m s r with
  |some y,some l=>some ((k,y)::l)
  |_,_=>none
def J8f:List Nat->List (Nat×TV)->List (Nat×TV)
 |[],_=>[]
 |k::r,env=>match tlk k env with
  |some v=>(k,v)::J8f r env
  |none=>J8f r env
theorem JbA(L:Nat->Nat)(env:List (Nat×TV)): ∀live:List Nat,restr live (J5R L env)=J5R L (J8f live env)
 |[]=>rfl
 |k::r=>by
  simp only[restr,J8f,JcP];cases tlk k env with
  |none=>exact JbA L env r
  |some v=>
   have ih:=JbA L env r
   grind [J5R]
section
variable {m:Nat} {ids:List Nat} {s:TSt} {L':Nat->Nat} (h1: ∀b,b<m->L' b=lns s.sto b) (h2: ∀b k,J4W b ids m=some k->L' k=lns s.sto b)
include h1 h2
theorem Ju2{x y:TC}(h:Jer m ids s x=some y):fin m ids (Jy s).sto (J0u (lns s.sto) x)=some (J0u L' y):=by
 cases x with
 |ptr b p=>
  grind [Jer,J0u,fin]
 |slr b=>
  simp only[Jer]at h;simp only[J0u,fin];split at h
  ·grind
  ·rename_i hb;rw[if_neg hb];split at h
   all_goals grind [J1S,Jwf,J5W,cel,hdP]
 |slo b n=>
  grind [Jer,J0u,fin]
 |ep b i p=>
  grind [Jer,J0u,fin]
 |epo b e i p=>
  grind [Jer,J0u,fin]
 |_=>injection h with h;subst h;rfl
theorem Jgw: ∀{xs e:List TC},JgR m ids s xs=some e->fin.finL m ids (Jy s).sto (xs.map (J0u (lns s.sto)))=some (e.map (J0u L'))
 |[],e,h=>by injection h with h;subst h;rfl
 |x::r,e,h=>by
  simp only[JgR]at h;split at h
  ·rename_i y l hy hl;injection h with h;subst h;simp only[J1q,fin.finL,Ju2 h1 h2 hy,Jgw hl]
  ·cases h
theorem Jw0{x y:TA}(h:Jjf m ids s x=some y):fin m ids (Jy s).sto (J1t (lns s.sto) x)=some (J1t L' y):=by
 cases x with
 |c x=>
  simp only[Jjf]at h;split at h
  ·rename_i y hy;injection h with h;subst h;exact Ju2 h1 h2 hy
  ·cases h
 |dt t x=>injection h with h;subst h;rfl
 |m t cs=>
  simp only[Jjf]at h;split at h
  ·rename_i l hl;have e:=Jgw h1 h2 hl
   grind [J1t,fin,Jic,Jdf,Jp8]
  ·cases h
 |fn f a c=>
  grind [Jjf,J1t,fin,Jgw]
theorem JhV: ∀{xs e:List TA},JiL m ids s xs=some e->fin.finL m ids (Jy s).sto (xs.map (J1t (lns s.sto)))=some (e.map (J1t L'))
 |[],e,h=>by injection h with h;subst h;rfl
 |x::r,e,h=>by
  simp only[JiL]at h;split at h
  ·rename_i y l hy hl;injection h with h;subst h;simp only[J1q,fin.finL,Jw0 h1 h2 hy,JhV hl]
  ·cases h
theorem JFx{x y:TV}(h:JBO m ids s x=some y):fin m ids (Jy s).sto (J05 (lns s.sto) x)=some (J05 L' y):=by cases x<;>grind [JBO,Jw0,J05,fin,JhV]
theorem JEq{x y:TB}(h:Jmd m ids s x=some y):J6p m ids (Jy s).sto (J0E (lns s.sto) x)=some (J0E L' y):=by
 cases x with
 |mbox t cs=>
  grind [Jmd,JfC,J6p,Jgw,JiR]
 |box t x=>injection h with h;grind [Jfx,J6p,JpN]
 |_=>injection h with h;subst h;rfl
theorem JdF: ∀{xs e:List TB},JbG m ids s xs=some e->Jbv m ids (Jy s).sto (xs.map (J0E (lns s.sto)))=some (e.map (J0E L'))
 |[],e,h=>by injection h with h;subst h;rfl
 |x::r,e,h=>by
  simp only[JbG]at h;split at h
  ·rename_i y l hy hl;injection h with h;subst h;simp only[J1q,Jbv,JEq h1 h2 hy,JdF hl]
  ·cases h
end
theorem JDs{m:Nat}{ids:List Nat}{s:TSt}{x y:TB}(h:Jmd m ids s x=some y):lnB y=lnB x:=by
 cases x with
 |mbox t cs=>
  simp only[Jmd]at h;split at h
  ·injection h with h;subst h;exact Jj3 _ _
  ·cases h
 |_=>injection h with h;subst h;rfl
theorem Jck{m:Nat}{ids:List Nat}{s:TSt}: ∀{xs e:List TB},JbG m ids s xs=some e->e.length=xs.length/\ ∀(k:Nat),lns e k=lns xs k
 |[],e,h=>by injection h with h;simp_all
 |x::r,e,h=>by
  simp only[JbG]at h;split at h
  ·rename_i y l hy hl;injection h with h;subst h;obtain⟨q1,q2⟩:=Jck hl;refine⟨by simp[q1],λk=>?_⟩;cases k with
   |zero=>exact JDs hy
   |succ k=>exact q2 k
  ·cases h
theorem Jxx{m:Nat}{s:TSt}{L':Nat->Nat}(h1: ∀b,b<m->L' b=lns s.sto b): ∀{env e:List (Nat×TV)},JsZ m s env=some e->Jio m (Jy s).sto (J5R (lns s.sto) env)=some (J5R L' e)
 |[],e,h=>by injection h with h;subst h;rfl
 |(k,x)::r,e,h=>by
  simp only[JsZ]at h;split at h
  ·rename_i y l hy hl;injection h with h;subst h;simp only[J5R,J1q,Jio];rw[JFx (ids:=[]) h1 (λb k hk=>by cases hk) hy];have ih:=Jxx h1 hl
   grind [J5R]
  ·cases h
def J98(n:Nat)(live:List Nat)(s:TSt):Option TSt:=
 if s.sto.length=n then some ⟨J8f live s.env,s.sto⟩
 else match JsZ n s (J8f live s.env),JbG n [] s (s.sto.take n)with
  |some e,some l=>some ⟨e,l⟩
  |_,_=>none
theorem J9Y{n:Nat}{live:List Nat}{s s':TSt}(h:J98 n live s=some s'):clean n live (Jy s)=some (Jy s'):=by
 unfold J98 at h;have hlen:(Jy s).sto.length=s.sto.length:=by simp[Jy]
 split at h
 ·grind [clean,Jy,JbA]
 ·rename_i hn;split at h
  ·rename_i e l he hl;injection h with h;subst h;obtain⟨q1,q2⟩:=Jck hl;have hL: ∀b,b<n->lns l b=lns s.sto b:=λb hb=>by
    grind [lns]
   unfold clean;rw[hlen,if_neg hn];have e1:=Jxx hL he;have e2:=JdF (ids:=[]) hL (λb k hk=>by cases hk) hl
   grind [Jy,JbA,List.map_take]
  ·cases h
inductive JjU where
 |tmp (t:Nat)
 |cell (t:Nat) (agg:Bool) (ty:Ty)
def erR:JjU->Jin
 | .tmp t=>.tmp t
 | .cell t agg ty=>.cell t agg ty.sz
def JAU(agg:Bool)(ty:Ty)(v:TV)(s:TSt):Option TA:=
 if agg=true\/ty.sz=1 then
  match v with
  | .a (.c (.ptr b []))=>match s.sto[b]? with
   |some (.box t0 x)=>if h:t0=ty then(if agg=true then some (.dt ty (h▸x))else some (.c (.d ty (h▸x))))else none
   |some (.mbox _ cs)=>if cs.length=ty.sz then
    match mka agg ty cs with
    |some (.a x)=>some x
    |_=>none
    else none
   |_=>none
  |_=>none
 else none
theorem JEp{agg:Bool}{ty:Ty}{v:TV}{s:TSt}{x:TA}(h:JAU agg ty v s=some x): ∃e,(J4z agg ty.sz (J05 (lns s.sto) v)).run (Jy s)=some e/\e.val=J1t (lns s.sto) x:=by
 unfold JAU at h;split at h
 ·rename_i ha;split at h
  ·rename_i b;split at h
   ·rename_i t0 y hb;split at h
    ·rename_i g;subst g;refine⟨⟨J1t (lns s.sto) x,[]⟩,?_,rfl⟩;have hc:J47 agg ((cel t0 y).map .p)=J4N agg (cel t0 y):=by
      unfold J47 J4N;split
      ·rw[Jdf]
      ·cases hcel:cel t0 y with
       |nil=>rfl
       |cons a l=>cases l<;>rfl
     have he:sub (cel t0 y) 0 t0.sz=some (cel t0 y):=Jph (J22 _ _);have hm:=JfG (lns s.sto) ha y;simp only[J6Y,spo,J4z,J1H,J1S,hb,J3n,J07,Jfx,Jb1,he,hc,hm,val,JZ];unfold mkv;split at h
     ·rename_i h1;injection h with h;subst h;rw[if_pos h1];rfl
     ·rename_i h1;injection h with h;subst h;rw[if_neg h1];rfl
    ·cases h
   ·rename_i cs hb;split at h
    ·rename_i hn;split at h
     ·rename_i y hy;injection h with h;subst h;have he:sub cs 0 ty.sz=some cs:=Jph hn;refine⟨⟨J1t (lns s.sto) y,[]⟩,?_,rfl⟩;simp only[J6Y,spo,J4z,J1H,J1S,hb,J3n,J07,JfC,Jb1,he,Jfm (lns s.sto) hy,val,JZ];rfl
     ·cases h
    ·cases h
   ·cases h
  ·cases h
 ·cases h
def JoF:List JjU->TSt->Option (List TA)
 |[],_=>some []
 | .tmp t::r,s=>match tlk t s.env,JoF r s with
  |some (.a x),some l=>some (x::l)
  |_,_=>none
 | .cell t agg ty::r,s=>match tlk t s.env with
  |some v=>match JAU agg ty v s,JoF r s with
   |some x,some l=>some (x::l)
   |_,_=>none
  |none=>none
theorem JzC(s:TSt)(t:Nat):(RM.slot t RM.ret).run (Jy s)=(tlk t s.env).map (J05 (lns s.sto)):=by rw[J87];show(lk t (J5R _ s.env)).bind _=_;simp[JcP]
theorem Joe{s:TSt}: ∀{g:List JjU} {l:List TA},JoF g s=some l->(JbU (g.map erR)).run (Jy s)=some (l.map (J1t (lns s.sto)))
 |[],l,h=>by injection h with h;subst h;rfl
 | .tmp t::r,l,h=>by
  simp only[JoF]at h;split at h
  ·rename_i x l' hx hl;injection h with h;subst h;simp only[J1q,erR,JbU,run_bind,JzC,hx,J3n,J07,Joe hl,JZ];rfl
  ·cases h
 | .cell t agg ty::r,l,h=>by
  simp only[JoF]at h;split at h
  ·rename_i v hv;split at h
   ·rename_i x l' hx hl;injection h with h;subst h;obtain⟨e,q1,q2⟩:=JEp hx;simp only[J1q,erR,JbU,run_bind,JzC,hv,J3n,J07,q1,Joe hl,JZ,q2]
   ·cases h
  ·cases h
def JlY(s:TSt):List Nat->List Nat->Option (List Nat)
 |[],acc=>some acc
 |b::r,acc=>match s.sto[b]? with
  |some (.mbox _ cs)=>match Jey cs acc with
   |some acc=>JlY s r acc
   |none=>none
  |some _=>JlY s r acc
  |none=>none
theorem Jge{s:TSt}: ∀{r acc l:List Nat},JlY s r acc=some l->Jbs (Jy s).sto (r.map .whole) (acc.map .whole)=l.map .whole
 |[],acc,l,h=>by injection h with h;subst h;rfl
 |b::r,acc,l,h=>by
  simp only[JlY]at h;split at h
  ·rename_i cs hb;split at h
   ·rename_i e ha;simp only[J1q,Jbs,J1S,hb,J3n,JfC,Jd2 (lns s.sto) ha];exact Jge h
   ·cases h
  ·rename_i x hn hb;simp only[J1q,Jbs,J1S,hb,J3n];cases x with
   |mbox t cs=>simp_all
   |box t x=>simp only[Jfx];rw[JpT];exact Jge h
   |_=>exact Jge h
  ·cases h
def J4C(m:Nat)(fresh:Bool)(s:TSt):List Nat->List Nat
 |[]=>[]
 |b::r=>if b<m then J4C m fresh s r else
  match s.sto[b]? with
  |some (.box _ _)=>b::J4C m fresh s r
  |some (.mbox _ _)=>b::J4C m fresh s r
  |some (.arr _ _ _)=>if fresh=true then b::J4C m fresh s r else J4C m fresh s r
  |_=>J4C m fresh s r
theorem Jl7{m:Nat}{fresh:Bool}{s:TSt}: ∀r:List Nat,J4X m fresh (Jy s).sto (r.map .whole)=J4C m fresh s r
 |[]=>rfl
 |b::r=>by
  simp only[J1q,J4X,J4C,J1S];rw[Jl7 r];split
  ·rfl
  ·cases s.sto[b]? with
   |none=>rfl
   |some x=>cases x<;>rfl
def JsS(s:TSt):List Nat->Option (List TB)
 |[]=>some []
 |b::r=>match s.sto[b]?,JsS s r with
  |some x,some l=>some (x::l)
  |_,_=>none
theorem Jxn{s:TSt}: ∀{ids:List Nat} {l:List TB},JsS s ids=some l->JdI (Jy s).sto ids=some (l.map (J0E (lns s.sto)))/\l.length=ids.length/\ ∀(j b:Nat),ids[j]?=some b->lns l j=lns s.sto b
 |[],l,h=>by injection h with h;simp_all
 |b::r,l,h=>by
  simp only[JsS]at h;split at h
  ·rename_i x l' hx hl;injection h with h;subst h;obtain⟨q1,q2,q3⟩:=Jxn hl
   grind [JdI,J1S,lns]
  ·cases h
def JwT:List TA->TV
 |[x]=>.a x
 |l=>.tup l
theorem Jzb(L:Nat->Nat)(l:List TA):one (l.map (J1t L))=J05 L (JwT l):=by
 match l with
 |[]=>rfl
 |[x]=>rfl
 |x::y::r=>rfl
section
variable {R:Type}
def Jfz(res:List JjU)(fresh:Bool)(m:Nat)(s:TSt)(E:TV->List TB->Option R):Option R:=
 match JoF res s with
 |none=>none
 |some vs=>
  if s.sto.length=m then E (JwT vs) s.sto
  else match Jfr vs []with
   |none=>none
   |some g=>match JlY s g g with
    |none=>none
    |some e=>if J53 (J4C m fresh s e)=true/\m<=s.sto.length then
     match JiL m (J4C m fresh s e) s vs,JbG m (J4C m fresh s e) s (s.sto.take m),JsS s (J4C m fresh s e)with
     |some ws,some l,some q=>match JbG m (J4C m fresh s e) s q with
      |some q'=>E (JwT ws) (l++q')
      |none=>none
     |_,_,_=>none
     else none
theorem JCf{f:AFn}{res:List JjU}{fresh:Bool}{m:Nat}{s:TSt}{E:TV->List TB->Option R}{r:R}(n:f.res=res.map erR)(D:f.fresh=fresh)(h:Jfz res fresh m s E=some r):
  ∃v out,J3I f m (Jy s)=some (J05 (lns out) v,out.map (J0E (lns out)))/\E v out=some r:=by
 unfold Jfz at h;have hlen:(Jy s).sto.length=s.sto.length:=by simp[Jy]
 split at h
 ·cases h
 ·rename_i vs hvs;have e0:=Joe hvs;split at h
  ·rename_i hn;refine⟨JwT vs,s.sto,?_,h⟩;unfold J3I;rw[n,e0];dsimp only;rw[hlen,if_pos hn,Jzb];rfl
  ·rename_i hn;split at h
   ·cases h
   ·rename_i A y;split at h
    ·cases h
    ·rename_i x o;split at h
     ·rename_i j;obtain⟨G,hm⟩:=j;generalize g:J4C m fresh s x=ids at*;split at h
      ·rename_i ws l q w hl hq;split at h
       ·rename_i q' e;refine⟨JwT ws,l++q',?_,h⟩;obtain⟨P,l2⟩:=Jck hl;obtain⟨M,J,H⟩:=Jxn hq;obtain⟨K,N⟩:=Jck e;have C:l.length=m:=by simp_all
        have h1: ∀b,b<m->lns (l++q') b=lns s.sto b:=λb hb=>by
         have:=l2 b
         grind [lns]
        have h2: ∀b k,J4W b ids m=some k->lns (l++q') k=lns s.sto b:=λb k hk=>by
         obtain⟨F,B⟩:=JdB hk
         grind [lns]
        have e1:=JhV h1 h2 w;have e2:=JdF h1 h2 hl;have O:=JdF h1 h2 e;have Q:J11.entsOfL (vs.map (J1t (lns s.sto))) []=A.map .whole:=JdM (lns s.sto) (l:=[]) y;have I:=Jge o;have z:=Jl7 (m:=m) (fresh:=fresh) (s:=s) x;rw[g]at z;have L:(Jy s).sto.take m=(s.sto.take m).map (J0E (lns s.sto)):=by simp[Jy]
        grind [J3I,Jzb]
       ·cases h
      ·cases h
     ·cases h
end
end Go.Am
end
section
namespace Go.Am
inductive ShC where
 |d (t:Ty)
 |sc (t:Ty)
 |np
 |nf
 |un
 |ptr (b:Nat) (p:List Sp)
 |cp (t:Ty) (p:List Sp)
 |slr (b:Nat)
 |fn (f:FuncId)
 deriving DecidableEq
inductive ShA where
 |c (x:ShC)
 |dt (t:Ty)
 |m (t:Ty) (cs:List ShC)
 |fn (f:FuncId) (a c:List ShC)
 deriving DecidableEq
inductive ShV where
 |a (x:ShA)
 |tup (vs:List ShA)
 deriving DecidableEq
inductive ShB where
 |dead
 |box (t:Ty)
 |mbox (t:Ty) (cs:List ShC)
 |arr (w:Bool) (t:Ty)
 deriving DecidableEq
structure ShS where
 env:List (Nat×ShV)
 sto:List ShB
 deriving DecidableEq
abbrev Lf:=(t:Ty)×t.D
def shC:TC->Option (ShC×List Lf)
 | .d t x=>some (.d t,[⟨t,x⟩])
 | .sc t rows=>some (.sc t,[⟨.l t,rows⟩])
 | .np=>some (.np,[])
 | .nf=>some (.nf,[])
 | .un=>some (.un,[])
 | .ptr b p=>if(Jgy p).isSome=true then some (.ptr b p,[])else none
 | .cp t x p=>if(Jgy p).isSome=true then some (.cp t p,[⟨t,x⟩])else none
 | .slr b=>some (.slr b,[])
 | .fn f=>some (.fn f,[])
 |_=>none
def lf1(t:Ty)(l:List Lf):Option (t.D×List Lf):=
 match l with
 |⟨t',x⟩::r=>if h:t'=t then some (h▸x,r)else none
 |[]=>none
def mkC:ShC->List Lf->Option (TC×List Lf)
 | .d t,l=>match lf1 t l with
  |some (x,r)=>some (.d t x,r)
  |none=>none
 | .sc t,l=>match lf1 (.l t) l with
  |some (x,r)=>some (.sc t x,r)
  |none=>none
 | .np,l=>some (.np,l)
 | .nf,l=>some (.nf,l)
 | .un,l=>some (.un,l)
 | .ptr b p,l=>some (.ptr b p,l)
 | .cp t p,l=>match lf1 t l with
  |some (x,r)=>some (.cp t x p,r)
  |none=>none
 | .slr b,l=>some (.slr b,l)
 | .fn f,l=>some (.fn f,l)
theorem JiI(t:Ty)(x:t.D)(r:List Lf):lf1 t (⟨t,x⟩::r)=some (x,r):=by simp[lf1]
theorem Jif{x:TC}{sh:ShC}{e:List Lf}(h:shC x=some (sh,e))(rest:List Lf):mkC sh (e++rest)=some (x,rest):=by
 cases x<;>simp only[shC]at h<;>first
  |(split at h
    ·simp only[Option.some.injEq,Prod.mk.injEq]at h;obtain⟨rfl,rfl⟩:=h;simp only[JoD,JhY,mkC,JiI]
    ·cases h)
  |(simp only[Option.some.injEq,Prod.mk.injEq]at h
    obtain⟨rfl,rfl⟩:=h;simp only[JoD,JhY,mkC,JiI])
  |cases h
def shL{α σ:Type}(f:α->Option (σ×List Lf)):List α->Option (List σ×List Lf)
 |[]=>some ([],[])
 |x::r=>match f x,shL f r with
  |some (s,l),some (q,k)=>some (s::q,l++k)
  |_,_=>none
def mkL{α σ:Type}(g:σ->List Lf->Option (α×List Lf)):List σ->List Lf->Option (List α×List Lf)
 |[],l=>some ([],l)
 |s::r,l=>match g s l with
  |some (x,l)=>match mkL g r l with
   |some (q,l)=>some (x::q,l)
   |none=>none
  |none=>none
theorem J8k{α σ:Type}{f:α->Option (σ×List Lf)}{g:σ->List Lf->Option (α×List Lf)}(n: ∀{x:α} {s:σ} {e:List Lf},f x=some (s,e)-> ∀rest,g s (e++rest)=some (x,rest)):
  ∀{xs:List α} {j:List σ} {e:List Lf},shL f xs=some (j,e)-> ∀rest,mkL g j (e++rest)=some (xs,rest)
 |[],j,e,h,rest=>by injection h with h;injection h with h1 h2;subst h1 h2;rfl
 |x::r,j,e,h,rest=>by
  simp only[shL]at h;split at h
  ·rename_i s l q k h1 h2;injection h with h;injection h with h3 h4;subst h3 h4;simp only[mkL,J8U,n h1,J8k n h2]
  ·cases h
def shA:TA->Option (ShA×List Lf)
 | .c x=>match shC x with
  |some (s,l)=>some (.c s,l)
  |none=>none
 | .dt t x=>some (.dt t,[⟨t,x⟩])
 | .m t cs=>match shL shC cs with
  |some (s,l)=>some (.m t s,l)
  |none=>none
 | .fn f a c=>match shL shC a,shL shC c with
  |some (s,l),some (q,k)=>some (.fn f s q,l++k)
  |_,_=>none
def mkA:ShA->List Lf->Option (TA×List Lf)
 | .c s,l=>match mkC s l with
  |some (x,l)=>some (.c x,l)
  |none=>none
 | .dt t,l=>match lf1 t l with
  |some (x,l)=>some (.dt t x,l)
  |none=>none
 | .m t s,l=>match mkL mkC s l with
  |some (x,l)=>some (.m t x,l)
  |none=>none
 | .fn f a c,l=>match mkL mkC a l with
  |some (x,l)=>match mkL mkC c l with
   |some (y,l)=>some (.fn f x y,l)
   |none=>none
  |none=>none
theorem JtO{x:TA}{sh:ShA}{e:List Lf}(h:shA x=some (sh,e))(rest:List Lf):mkA sh (e++rest)=some (x,rest):=by
 cases x with
 |c x=>
  simp only[shA]at h;split at h
  ·rename_i s l h1;injection h with h;injection h with h2 h3;subst h2 h3;simp only[mkA,Jif h1]
  ·cases h
 |dt t x=>injection h with h;grind [mkA,JiI]
 |m t cs=>
  simp only[shA]at h;split at h
  ·rename_i s l h1;injection h with h;injection h with h2 h3;subst h2 h3;simp only[mkA,J8k Jif h1]
  ·cases h
 |fn f a c=>
  simp only[shA]at h;split at h
  ·rename_i s l q k h1 h2;injection h with h;injection h with h3 h4;subst h3 h4;simp only[mkA,J8U,J8k Jif h1,J8k Jif h2]
  ·cases h
def shV:TV->Option (ShV×List Lf)
 | .a x=>match shA x with
  |some (s,l)=>some (.a s,l)
  |none=>none
 | .tup vs=>match shL shA vs with
  |some (s,l)=>some (.tup s,l)
  |none=>none
def mkV:ShV->List Lf->Option (TV×List Lf)
 | .a s,l=>match mkA s l with
  |some (x,l)=>some (.a x,l)
  |none=>none
 | .tup s,l=>match mkL mkA s l with
  |some (x,l)=>some (.tup x,l)
  |none=>none
theorem JDf{x:TV}{sh:ShV}{e:List Lf}(h:shV x=some (sh,e))(rest:List Lf):mkV sh (e++rest)=some (x,rest):=by
 cases x with
 |a x=>
  simp only[shV]at h;split at h
  ·rename_i s l h1;injection h with h;injection h with h2 h3;subst h2 h3;simp only[mkV,JtO h1]
  ·cases h
 |tup vs=>
  simp only[shV]at h;split at h
  ·rename_i s l h1;injection h with h;injection h with h2 h3;subst h2 h3;simp only[mkV,J8k JtO h1]
  ·cases h
def shB:TB->Option (ShB×List Lf)
 | .dead=>some (.dead,[])
 | .box t x=>some (.box t,[⟨t,x⟩])
 | .mbox t cs=>match shL shC cs with
  |some (s,l)=>some (.mbox t s,l)
  |none=>none
 | .arr w t rows=>some (.arr w t,[⟨.l t,rows⟩])
def mkB:ShB->List Lf->Option (TB×List Lf)
 | .dead,l=>some (.dead,l)
 | .box t,l=>match lf1 t l with
  |some (x,l)=>some (.box t x,l)
  |none=>none
 | .mbox t s,l=>match mkL mkC s l with
  |some (x,l)=>some (.mbox t x,l)
  |none=>none
 | .arr w t,l=>match lf1 (.l t) l with
  |some (x,l)=>some (.arr w t x,l)
  |none=>none
theorem Jvb{x:TB}{sh:ShB}{e:List Lf}(h:shB x=some (sh,e))(rest:List Lf):mkB sh (e++rest)=some (x,rest):=by
 cases x with
 |dead=>injection h with h;injection h with h2 h3;subst h2 h3;rfl
 |box t x=>injection h with h;grind [mkB,JiI]
 |mbox t cs=>
  simp only[shB]at h;split at h
  ·rename_i s l h1;injection h with h;injection h with h2 h3;subst h2 h3;simp only[mkB,J8k Jif h1]
  ·cases h
 |arr w t rows=>injection h with h;grind [mkB,JiI]
def shE(x:Nat×TV):Option ((Nat×ShV)×List Lf):=match shV x.2 with
 |some (s,l)=>some ((x.1,s),l)
 |none=>none
def mkE(x:Nat×ShV)(l:List Lf):Option ((Nat×TV)×List Lf):=match mkV x.2 l with
 |some (v,l)=>some ((x.1,v),l)
 |none=>none
theorem JIy{x:Nat×TV}{sh:Nat×ShV}{e:List Lf}(h:shE x=some (sh,e))(rest:List Lf):mkE sh (e++rest)=some (x,rest):=by
 unfold shE at h;split at h
 ·rename_i s l h1;injection h with h;injection h with h2 h3;subst h2 h3;simp only[mkE,JDf h1]
 ·cases h
def shS(s:TSt):Option (ShS×List Lf):=match shL shE s.env,shL shB s.sto with
 |some (a,l),some (c,k)=>some (⟨a,c⟩,l++k)
 |_,_=>none
def JhR(s:ShS)(l:List Lf):Option TSt:=match mkL mkE s.env l with
 |some (a,l)=>match mkL mkB s.sto l with
  |some (c,[])=>some ⟨a,c⟩
  |_=>none
 |none=>none
theorem Jzs{x:TSt}{sh:ShS}{g:List Lf}(h:shS x=some (sh,g)):JhR sh g=some x:=by
 unfold shS at h;split at h
 ·rename_i a l c k h1 h2;injection h with h;injection h with h3 h4;subst h3 h4;have e:=J8k Jvb h2 [];rw[JbW]at e;simp only[JhR,J8k JIy h1,e]
 ·cases h
def tyL:List Ty->Ty
 |[]=>.u
 |[t]=>t
 |t::t'::r=>.pr t (tyL (t'::r))
def Jkj:(e:List Lf)->(tyL (e.map (·.1))).D
 |[]=>()
 |[x]=>x.2
 |x::y::r=>(x.2,Jkj (y::r))
def J9r:(ts:List Ty)->(tyL ts).D->List Lf
 |[],_=>[]
 |[t],x=>[⟨t,x⟩]
 |t::t'::r,x=>⟨t,x.1⟩::J9r (t'::r) x.2
theorem Jia: ∀e:List Lf,J9r (e.map (·.1)) (Jkj e)=e
 |[]=>rfl
 |[x]=>rfl
 |x::y::r=>by
  have:=Jia (y::r)
  grind [J9r,Jkj]
def asL(ts:List Ty)(e:List Lf):Option (tyL ts).D:=if h:e.map (·.1)=ts then some (h▸Jkj e)else none
theorem JvR{ts:List Ty}{e:List Lf}{x:(tyL ts).D}(h:asL ts e=some x):J9r ts x=e:=by
 grind [asL,Jia]
def Jpp(sh:ShS)(ts:List Ty)(s:TSt):Option (tyL ts).D:=match shS s with
 |some (e,g)=>if e=sh then asL ts g else none
 |none=>none
theorem JA7{sh:ShS}{ts:List Ty}{s:TSt}{x:(tyL ts).D}(h:Jpp sh ts s=some x):JhR sh (J9r ts x)=some s:=by
 grind [Jpp,JvR,Jzs]
inductive TCo where
 |skip
 |bad
 |reg (draw:Bool) (pairs:List (Nat×Nat)) (ins:List J8X)
 |seq (a b:TCo)
 |cond (c:TO) (a b:TCo)
 |block (id:Nat) (c:TCo)
 |loop (live:List Nat) (c:TCo)
 |scope (c:TCo)
 |exit (id:Nat)
 |ret
 |keep (live:List Nat) (c:TCo)
 |tidy (live:List Nat) (c:TCo)
 |jn (sh:ShS) (ts:List Ty) (a b:TCo)
def erc:TCo->J17
 | .skip=>.skip
 | .bad=>.bad
 | .reg d p ins=>.reg d p (ins.map eri)
 | .seq a b=>.seq (erc a) (erc b)
 | .cond c a b=>.cond (erO c) (erc a) (erc b)
 | .block id c=>.block id (erc c)
 | .loop live c=>.loop live (erc c)
 | .scope c=>.scope (erc c)
 | .exit id=>.exit id
 | .ret=>.ret
 | .keep live c=>.keep live (erc c)
 | .tidy live c=>.tidy live (erc c)
 | .jn sh _ a b=>.seq (erc a) (.keep (sh.env.map (·.1)) (erc b))
structure TK(R:Type) where
 n:TSt->Option R
 x:Nat->TSt->Option R
 r:TSt->Option R
def TK.at'{R:Type}(K:TK R):AX->TSt->Option R
 | .normal=>K.n
 | .exit i=>K.x i
 | .ret=>K.r
def rbO(c:TO)(v:Bool)(s:TSt):TSt:=match c with
 | .t n=>rb n (vb v) s
 | .c _=>s
def jnO{σ R:Type}(m:Option (σ⊕R))(f:σ->Option R):Option R:=match m with
 |some (.inl x)=>f x
 |some (.inr r)=>some r
 |none=>none
def inl?{σ R:Type}(m:Option σ):Option (σ⊕R):=match m with
 |some x=>some (.inl x)
 |none=>none
def onO{α R:Type}(m:Option α)(k:α->Option R):Option R:=match m with
 |some x=>k x
 |none=>none
theorem J6s{α R:Type}{m:Option α}{k:α->Option R}{r:R}(h:onO m k=some r): ∃x,m=some x/\k x=some r:=by
 cases m with
 |none=>cases h
 |some x=>exact⟨x,rfl,h⟩
def JB5{R:Type}(clean:TSt->Option TSt)(body:(TSt->Option R)->TSt->Option R):Nat->TSt->Option R
 |0,_=>none
 |k+1,s=>body (λs'=>onO (clean s') (JB5 clean body k)) s
def orO{σ R:Type}(m:Option σ)(f:Unit->Option R):Option (σ⊕R):=match m with
 |some x=>some (.inl x)
 |none=>(f ()).map .inr
noncomputable def trc(G:TG):TCo->(R:Type)->TK R->TSt->Option R
 | .skip,_,K,s=>K.n s
 | .bad,_,_,_=>none
 | .reg _ p ins,_,K,s=>JFc G p ins s K.n
 | .seq a b,R,K,s=>trc G a R ⟨λs=>trc G b R K s,K.x,K.r⟩ s
 | .cond c a b,R,K,s=>match tev c s with
  |some (.a (.c (.d .b x)))=>if x=true then trc G a R K (rbO c true s)else trc G b R K (rbO c false s)
  |_=>none
 | .block id c,R,K,s=>trc G c R ⟨K.n,λi s=>if i=id then K.n s else K.x i s,K.r⟩ s
 | .loop live c,R,K,s=>onO (shS ⟨J8f live s.env,s.sto⟩) fun(sh,e)=>
   Jg (λx:(tyL (e.map (·.1))).D=>onO (JhR sh (J9r (e.map (·.1)) x)) λs1=>
    trc G c ((tyL (e.map (·.1))).D⊕R) ⟨λs'=>onO (J98 s.sto.length live s') λs'=>orO (Jpp sh (e.map (·.1)) s') λ_=>JB5 (J98 s.sto.length live) (λagain s=>trc G c R ⟨again,K.x,K.r⟩ s) 3 s',λi s'=>(K.x i s').map .inr,λs'=>(K.r s').map .inr⟩ s1) (Jkj e)
 | .scope c,R,K,s=>trc G c R K s
 | .exit id,_,K,s=>K.x id s
 | .ret,_,K,s=>K.r s
 | .keep live c,R,K,s=>trc G c R K ⟨J8f live s.env,s.sto⟩
 | .tidy live c,R,K,s=>trc G c R ⟨λs'=>onO (J98 s.sto.length live s') K.n,λi s'=>onO (J98 s.sto.length live s') (K.x i),λs'=>onO (J98 s.sto.length live s') K.r⟩ s
 | .jn sh ts a b,R,K,s=>jnO (trc G a ((tyL ts).D⊕R) ⟨λs'=>inl? (Jpp sh ts ⟨J8f (sh.env.map (·.1)) s'.env,s'.sto⟩),λi s'=>(K.x i s').map .inr,λs'=>(K.r s').map .inr⟩ s)
   λx=>onO (JhR sh (J9r ts x)) λs1=>trc G b R K s1
theorem Jkv(live:List Nat)(s:TSt):Jy ⟨J8f live s.env,s.sto⟩=⟨restr live (Jy s).env,(Jy s).sto⟩:=by simp[Jy,JbA]
theorem JE0{c:TO}{x:Bool}{s:TSt}(h:tev c s=some (vb x)):rbO c x s=s:=by
 cases c with
 |t n=>exact JvL h
 |c v=>rfl
theorem JFn{σ R:Type}{m:Option σ}{o:σ⊕R}(h:inl? m=some o): ∃x,m=some x/\o=.inl x:=by
 cases m with
 |none=>cases h
 |some x=>injection h with h;simp_all
theorem J6d{T:J4c}{G:TG}(j:GOk (AF T) G): ∀{c:TCo} {R:Type} {K:TK R} {s:TSt} {r:R},trc G c R K s=some r-> ∃o s',X T (erc c) (Jy s)=some (o,Jy s')/\K.at' o s'=some r
 | .skip,R,K,s,r,h=>⟨.normal,s,by simp[erc],h⟩
 | .bad,R,K,s,r,h=>by cases h
 | .reg d p ins,R,K,s,r,h=>by obtain⟨s',h1,h2⟩:=JHX j h;exact⟨.normal,s',by simp_all [erc,JGI],h2⟩
 | .seq a b,R,K,s,r,h=>by
  obtain⟨o,s1,h1,h2⟩:=J6d j (c:=a) h;rw[erc,JGA,h1];cases o with
  |normal=>obtain⟨o,g,h3,h4⟩:=J6d j (c:=b) h2;exact⟨o,g,h3,h4⟩
  |exit i=>exact⟨.exit i,s1,rfl,h2⟩
  |ret=>exact⟨.ret,s1,rfl,h2⟩
 | .cond c a b,R,K,s,r,h=>by
  unfold trc at h;split at h
  ·rename_i x hx;have e:evv (erO c) (Jy s).env=some (.p (.b x)):=by rw[<-Jms (erO c) (Jy s),J0w hx];rfl
   rw[erc,JIi,e,JGJ];split at h
   ·rename_i v;subst v;rw[JE0 hx]at h;simp only[if_true];exact J6d j (c:=a) h
   ·rename_i v;have:x=false:=by simpa using v
    subst this;rw[JE0 hx]at h;simp only[J8R,if_false];exact J6d j (c:=b) h
  ·cases h
 | .block id c,R,K,s,r,h=>by
  obtain⟨o,s1,h1,h2⟩:=J6d j (c:=c) h;rw[erc,JH1,h1];cases o with
  |normal=>exact⟨.normal,s1,rfl,h2⟩
  |exit i=>
   simp only[Jv8];simp only[TK.at']at h2;split at h2
   ·rename_i hi;rw[if_pos hi];exact⟨.normal,s1,rfl,h2⟩
   ·rename_i hi;rw[if_neg hi];exact⟨.exit i,s1,rfl,h2⟩
  |ret=>exact⟨.ret,s1,rfl,h2⟩
 | .loop live c,R,K,s,r,h=>by
  unfold trc at h;obtain⟨⟨sh,n⟩,hs,h⟩:=J6s h;dsimp only at h
  have A: ∀(k:Nat) {g:TSt} {r:R},JB5 (J98 s.sto.length live) (λagain s=>trc G c R ⟨again,K.x,K.r⟩ s) k g=some r->
    ∃o s',X T (.lp s.sto.length live (erc c)) (Jy g)=some (o,Jy s')/\K.at' o s'=some r:=by
   intro k
   induction k with
   |zero=>intro g r h;cases h
   |succ k ih=>
    intro g r h;obtain⟨o,w,h1,h2⟩:=J6d j (c:=c) h;rw[JF8,h1];cases o with
    |normal=>
     obtain⟨F,hc,h2⟩:=J6s h2
     grind [Jaa,J9Y]
    |exit i=>exact⟨.exit i,w,rfl,h2⟩
    |ret=>exact⟨.ret,w,rfl,h2⟩
  have z: ∀{x:(tyL (n.map (·.1))).D} {r:R},Jg (λx:(tyL (n.map (·.1))).D=>onO (JhR sh (J9r (n.map (·.1)) x)) λs1=>
    trc G c ((tyL (n.map (·.1))).D⊕R) ⟨λs'=>onO (J98 s.sto.length live s') λs'=>orO (Jpp sh (n.map (·.1)) s') λ_=>JB5 (J98 s.sto.length live) (λagain s=>trc G c R ⟨again,K.x,K.r⟩ s) 3 s',λi s'=>(K.x i s').map .inr,λs'=>(K.r s').map .inr⟩ s1) x=some r->
    ∃st,JhR sh (J9r (n.map (·.1)) x)=some st/\ ∃o s',X T (.lp s.sto.length live (erc c)) (Jy st)=some (o,Jy s')/\K.at' o s'=some r:=by
   intro x r hw;refine JiE (P:=fun(x:(tyL (n.map (·.1))).D) (r:R)=> ∃st,JhR sh (J9r (n.map (·.1)) x)=some st/\ ∃o s',X T (.lp s.sto.length live (erc c)) (Jy st)=some (o,Jy s')/\K.at' o s'=some r) ?_ ?_ hw
   ·intro x r hx;obtain⟨st,q,hx⟩:=J6s hx;obtain⟨o,s1,h1,h2⟩:=J6d j (c:=c) hx;refine⟨st,q,?_⟩;rw[JF8,h1];cases o with
    |normal=>
     obtain⟨g,hc,h2⟩:=J6s h2;unfold orO at h2
     grind [Option.map_eq_some_iff,Jaa,J9Y]
    |exit i=>obtain⟨r',h3,h4⟩:=J90.1 h2;injection h4 with h4;subst h4;exact⟨.exit i,s1,rfl,h3⟩
    |ret=>obtain⟨r',h3,h4⟩:=J90.1 h2;injection h4 with h4;subst h4;exact⟨.ret,s1,rfl,h3⟩
   ·rintro x y r hx ⟨st',E,o,w,h5,C⟩;obtain⟨st,q,hx⟩:=J6s hx;obtain⟨B,s1,h1,h2⟩:=J6d j (c:=c) hx;refine⟨st,q,?_⟩;rw[JF8,h1];cases B with
    |normal=>
     obtain⟨g,hc,h2⟩:=J6s h2;unfold orO at h2
     grind [JA7,Jaa,J9Y,Option.map_eq_some_iff]
    |exit i=>obtain⟨r',_,h4⟩:=J90.1 h2;cases h4
    |ret=>obtain⟨r',_,h4⟩:=J90.1 h2;cases h4
  obtain⟨st,q,o,s',h1,h2⟩:=z h;rw[Jia,Jzs hs]at q
  grind [erc,Jy,JJn,Jkv]
 | .scope c,R,K,s,r,h=>by
  obtain⟨o,s1,h1,h2⟩:=J6d j (c:=c) h
  grind [erc,JHn]
 | .exit id,R,K,s,r,h=>⟨.exit id,s,by simp[erc],h⟩
 | .ret,R,K,s,r,h=>⟨.ret,s,by rw[erc,JKJ],h⟩
 | .keep live c,R,K,s,r,h=>by
  obtain⟨o,s1,h1,h2⟩:=J6d j (c:=c) h
  grind [erc,JDU,Jkv]
 | .tidy live c,R,K,s,r,h=>by
  obtain⟨o,s1,h1,h2⟩:=J6d j (c:=c) h;rw[erc,JIO,h1,JxT,show(Jy s).sto.length=s.sto.length by simp[Jy]];cases o with
  |normal=>obtain⟨g,h3,h4⟩:=J6s h2;rw[J9Y h3];exact⟨.normal,g,rfl,h4⟩
  |exit i=>obtain⟨g,h3,h4⟩:=J6s h2;rw[J9Y h3];exact⟨.exit i,g,rfl,h4⟩
  |ret=>obtain⟨g,h3,h4⟩:=J6s h2;rw[J9Y h3];exact⟨.ret,g,rfl,h4⟩
 | .jn sh ts a b,R,K,s,r,h=>by
  unfold trc at h;rw[erc,JGA];cases ho:trc G a ((tyL ts).D⊕R) ⟨λs'=>inl? (Jpp sh ts ⟨J8f (sh.env.map (·.1)) s'.env,s'.sto⟩),λi s'=>(K.x i s').map .inr,λs'=>(K.r s').map .inr⟩ s with
  |none=>rw[ho]at h;cases h
  |some res=>
   rw[ho]at h;obtain⟨o,s1,h1,h2⟩:=J6d j (c:=a) ho;rw[h1];cases o with
   |normal=>
    obtain⟨x,hx,rfl⟩:=JFn h2;obtain⟨g,h3,h4⟩:=J6s h;rw[JA7 hx]at h3;injection h3 with h3;subst h3;obtain⟨o,w,h5,C⟩:=J6d j (c:=b) h4
    grind [Jaa,JDU,Jkv]
   |exit i=>obtain⟨r',h3,h4⟩:=J90.1 h2;subst h4;injection h with h;subst h;exact⟨.exit i,s1,rfl,h3⟩
   |ret=>obtain⟨r',h3,h4⟩:=J90.1 h2;subst h4;injection h with h;subst h;exact⟨.ret,s1,rfl,h3⟩
end Go.Am
end
section
namespace Go.Am
structure TFn where
 np:Nat
 nt:Nat
 body:TCo
 res:List JjU
 fresh:Bool
def erF(f:TFn):AFn:=⟨f.np,f.nt,erc f.body,f.res.map erR,f.fresh⟩
def Jlb:Nat->List TA->List (Nat×TV)
 |_,[]=>[]
 |k,x::r=>(k,.a x)::Jlb (k+1) r
theorem JvB(L:Nat->Nat): ∀(k:Nat) (xs:List TA),J8V k (xs.map (J1t L))=J5R L (Jlb k xs)
 |_,[]=>rfl
 |k,x::r=>by have:=JvB L (k+1) r;simp only[J1q,J8V,Jlb,J5R,this];rfl
noncomputable def JkQ(G:TG)(f:TFn){R:Type}(xs:List TA)(bl:List TB)(E:TV->List TB->Option R):Option R:=if xs.length=f.np then trc G f.body R ⟨λs=>Jfz f.res f.fresh bl.length s E,λ_ _=>none,λs=>Jfz f.res f.fresh bl.length s E⟩ ⟨Jlb 0 xs,bl⟩else none
theorem JHE{T:J4c}{G:TG}(e:GOk (AF T) G){g:FuncId}{f:TFn}(hf:T g=some (.fn (erF f))){R:Type}{xs:List TA}{bl:List TB}{E:TV->List TB->Option R}{r:R}(h:JkQ G f xs bl E=some r):
  ∃v out,AF T g (xs.map (J1t (lns bl))) (bl.map (J0E (lns bl)))=some (J05 (lns out) v,out.map (J0E (lns out)))/\E v out=some r:=by
 unfold JkQ at h;split at h
 ·rename_i hn;obtain⟨o,s',h1,h2⟩:=J6d e h;have e0:Jy ⟨Jlb 0 xs,bl⟩=⟨J8V 0 (xs.map (J1t (lns bl))),bl.map (J0E (lns bl))⟩:=by simp[Jy,JvB]
  rw[e0]at h1;have fin:Jfz f.res f.fresh bl.length s' E=some r-> ∃v out,J3I (erF f) bl.length (Jy s')=some (J05 (lns out) v,out.map (J0E (lns out)))/\E v out=some r:=
   λh=>JCf rfl rfl h
  have e1: ∀q,J3I (erF f) bl.length (Jy s')=some q->(o=.normal\/o=.ret)->AF T g (xs.map (J1t (lns bl))) (bl.map (J0E (lns bl)))=some q:=by intro q hq ho;rw[JKY T hf,if_pos (by rw[J6y];exact hn),show(erF f).body=erc f.body from rfl,h1,J6y];rcases ho with rfl|rfl<;>exact hq
  cases o with
  |normal=>
   obtain⟨v,out,h3,h4⟩:=fin h2
   grind
  |exit i=>cases h2
  |ret=>
   obtain⟨v,out,h3,h4⟩:=fin h2
   grind
 ·cases h
structure TE where
 f:FuncId
 go: ∀{R:Type},List TA->List TB->(TV->List (Bool×TB)->Option R)->Option R
 fit:List TA->List TB->Bool
structure EOk(F:Orc)(e:TE):Prop where
 ok: ∀{R:Type} {xs:List TA} {bl:List TB} {kk:TV->List (Bool×TB)->Option R} {r:R},e.go xs bl kk=some r->
  ∃v out,F e.f (xs.map (J1t (lns bl))) (bl.map (J0E (lns bl)))=some (J05 (JeW out) v,out.map λx=>J0E (JeW out) x.2)/\
   (∀(k:Nat) x,out[k]?=some (true,x)->k<bl.length->lnB x=lns bl k)/\kk v out=some r
def goE{R:Type}(f:FuncId)(xs:List TA)(bl:List TB)(kk:TV->List (Bool×TB)->Option R):List TE->Option R
 |[]=>none
 |e::r=>if f=e.f/\e.fit xs bl=true then e.go xs bl kk else goE f xs bl kk r
def TG.of(l:List TE):TG:=⟨λf xs bl kk=>goE f xs bl kk l⟩
def Jnd(F:Orc):List TE->Prop
 |[]=>True
 |e::r=>EOk F e/\Jnd F r
theorem JDK{F:Orc}{R:Type}{f:FuncId}{xs:List TA}{bl:List TB}{kk:TV->List (Bool×TB)->Option R}{r:R}: ∀{l:List TE},Jnd F l->goE f xs bl kk l=some r->
  ∃v out,F f (xs.map (J1t (lns bl))) (bl.map (J0E (lns bl)))=some (J05 (JeW out) v,out.map λx=>J0E (JeW out) x.2)/\
   (∀(k:Nat) x,out[k]?=some (true,x)->k<bl.length->lnB x=lns bl k)/\kk v out=some r
 |[],_,h=>by cases h
 |e::l,ha,h=>by
  simp only[goE]at h;split at h
  ·rename_i he;obtain⟨rfl,_⟩:=he;exact ha.1.ok h
  ·exact JDK ha.2 h
theorem JJJ{F:Orc}{l:List TE}(h:Jnd F l):GOk F (TG.of l):=⟨λe=>JDK h e⟩
structure Sig where
 args:List ShA
 blks:List ShB
 ti:List Ty
 res:ShV
 out:List ShB
 same:List Bool
 to:List Ty
def JeR(g:Sig)(x:(tyL g.ti).D):Option (List TA×List TB):=match mkL mkA g.args (J9r g.ti x)with
 |some (xs,l)=>match mkL mkB g.blks l with
  |some (bl,[])=>some (xs,bl)
  |_=>none
 |none=>none
def JnV(g:Sig)(xs:List TA)(bl:List TB):Option (tyL g.ti).D:=match shL shA xs,shL shB bl with
 |some (a,l),some (c,k)=>if a=g.args/\c=g.blks then asL g.ti (l++k)else none
 |_,_=>none
theorem JHv{g:Sig}{xs:List TA}{bl:List TB}{x:(tyL g.ti).D}(h:JnV g xs bl=some x):JeR g x=some (xs,bl):=by
 unfold JnV at h;split at h
 ·rename_i a l c k h1 h2;split at h
  ·rename_i j;obtain⟨rfl,rfl⟩:=j;have e:=J8k Jvb h2 [];rw[JbW]at e;unfold JeR;rw[JvR h,J8k JtO h1 k];simp only[e]
  ·cases h
 ·cases h
def Jtg(g:Sig)(y:(tyL g.to).D):Option (TV×List TB):=match mkV g.res (J9r g.to y)with
 |some (v,l)=>match mkL mkB g.out l with
  |some (out,[])=>some (v,out)
  |_=>none
 |none=>none
def Jbt(g:Sig)(v:TV)(out:List TB):Option (tyL g.to).D:=match shV v,shL shB out with
 |some (a,l),some (c,k)=>if a=g.res/\c=g.out then asL g.to (l++k)else none
 |_,_=>none
theorem JFN{g:Sig}{v:TV}{out:List TB}{y:(tyL g.to).D}(h:Jbt g v out=some y):Jtg g y=some (v,out):=by
 unfold Jbt at h;split at h
 ·rename_i a l c k h1 h2;split at h
  ·rename_i j;obtain⟨rfl,rfl⟩:=j;have e:=J8k Jvb h2 [];rw[JbW]at e;unfold Jtg;rw[JvR h,JDf h1 k];simp only[e]
  ·cases h
 ·cases h
def flg(same:List Bool)(out:List TB):List (Bool×TB):=match same,out with
 |b::r,x::l=>(b,x)::flg r l
 |[],x::l=>(false,x)::flg [] l
 |_,[]=>[]
theorem Jfg: ∀(same:List Bool) (out:List TB),(flg same out).map (·.2)=out
 |[],[]=>rfl
 |[],x::l=>by simp only[flg,J1q,Jfg [] l]
 |b::r,[]=>rfl
 |b::r,x::l=>by simp only[flg,J1q,Jfg r l]
def sigE(f:FuncId)(g:Sig)(S:(tyL g.ti).D->Option (tyL g.to).D):TE:=
 ⟨f,λxs bl kk=>match JnV g xs bl with
  |some x=>(S x).bind λy=>match Jtg g y with
   |some (v,out)=>kk v (flg g.same out)
   |none=>none
  |none=>none,λxs bl=>(JnV g xs bl).isSome⟩
def JEG:ShB->Bool
 | .arr _ _=>false
 |_=>true
def JhH(g:Sig):Bool:=(List.range g.same.length).all λk=>match g.same[k]?,g.blks[k]?,g.out[k]? with
 |some true,some a,some c=>JEG a&&JEG c
 |some true,some _,none=>false
 |_,_,_=>true
theorem Jvd{x:TB}{s:ShB}{e:List Lf}(h:shB x=some (s,e))(hb:JEG s=true):lnB x=0:=by
 cases x with
 |arr w t rows=>injection h with h;injection h with h1;subst h1;cases hb
 |_=>rfl
theorem Jx1{α σ:Type}{f:α->Option (σ×List Lf)}: ∀{xs:List α} {e:List σ} {g:List Lf},shL f xs=some (e,g)-> ∀(k:Nat) x,xs[k]?=some x-> ∃s l,e[k]?=some s/\f x=some (s,l)
 |[],_,_,_,k,x,hk=>by simp at hk
 |y::r,e,g,h,k,x,hk=>by
  simp only[shL]at h;split at h
  ·rename_i s l q k' h1 h2;injection h with h;injection h with h3 h4;subst h3 h4;cases k with
   |zero=>simp_all
   |succ k=>exact Jx1 h2 k x (by simpa using hk)
  ·cases h
theorem JtM: ∀{same:List Bool} {out:List TB} {k:Nat} {x:TB},(flg same out)[k]?=some (true,x)->same[k]?=some true/\out[k]?=some x
 |[],[],k,x,h=>by simp[flg]at h
 |[],y::l,k,x,h=>by
  cases k with
  |zero=>simp[flg]at h
  |succ k=>simp only[flg,List.getElem?_cons_succ]at h;have:=JtM (same:=[]) h;simp at this
 |b::r,[],k,x,h=>by simp[flg]at h
 |b::r,y::l,k,x,h=>by
  cases k with
  |zero=>grind [flg]
  |succ k=>simp only[flg,List.getElem?_cons_succ]at h;simpa using JtM h
theorem Jlj{T:J4c}{f:FuncId}{g:Sig}{S:(tyL g.ti).D->Option (tyL g.to).D}(hs:JhH g=true)
  (h: ∀x xs bl y,JeR g x=some (xs,bl)->S x=some y-> ∃v out,AF T f (xs.map (J1t (lns bl))) (bl.map (J0E (lns bl)))=some (J05 (lns out) v,out.map (J0E (lns out)))/\Jbt g v out=some y):EOk (AF T) (sigE f g S):=by
 refine⟨fun{R xs bl kk r} j=>?_⟩;simp only[sigE]at j;split at j
 ·rename_i x hx;obtain⟨y,hy,j⟩:=J2K.1 j;split at j
  ·rename_i v out hv;obtain⟨w,e,h1,h2⟩:=h x xs bl y (JHv hx) hy;rw[JFN h2]at hv;injection hv with hv;injection hv with hv1 hv2;subst hv1 hv2;refine⟨w,flg g.same e,?_,λk z hz hk=>?_,j⟩
   ·unfold JeW;rw[Jfg];have:(flg g.same e).map (λx=>J0E (lns e) x.2)=e.map (J0E (lns e)):=by
     conv=>rhs;rw[<-Jfg g.same e,Jok]
     simp[Jfg]
    rw[this];exact h1
   ·obtain⟨n,o⟩:=JtM hz;unfold JhH at hs;rw[JCi]at hs;have hs:=hs k (by grind);unfold JnV at hx;split at hx
    ·rename_i a l c k' e1 e2;split at hx
     ·rename_i e0;obtain⟨I,G,q1,q2⟩:=Jx1 e2 k _ (zQ9 hk);unfold Jbt at h2;split at h2
      ·rename_i a2 l2 F k2 H C;split at h2
       ·rename_i q;obtain⟨sc,E,B,A⟩:=Jx1 C k z o;rw[n,<-e0.2,q1,<-q.2,B]at hs;simp only[J04]at hs;rw[Jvd A hs.2];unfold lns;rw[zQ9 hk];exact(Jvd q2 hs.1).symm
       ·cases h2
      ·cases h2
     ·cases hx
    ·cases hx
  ·cases j
 ·cases j
theorem JGG{T:J4c}{f:FuncId}{g:Sig}{fn:TFn}{S:(tyL g.ti).D->Option (tyL g.to).D}{l:List TE}(hf:T f=some (.fn (erF fn)))(hl:Jnd (AF T) l)(hs:JhH g=true)
  (h: ∀x,onO (JeR g x) (λy=>JkQ (TG.of l) fn y.1 y.2 (Jbt g))=S x):EOk (AF T) (sigE f g S):=by
 refine Jlj hs λx xs bl y hx hy=>?_;have e:=h x;rw[hx,hy]at e;exact JHE (JJJ hl) hf e
def JeE{α β:Type}(S:(α->Option β)->α->Option β):Nat->α->Option β
 |0=>λ_=>none
 |n+1=>S (JeE S n)
theorem JtW{T:J4c}{f:FuncId}{g:Sig}{fn:TFn}{S:((tyL g.ti).D->Option (tyL g.to).D)->(tyL g.ti).D->Option (tyL g.to).D}{l:List TE}(hf:T f=some (.fn (erF fn)))(hl:Jnd (AF T) l)(hs:JhH g=true)
  (h: ∀r x,onO (JeR g x) (λy=>JkQ (TG.of (sigE f g r::l)) fn y.1 y.2 (Jbt g))=S r x): ∀n,EOk (AF T) (sigE f g (JeE S n))
 |0=>Jlj hs λx xs bl y hx hy=>by cases hy
 |n+1=>JGG hf (l:=sigE f g (JeE S n)::l) (And.intro (JtW hf hl hs h n) hl) hs (h (JeE S n))
end Go.Am
end
section
namespace Go.Am
end Go.Am
end
