/-
  ArchiverExact returns true for every input, and its arguments read afterwards as before. No condition.
-/
import Derived.Test.YtckgllmahldikaaGreatRows
import Derived.Test.YtckgllmahldikaaGreatM3
import Derived.Test.YtckgllmahldikaaGreatM7
import Derived.Test.YtckgllmahldikaaGreatM8
import Derived.Test.YtckgllmahldikaaGreatM9
set_option linter.unusedSimpArgs false
set_option linter.unusedVariables false
namespace Go.Proofs.YtckgllmahldikaaGreat
open Go.Am Go.ChangeShapes Go.WideShapes Go.ChangeAt Go.RowKit
set_option linter.unusedSimpArgs false
set_option linter.unusedVariables false
set_option maxRecDepth 100000
theorem own:ownKnob Tryz.prog.godebug=none:=by kernel_rfl
theorem BP:laidOutB Tryz.prog=true:=by kernel_rfl
theorem CD:mapsRowed Tryz.prog=true:=by kernel_rfl
theorem JVl:WJ Tryz.prog=true:=by kernel_rfl
theorem JTY(os:Os)(o:os.Started)(H:Type)(enc:TypeId×Value->H):
  ReturnsInHanded {} Tryz.checked os 8 .any (Rows.archiverExactSpec.pre6 enc Tryz.prog Tryz.f8 Rows.archiverExactRow.domain false) (Rows.archiverExactSpec.post enc Tryz.prog Tryz.f8 false true false false):=by
 refine returnsInHanded_of_change (C:=Tryz.checked) own o (by kernel_rfl) Tryz.func8
  (ChangeSpec.witness6 (enc:=enc) (C:=Tryz.checked) false ⟨#[], #[.slice none 0 0,.int .i64 0,.int .i64 0,.int .i64 0,.slice none 0 0],[]⟩ 8 (by kernel_rfl) (by kernel_rfl) (by kernel_rfl) (by kernel_rfl)) ?_
 intro W base args Z gs G r J R _;have g: ∀(j:Nat) t v,Tryz.f8.params[j]?=some t->args[j]?=some v->Value.okWide Tryz.prog W .any base t v:=r;have I:=J;obtain⟨p,q,F,hV,rfl,al,av⟩:=J;have hA:DataW.TrodAll enc Tryz.prog W 0 (λ_=>true) true Tryz.f8.params.toList args.toList Z p:=F;rw[Tryz.params8]at hA g;obtain⟨z,ah,d0,ae,p0,q0,P,rfl,rfl,h0,r0⟩:=trodAll_cons hA;obtain⟨y,ad,d1,ao,p1,q1,rfl,rfl,rfl,h1,V⟩:=trodAll_cons r0;obtain⟨E,au,d2,aj,p2,q2,rfl,rfl,rfl,h2,r2⟩:=trodAll_cons V;obtain⟨A,ap,d3,ak,p3,q3,rfl,rfl,rfl,h3,U⟩:=trodAll_cons r2;obtain⟨D,am,d4,aw,p4,q4,rfl,rfl,rfl,h4,Y⟩:=trodAll_cons U;obtain⟨rfl,rfl,rfl⟩:=trodAll_nil Y;obtain rfl:args= #[z,y,E,A,D]:=by cases args;simp_all
 obtain⟨aq,y0,L⟩:=NX BP CD (n:=12) (by kernel_rfl) (g 0 22 z rfl rfl) h0;obtain⟨x0,rfl,w0⟩:=rdT 12 (.l (.i .u8)) 22 (by kernel_rfl) _ y0;rw[NE (_w []) (agg:=false) (by kernel_rfl) (λ_=>by first|rfl|contradiction) x0]at L;obtain⟨an,S,N⟩:=NX BP CD (n:=12) (by kernel_rfl) (g 1 3 y rfl rfl) h1;obtain⟨X,rfl,w1⟩:=rdT 12 (.i .i64) 3 (by kernel_rfl) _ S;rw[NE (_w []) (agg:=false) (by kernel_rfl) (λ_=>by first|rfl|contradiction) X]at N;obtain⟨af,y2,O⟩:=NX BP CD (n:=12) (by kernel_rfl) (g 2 3 E rfl rfl) h2;obtain⟨x2,rfl,w2⟩:=rdT 12 (.i .i64) 3 (by kernel_rfl) _ y2;rw[NE (_w []) (agg:=false) (by kernel_rfl) (λ_=>by first|rfl|contradiction) x2]at O;obtain⟨ai,Q,M⟩:=NX BP CD (n:=12) (by kernel_rfl) (g 3 3 A rfl rfl) h3;obtain⟨x3,rfl,w3⟩:=rdT 12 (.i .i64) 3 (by kernel_rfl) _ Q;rw[NE (_w []) (agg:=false) (by kernel_rfl) (λ_=>by first|rfl|contradiction) x3]at M;obtain⟨ag,y4,K⟩:=NX BP CD (n:=12) (by kernel_rfl) (g 4 31 D rfl rfl) h4;obtain⟨x4,rfl,T⟩:=rdT 12 (.l (.i .i64)) 31 (by kernel_rfl) _ y4;rw[NE (_w []) (agg:=false) (by kernel_rfl) (λ_=>by first|rfl|contradiction) x4]at K;have run:=JTG Jku.1 (xs:=[GE false (.l (.i .u8)) x0,GE false (.i .i64) X,GE false (.i .i64) x2,GE false (.i .i64) x3,GE false (.l (.i .i64)) x4]) (x:=(x0,X,x2,x3,x4)) rfl (JkX w0 w1 w2 w3 T) rfl;refine(JMX JUK (f:=8) (vals:= #[z,y,E,A,D]) (w:=W) rfl (λi a v h k=>?_) run).mono λe W' ⟨he,B⟩=>?_
 match i with
 |0=>simp at h k;subst h k;exact L
 |1=>simp at h k;subst h k;exact N
 |2=>simp at h k;subst h k;exact O
 |3=>simp at h k;subst h k;exact M
 |4=>simp at h k;subst h k;exact K
 |i+5=>simp at h
 subst he;exact⟨_,rfl,JOX BP CD JVl (by rw[Tryz.params8];decide+kernel) (by kernel_rfl) (tb:=4) (by kernel_rfl) rfl (λB=>by subst B;rfl) I B⟩
theorem JNF:Tryz.f8.params.all (Tryz.prog.readableRec ·)=true:=by kernel_rfl
theorem JQg:(Rows.archiverExactRow.inPlace==Tryz.prog.inPlace 8)=true:=by kernel_rfl
theorem JVE:(Rows.archiverExactRow.unfollowed==Tryz.prog.unfollowed 8)=true:=by kernel_rfl
theorem JV8:(Rows.archiverExactRow.recurses==Tryz.prog.recurses 8)=true:=by kernel_rfl
theorem JR8:(Rows.archiverExactRow.named==Tryz.prog.varsNamed 8)=true:=by kernel_rfl
theorem JUn:(Rows.archiverExactRow.plainKeys==Tryz.prog.plainKeys)=true:=by kernel_rfl
theorem JOP:joinedFacts Tryz.prog 8 Tryz.f8 Rows.archiverExactSpec Rows.archiverExactRow=true:=by
 unfold joinedFacts;rw[BP,CD,JNF,JQg,JVE,JV8,JR8,JUn]
 kernel_rfl
theorem JWd:Rows.archiverExactRow.holds Tryz.pinned (OpenSpec.ofChange Rows.archiverExactSpec):=
 OpenClaim.holds_of_wide 8 Tryz.f8 rfl rfl rfl rfl rfl rfl rfl ⟨rfl,rfl,rfl,rfl,rfl⟩ rfl rfl rfl rfl rfl (by kernel_rfl) Tryz.func8 JOP
  (of_decide_eq_true (by kernel_rfl)) (by unfold Func.isWrapper;first|(rw[if_pos (by decide+kernel)];kernel_rfl)|(rw[if_neg (by decide+kernel)];exact⟨rfl,rfl⟩))
  (λos e H enc _=>JTY os e H enc)
theorem archiverExact_proved:Rows.ArchiverExactSaid:=JWd
end Go.Proofs.YtckgllmahldikaaGreat
