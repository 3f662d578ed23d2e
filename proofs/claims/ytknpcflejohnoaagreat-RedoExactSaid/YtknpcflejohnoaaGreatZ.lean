/-
  RedoExact returns true for every input, and its arguments read afterwards as before. No condition.
-/
import Derived.Test.YtknpcflejohnoaaGreatRows
import Derived.Test.YtknpcflejohnoaaGreatM5
import Derived.Test.YtknpcflejohnoaaGreatM6
import Derived.Test.YtknpcflejohnoaaGreatM7
import Derived.Test.YtknpcflejohnoaaGreatM8
set_option linter.unusedSimpArgs false
set_option linter.unusedVariables false
namespace Go.Proofs.YtknpcflejohnoaaGreat
open Go.Am Go.ChangeShapes Go.WideShapes Go.ChangeAt Go.RowKit
set_option linter.unusedSimpArgs false
set_option linter.unusedVariables false
set_option maxRecDepth 100000
theorem own:ownKnob Tryz.prog.godebug=none:=by kernel_rfl
theorem CT:laidOutB Tryz.prog=true:=by kernel_rfl
theorem DK:mapsRowed Tryz.prog=true:=by kernel_rfl
theorem JLo:RS Tryz.prog=true:=by kernel_rfl
theorem JKf(os:Os)(o:os.Started)(H:Type)(enc:TypeId×Value->H):
  ReturnsInHanded {} Tryz.checked os 4 .any (Rows.redoExactSpec.pre6 enc Tryz.prog Tryz.f4 Rows.redoExactRow.domain false) (Rows.redoExactSpec.post enc Tryz.prog Tryz.f4 false true false false):=by
 refine returnsInHanded_of_change (C:=Tryz.checked) own o (by kernel_rfl) Tryz.func4
  (ChangeSpec.witness6 (enc:=enc) (C:=Tryz.checked) false ⟨#[], #[.slice none 0 0,.agg #[.int .i64 0,.int .i64 0,.bool false,.string ⟨#[]⟩,.bool false,.string ⟨#[]⟩,.bool false,.string ⟨#[]⟩,.bool false,.string ⟨#[]⟩,.bool false,.string ⟨#[]⟩,.bool false,.string ⟨#[]⟩,.bool false,.string ⟨#[]⟩,.bool false,.string ⟨#[]⟩,.bool false,.string ⟨#[]⟩,.bool false,.string ⟨#[]⟩,.bool false,.string ⟨#[]⟩,.bool false,.string ⟨#[]⟩,.bool false,.string ⟨#[]⟩,.bool false,.string ⟨#[]⟩,.bool false,.string ⟨#[]⟩,.bool false,.string ⟨#[]⟩],.agg #[.int .i64 0,.int .i64 0,.int .i64 0,.int .i64 0,.int .i64 0,.int .i64 0,.int .i64 0,.int .i64 0,.bool false,.string ⟨#[]⟩,.bool false,.string ⟨#[]⟩,.string ⟨#[]⟩],.int .i64 0],[]⟩ 8 (by kernel_rfl) (by kernel_rfl) (by kernel_rfl) (by kernel_rfl)) ?_
 intro W base args Y gs I r K R _;have g: ∀(j:Nat) t v,Tryz.f4.params[j]?=some t->args[j]?=some v->Value.okWide Tryz.prog W .any base t v:=r;have J:=K;obtain⟨p,q,F,hV,rfl,ae,ak⟩:=K;have G:DataW.TrodAll enc Tryz.prog W 0 (λ_=>true) true Tryz.f4.params.toList args.toList Y p:=F;rw[Tryz.params4]at G g;obtain⟨v0,aa,d0,a8,p0,q0,P,rfl,rfl,h0,r0⟩:=trodAll_cons G;obtain⟨v1,a7,d1,ag,p1,q1,rfl,rfl,rfl,h1,V⟩:=trodAll_cons r0;obtain⟨v2,aj,d2,ac,p2,q2,rfl,rfl,rfl,h2,Z⟩:=trodAll_cons V;obtain⟨D,ah,d3,ad,p3,q3,rfl,rfl,rfl,h3,T⟩:=trodAll_cons Z;obtain⟨rfl,rfl,rfl⟩:=trodAll_nil T;obtain rfl:args= #[v0,v1,v2,D]:=by cases args;simp_all
 obtain⟨ai,U,L⟩:=PP CT DK (n:=12) (by kernel_rfl) (g 0 22 v0 rfl rfl) h0;obtain⟨z,rfl,w0⟩:=rdT 12 (.l (.i .u8)) 22 (by kernel_rfl) _ U;rw[PB (lns []) (agg:=false) (by kernel_rfl) (λ_=>by first|rfl|contradiction) z]at L;obtain⟨af,S,N⟩:=PP CT DK (n:=12) (by kernel_rfl) (g 1 57 v1 rfl rfl) h1;obtain⟨E,rfl,w1⟩:=rdT 12 Jd 57 (by kernel_rfl) _ S;rw[PB (lns []) (agg:=true) (by kernel_rfl) (λ_=>by first|rfl|contradiction) E]at N;obtain⟨a9,y2,O⟩:=PP CT DK (n:=12) (by kernel_rfl) (g 2 54 v2 rfl rfl) h2;obtain⟨y,rfl,w2⟩:=rdT 12 J8 54 (by kernel_rfl) _ y2;rw[PB (lns []) (agg:=true) (by kernel_rfl) (λ_=>by first|rfl|contradiction) y]at O;obtain⟨ab,Q,M⟩:=PP CT DK (n:=12) (by kernel_rfl) (g 3 3 D rfl rfl) h3;obtain⟨B,rfl,w3⟩:=rdT 12 (.i .i64) 3 (by kernel_rfl) _ Q;rw[PB (lns []) (agg:=false) (by kernel_rfl) (λ_=>by first|rfl|contradiction) B]at M;have run:=JJX Xo.1 (xs:=[HH false (.l (.i .u8)) z,HH true Jd E,HH true J8 y,HH false (.i .i64) B]) (x:=(z,E,y,B)) rfl (Xf w0 w1 w2 w3) rfl;refine(JEt JKR (f:=4) (vals:= #[v0,v1,v2,D]) (w:=W) rfl (λi a v h k=>?_) run).mono λe W' ⟨he,A⟩=>?_
 match i with
 |0=>simp at h k;subst h k;exact L
 |1=>simp at h k;subst h k;exact N
 |2=>simp at h k;subst h k;exact O
 |3=>simp at h k;subst h k;exact M
 |i+4=>simp at h
 subst he;exact⟨_,rfl,JGt CT DK JLo (by rw[Tryz.params4];decide+kernel) (by kernel_rfl) (tb:=4) (by kernel_rfl) rfl (λA=>by subst A;rfl) J A⟩
theorem JFb:Tryz.f4.params.all (Tryz.prog.readableRec ·)=true:=by kernel_rfl
theorem JHx:(Rows.redoExactRow.inPlace==Tryz.prog.inPlace 4)=true:=by kernel_rfl
theorem JLH:(Rows.redoExactRow.unfollowed==Tryz.prog.unfollowed 4)=true:=by kernel_rfl
theorem JL9:(Rows.redoExactRow.recurses==Tryz.prog.recurses 4)=true:=by kernel_rfl
theorem JId:(Rows.redoExactRow.named==Tryz.prog.varsNamed 4)=true:=by kernel_rfl
theorem JKC:(Rows.redoExactRow.plainKeys==Tryz.prog.plainKeys)=true:=by kernel_rfl
theorem JGn:joinedFacts Tryz.prog 4 Tryz.f4 Rows.redoExactSpec Rows.redoExactRow=true:=by
 unfold joinedFacts;rw[CT,DK,JFb,JHx,JLH,JL9,JId,JKC]
 kernel_rfl
theorem Zw:Rows.redoExactRow.holds Tryz.pinned (OpenSpec.ofChange Rows.redoExactSpec):=
 OpenClaim.holds_of_wide 4 Tryz.f4 rfl rfl rfl rfl rfl rfl rfl ⟨rfl,rfl,rfl,rfl,rfl⟩ rfl rfl rfl rfl rfl (by kernel_rfl) Tryz.func4 JGn
  (of_decide_eq_true (by kernel_rfl)) (by unfold Func.isWrapper;first|(rw[if_pos (by decide+kernel)];kernel_rfl)|(rw[if_neg (by decide+kernel)];exact⟨rfl,rfl⟩))
  (λos e H enc _=>JKf os e H enc)
theorem redoExact_proved:Rows.RedoExactSaid:=Zw
end Go.Proofs.YtknpcflejohnoaaGreat
