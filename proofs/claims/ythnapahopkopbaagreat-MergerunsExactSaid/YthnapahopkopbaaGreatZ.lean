/-
  MergerunsExact returns true for every input, and its arguments read afterwards as before. No condition.
-/
import Derived.Test.YthnapahopkopbaaGreatRows
import Derived.Test.YthnapahopkopbaaGreatM6
import Derived.Test.YthnapahopkopbaaGreatM7
import Derived.Test.YthnapahopkopbaaGreatM8
set_option linter.unusedSimpArgs false
set_option linter.unusedVariables false
namespace Go.Proofs.YthnapahopkopbaaGreat
open Go.Am Go.ChangeShapes Go.WideShapes Go.ChangeAt Go.RowKit
set_option linter.unusedSimpArgs false
set_option linter.unusedVariables false
set_option maxRecDepth 100000
theorem own:ownKnob Tryz.prog.godebug=none:=by kernel_rfl
theorem JA8:laidOutB Tryz.prog=true:=by kernel_rfl
theorem JsA:mapsRowed Tryz.prog=true:=by kernel_rfl
theorem JPs:JbB Tryz.prog=true:=by kernel_rfl
theorem JOA(os:Os)(h:os.Started)(H:Type)(enc:TypeId×Value->H):
  ReturnsInHanded {} Tryz.checked os 5 .any (Rows.mergerunsExactSpec.pre6 enc Tryz.prog Tryz.f5 Rows.mergerunsExactRow.domain false) (Rows.mergerunsExactSpec.post enc Tryz.prog Tryz.f5 false true false false):=by
 refine returnsInHanded_of_change (C:=Tryz.checked) own h (by kernel_rfl) Tryz.func5
  (ChangeSpec.witness6 (enc:=enc) (C:=Tryz.checked) false ⟨#[], #[.slice none 0 0,.agg #[.int .i64 0,.int .i64 0,.int .i64 0,.int .i64 0,.int .i64 0,.slice none 0 0],.int .i64 0],[]⟩ 8 (by kernel_rfl) (by kernel_rfl) (by kernel_rfl) (by kernel_rfl)) ?_
 intro W base args K gs D k z L _;have g: ∀(j:Nat) t v,Tryz.f5.params[j]?=some t->args[j]?=some v->Value.okWide Tryz.prog W .any base t v:=k;have E:=z;obtain⟨p,q,A,hV,rfl,a0,Y⟩:=z;have B:DataW.TrodAll enc Tryz.prog W 0 (λ_=>true) true Tryz.f5.params.toList args.toList K p:=A;rw[Tryz.params5]at B g;obtain⟨v0,Z,d0,Q,p0,q0,F,rfl,rfl,I,r0⟩:=trodAll_cons B;obtain⟨v1,P,d1,V,p1,q1,rfl,rfl,rfl,h1,G⟩:=trodAll_cons r0;obtain⟨v2,S,d2,a1,p2,q2,rfl,rfl,rfl,h2,M⟩:=trodAll_cons G;obtain⟨rfl,rfl,rfl⟩:=trodAll_nil M;obtain rfl:args= #[v0,v1,v2]:=by cases args;simp_all
 obtain⟨R,N,z0⟩:=Jv8 JA8 JsA (n:=12) (by kernel_rfl) (g 0 22 v0 rfl rfl) I;obtain⟨o,rfl,w0⟩:=rdT 12 (.l (.i .u8)) 22 (by kernel_rfl) _ N;rw[JAE (lns []) (agg:=false) (by kernel_rfl) (λ_=>by first|rfl|contradiction) o]at z0;obtain⟨T,J,z1⟩:=Jv8 JA8 JsA (n:=12) (by kernel_rfl) (g 1 28 v1 rfl rfl) h1;obtain⟨x1,rfl,w1⟩:=rdT 12 JU 28 (by kernel_rfl) _ J;rw[JAE (lns []) (agg:=true) (by kernel_rfl) (λ_=>by first|rfl|contradiction) x1]at z1;obtain⟨U,O,z2⟩:=Jv8 JA8 JsA (n:=12) (by kernel_rfl) (g 2 3 v2 rfl rfl) h2;obtain⟨y,rfl,w2⟩:=rdT 12 (.i .i64) 3 (by kernel_rfl) _ O;rw[JAE (lns []) (agg:=false) (by kernel_rfl) (λ_=>by first|rfl|contradiction) y]at z2;have run:=JOl (JgM JFu).1 (xs:=[JGT false (.l (.i .u8)) o,JGT true JU x1,JGT false (.i .i64) y]) (x:=(o,x1,y)) rfl (JgD w0 w1 w2) rfl;refine(JJy JNT (f:=5) (vals:= #[v0,v1,v2]) (w:=W) rfl (λi a v ha hv=>?_) run).mono λe W' ⟨he,r⟩=>?_
 ·match i with
  |0=>simp at ha hv;subst ha hv;exact z0
  |1=>simp at ha hv;subst ha hv;exact z1
  |2=>simp at ha hv;subst ha hv;exact z2
  |i+3=>simp at ha
 ·subst he;exact⟨_,rfl,JLa JA8 JsA JPs (by rw[Tryz.params5];decide+kernel) (by kernel_rfl) (tb:=4) (by kernel_rfl) rfl (λr=>by subst r;rfl) E r⟩
theorem JK6:Tryz.f5.params.all (Tryz.prog.readableRec ·)=true:=by kernel_rfl
theorem JMb:(Rows.mergerunsExactRow.inPlace==Tryz.prog.inPlace 5)=true:=by kernel_rfl
theorem JPH:(Rows.mergerunsExactRow.unfollowed==Tryz.prog.unfollowed 5)=true:=by kernel_rfl
theorem JPg:(Rows.mergerunsExactRow.recurses==Tryz.prog.recurses 5)=true:=by kernel_rfl
theorem JML:(Rows.mergerunsExactRow.named==Tryz.prog.varsNamed 5)=true:=by kernel_rfl
theorem JOP:(Rows.mergerunsExactRow.plainKeys==Tryz.prog.plainKeys)=true:=by kernel_rfl
theorem JL2:joinedFacts Tryz.prog 5 Tryz.f5 Rows.mergerunsExactSpec Rows.mergerunsExactRow=true:=by
 unfold joinedFacts;rw[JA8,JsA,JK6,JMb,JPH,JPg,JML,JOP]
 kernel_rfl
theorem JQ7:Rows.mergerunsExactRow.holds Tryz.pinned (OpenSpec.ofChange Rows.mergerunsExactSpec):=
 OpenClaim.holds_of_wide 5 Tryz.f5 rfl rfl rfl rfl rfl rfl rfl ⟨rfl,rfl,rfl,rfl,rfl⟩ rfl rfl rfl rfl rfl (by kernel_rfl) Tryz.func5 JL2
  (of_decide_eq_true (by kernel_rfl)) (by unfold Func.isWrapper;first|(rw[if_pos (by decide+kernel)];kernel_rfl)|(rw[if_neg (by decide+kernel)];exact⟨rfl,rfl⟩))
  (λos e H enc _=>JOA os e H enc)
theorem mergerunsExact_proved:Rows.MergerunsExactSaid:=JQ7
end Go.Proofs.YthnapahopkopbaaGreat
