/-
  MergerunsOrder returns true for every input, and its arguments read afterwards as before. No condition.
-/
import Derived.Test.YthnapahopkopbaaGreatRows
import Derived.Test.YthnapahopkopbaaGreatM5
import Derived.Test.YthnapahopkopbaaGreatM6
import Derived.Test.YthnapahopkopbaaGreatM7
import Derived.Test.YthnapahopkopbaaGreatM8
set_option linter.unusedSimpArgs false
set_option linter.unusedVariables false
namespace Go.Proofs.YthnapahopkopbaaGreat
open Go.Am Go.ChangeShapes Go.WideShapes Go.ChangeAt Go.RowKit
set_option linter.unusedSimpArgs false
set_option linter.unusedVariables false
set_option maxRecDepth 100000
theorem own:ownKnob Tryz.prog.godebug=none:=by kernel_rfl
theorem JAh:laidOutB Tryz.prog=true:=by kernel_rfl
theorem JsX:mapsRowed Tryz.prog=true:=by kernel_rfl
theorem JKy:Jbr Tryz.prog=true:=by kernel_rfl
theorem JJy(os:Os)(h:os.Started)(H:Type)(enc:TypeId×Value->H):
  ReturnsInHanded {} Tryz.checked os 6 .any (Rows.mergerunsOrderSpec.pre6 enc Tryz.prog Tryz.f6 Rows.mergerunsOrderRow.domain false) (Rows.mergerunsOrderSpec.post enc Tryz.prog Tryz.f6 false true false false):=by
 refine returnsInHanded_of_change (C:=Tryz.checked) own h (by kernel_rfl) Tryz.func6
  (ChangeSpec.witness6 (enc:=enc) (C:=Tryz.checked) false ⟨#[], #[.slice none 0 0,.int .u8 0],[]⟩ 8 (by kernel_rfl) (by kernel_rfl) (by kernel_rfl) (by kernel_rfl)) ?_
 intro W base args J V B k y K _;have g: ∀(j:Nat) t v,Tryz.f6.params[j]?=some t->args[j]?=some v->Value.okWide Tryz.prog W .any base t v:=k;have D:=y;obtain⟨p,q,z,hV,rfl,T,R⟩:=y;have A:DataW.TrodAll enc Tryz.prog W 0 (λ_=>true) true Tryz.f6.params.toList args.toList J p:=z;rw[Tryz.params6]at A g;obtain⟨v0,S,Z,N,p0,U,E,rfl,rfl,G,r0⟩:=trodAll_cons A;obtain⟨v1,M,Y,Q,p1,q1,rfl,rfl,rfl,h1,F⟩:=trodAll_cons r0;obtain⟨rfl,rfl,rfl⟩:=trodAll_nil F;obtain rfl:args= #[v0,v1]:=by cases args;simp_all
 obtain⟨O,L,z0⟩:=JzB JAh JsX (n:=12) (by kernel_rfl) (g 0 22 v0 rfl rfl) G;obtain⟨o,rfl,w0⟩:=rdT 12 (.l (.i .u8)) 22 (by kernel_rfl) _ L;rw[JCG (lns []) (agg:=false) (by kernel_rfl) (λ_=>by first|rfl|contradiction) o]at z0;obtain⟨P,I,z1⟩:=JzB JAh JsX (n:=12) (by kernel_rfl) (g 1 5 v1 rfl rfl) h1;obtain⟨x1,rfl,w1⟩:=rdT 12 (.i .u8) 5 (by kernel_rfl) _ I;rw[JCG (lns []) (agg:=false) (by kernel_rfl) (λ_=>by first|rfl|contradiction) x1]at z1;have run:=JJk (JeF Jz7).1 (xs:=[JEM false (.l (.i .u8)) o,JEM false (.i .u8) x1]) (x:=(o,x1)) rfl (JeK w0 w1) rfl;refine(JDP JIK (f:=6) (vals:= #[v0,v1]) (w:=W) rfl (λi a v ha hv=>?_) run).mono λe W' ⟨he,r⟩=>?_
 ·match i with
  |0=>simp at ha hv;subst ha hv;exact z0
  |1=>simp at ha hv;subst ha hv;exact z1
  |i+2=>simp at ha
 ·subst he;exact⟨_,rfl,JFI JAh JsX JKy (by rw[Tryz.params6];decide+kernel) (by kernel_rfl) (tb:=4) (by kernel_rfl) rfl (λr=>by subst r;rfl) D r⟩
theorem JEr:Tryz.f6.params.all (Tryz.prog.readableRec ·)=true:=by kernel_rfl
theorem JGS:(Rows.mergerunsOrderRow.inPlace==Tryz.prog.inPlace 6)=true:=by kernel_rfl
theorem JKT:(Rows.mergerunsOrderRow.unfollowed==Tryz.prog.unfollowed 6)=true:=by kernel_rfl
theorem JKk:(Rows.mergerunsOrderRow.recurses==Tryz.prog.recurses 6)=true:=by kernel_rfl
theorem JHw:(Rows.mergerunsOrderRow.named==Tryz.prog.varsNamed 6)=true:=by kernel_rfl
theorem JJP:(Rows.mergerunsOrderRow.plainKeys==Tryz.prog.plainKeys)=true:=by kernel_rfl
theorem JFB:joinedFacts Tryz.prog 6 Tryz.f6 Rows.mergerunsOrderSpec Rows.mergerunsOrderRow=true:=by
 unfold joinedFacts;rw[JAh,JsX,JEr,JGS,JKT,JKk,JHw,JJP]
 kernel_rfl
theorem JLl:Rows.mergerunsOrderRow.holds Tryz.pinned (OpenSpec.ofChange Rows.mergerunsOrderSpec):=
 OpenClaim.holds_of_wide 6 Tryz.f6 rfl rfl rfl rfl rfl rfl rfl ⟨rfl,rfl,rfl,rfl,rfl⟩ rfl rfl rfl rfl rfl (by kernel_rfl) Tryz.func6 JFB
  (of_decide_eq_true (by kernel_rfl)) (by unfold Func.isWrapper;first|(rw[if_pos (by decide+kernel)];kernel_rfl)|(rw[if_neg (by decide+kernel)];exact⟨rfl,rfl⟩))
  (λos e H enc _=>JJy os e H enc)
theorem mergerunsOrder_proved:Rows.MergerunsOrderSaid:=JLl
end Go.Proofs.YthnapahopkopbaaGreat
